/- Images of graphs by numbers: the reference's functions. -/
import Derived.Test.YtpdjpdfkacpnnaaSpPa
namespace Go.Am
open Go
set_option linter.unusedVariables false
set_option linter.unusedSimpArgs false
attribute [local irreducible] W
@[go_sem] def c_r02_Merge_r0 : LL := [qn 6 1]
@[go_sem] def c_r02_Merge_r1 : LL := [qm 12 0,qm 13 1,qd 14 1 12 13,ql 15 1 14,qm 16 0,qm 17 2,qd 18 1 16 17,ql 19 1 18,⟨some 20,.mn [.t 15,.t 19],none⟩,qm 21 0,qm 22 1,qd 23 1 21 22,ql 24 1 23,qm 25 0,qm 26 2,
 qd 27 1 25 26,ql 28 1 27,⟨some 29,.mx [.t 24,.t 28],none⟩,qm 7 20,qm 8 29]
@[go_sem] def c_r02_Merge_r2 : LL := [qn 9 1]
@[go_sem] def c_r02_Merge_r3 : LL := [qi 10 0]
@[go_sem] def c_r02_Merge_r4 : LL := [qm 30 10,qm 31 0,qz 32 31,qo .lss 33 30 32]
@[go_sem] def c_r02_Merge_r5 : LL := [qm 36 0,qm 37 10,qd 38 1 36 37,ql 39 1 38,qm 11 39]
@[go_sem] def c_r02_Merge_r6 : LL := [qm 40 11,qm 41 8,qo .eql 42 40 41]
@[go_sem] def c_r02_Merge_r7 : LL := [qm 43 7,qm 11 43]
@[go_sem] def c_r02_Merge_r8 : LL := [qm 44 9,qm 45 11,⟨some 46,.buildSl 1 8 (.int .i64 (0)) 1 [(0,.t 45)],none⟩,qp 47 1 8 44 46,qm 9 47]
@[go_sem] def c_r02_Merge_r9 : LL := [qm 34 10,qk .add 35 34 1,qm 10 35]
def c_r02_Merge_b10 : LC := (.seq (.seq (.reg c_r02_Merge_r4 [0,7,8,9,10,33]) (.cond (.t 33) .skip (.exit 0))) (.seq (.block 1 (.seq (.reg c_r02_Merge_r5 [0,7,8,9,10,11]) (.seq (.seq (.reg c_r02_Merge_r6 [0,7,8,9,10,11,42]) (.cond (.t 42) (.reg c_r02_Merge_r7 [0,7,8,9,10,11]) .skip)) (.reg c_r02_Merge_r8 [0,7,8,9,10])))) (.reg c_r02_Merge_r9 [0,7,8,9,10])))
@[go_sem] def c_r02_Merge_r11 : LL := [qm 48 9,qm 6 48]
@[go_sem] def c_r02_Merge (F : Fn) : LC := (.seq (.reg c_r02_Merge_r0 [0,1,2]) (.seq (.dreg [] c_r02_Merge_r1 [0,7,8]) (.seq (.reg c_r02_Merge_r2 [0,7,8,9]) (.seq (.seq (.reg c_r02_Merge_r3 [0,7,8,9,10]) (.block 0 (.loop [0,7,8,9,10] c_r02_Merge_b10))) (.seq (.reg c_r02_Merge_r11 [6]) .ret)))))
def h_r02_Merge : Hints := hn [] [(0,[0,1,2]),(1,[0,7,8]),(2,[0,7,8,9]),(3,[0,7,8,9,10]),(4,[0,7,8,9,10,33]),(5,[0,7,8,9,10]),(6,[0,7,8,9,10,11]),(7,[0,7,8,9,10,11,42]),(8,[0,7,8,9,10,11]),(9,[0,7,8,9,10]),(10,[6])] [(4,[0,7,8,9,10])]
@[go_sem] def c_r02_Valid_r0 : LL := [qb 2 false]
@[go_sem] def c_r02_Valid_r1 : LL := [qm 4 0,qz 5 4,qk .gtr 6 5 80]
@[go_sem] def c_r02_Valid_r2 : LL := [qb 2 false]
@[go_sem] def c_r02_Valid_r3 : LL := [qi 3 0]
@[go_sem] def c_r02_Valid_r4 : LL := [qm 7 3,qm 8 0,qz 9 8,qo .lss 10 7 9]
@[go_sem] def c_r02_Valid_r5 : LL := [qm 13 0,qm 14 3,qd 15 1 13 14,ql 16 1 15,qk .lss 17 16 0,qm 18 17,qg 18 false (qm 19 0),qg 18 false (qm 20 3),qg 18 false (qd 21 1 19 20),qg 18 false (ql 22 1 21),
 qg 18 false (qm 23 3),qg 18 false (qo .gtr 24 22 23),qQ 25 18 24,qm 26 25,qg 26 false (qm 27 0),qg 26 false (qm 28 0),qg 26 false (qm 29 3),qg 26 false (qd 30 1 28 29),
 qg 26 false (ql 31 1 30),qg 26 false (qd 32 1 27 31),qg 26 false (ql 33 1 32),qg 26 false (qm 34 0),qg 26 false (qm 35 3),qg 26 false (qd 36 1 34 35),qg 26 false (ql 37 1 36),
 qg 26 false (qo .neq 38 33 37),qQ 39 26 38]
@[go_sem] def c_r02_Valid_r6 : LL := [qb 2 false]
@[go_sem] def c_r02_Valid_r7 : LL := [qm 11 3,qk .add 12 11 1,qm 3 12]
def c_r02_Valid_b8 : LC := (.seq (.seq (.reg c_r02_Valid_r4 [0,3,10]) (.cond (.t 10) .skip (.exit 0))) (.seq (.block 1 (.seq (.dreg [] c_r02_Valid_r5 [0,3,39]) (.cond (.t 39) (.seq (.reg c_r02_Valid_r6 [2]) .ret) .skip))) (.reg c_r02_Valid_r7 [0,3])))
@[go_sem] def c_r02_Valid_r9 : LL := [qb 2 true]
@[go_sem] def c_r02_Valid (F : Fn) : LC := (.seq (.reg c_r02_Valid_r0 [0]) (.seq (.seq (.reg c_r02_Valid_r1 [0,6]) (.cond (.t 6) (.seq (.reg c_r02_Valid_r2 [2]) .ret) .skip)) (.seq (.seq (.reg c_r02_Valid_r3 [0,3]) (.block 0 (.loop [0,3] c_r02_Valid_b8))) (.seq (.reg c_r02_Valid_r9 [2]) .ret))))
def h_r02_Valid : Hints := hn [] [(0,[0]),(1,[0,6]),(2,[2]),(3,[0,3]),(4,[0,3,10]),(5,[0,3]),(6,[0,3,39]),(7,[2]),(8,[2])] [(4,[0,3])]
@[go_sem] def c_r02_one_r0 : LL := [qi 2 0]
@[go_sem] def c_r02_one_r1 : LL := [qm 3 0,qz 4 3,qk .gtr 5 4 80]
@[go_sem] def c_r02_one_r2 : LL := [qi 2 3]
@[go_sem] def c_r02_one_r3 (F : Fn) : LL := [qm 6 0,qc 7 (F "r02.Valid") [.t 6],qv 8 7]
@[go_sem] def c_r02_one_r4 : LL := [qi 2 1]
@[go_sem] def c_r02_one_r5 : LL := [qi 2 0]
@[go_sem] def c_r02_one (F : Fn) : LC := (.seq (.reg c_r02_one_r0 [0]) (.seq (.seq (.reg c_r02_one_r1 [0,5]) (.cond (.t 5) (.seq (.reg c_r02_one_r2 [2]) .ret) .skip)) (.seq (.seq (.reg (c_r02_one_r3 F) [8]) (.cond (.t 8) (.seq (.reg c_r02_one_r4 [2]) .ret) .skip)) (.seq (.reg c_r02_one_r5 [2]) .ret))))
def h_r02_one : Hints := hOf [] (c_r02_one fun _ => 0)
@[go_sem] def c_r02_Quotient_r0 : LL := [qn 2 1,qi 3 0,qi 4 0]
@[go_sem] def c_r02_Quotient_r1 (F : Fn) : LL := [qm 9 0,qc 10 (F "r02.one") [.t 9],qm 5 10]
@[go_sem] def c_r02_Quotient_r2 : LL := [qm 11 5,qk .neq 12 11 0]
@[go_sem] def c_r02_Quotient_r3 : LL := [qm 13 5,qn 2 1,qi 3 0,qm 4 13]
@[go_sem] def c_r02_Quotient_r4 : LL := [qn 6 1]
@[go_sem] def c_r02_Quotient_r5 : LL := [qi 7 0]
@[go_sem] def c_r02_Quotient_r6 : LL := [qi 8 0]
@[go_sem] def c_r02_Quotient_r7 : LL := [qm 14 8,qm 15 0,qz 16 15,qo .lss 17 14 16]
@[go_sem] def c_r02_Quotient_r8 : LL := [qm 20 0,qm 21 8,qd 22 1 20 21,ql 23 1 22,qm 24 8,qo .eql 25 23 24]
@[go_sem] def c_r02_Quotient_r9 : LL := [qm 26 6,qm 27 7,⟨some 28,.buildSl 1 8 (.int .i64 (0)) 1 [(0,.t 27)],none⟩,qp 29 1 8 26 28,qm 6 29]
@[go_sem] def c_r02_Quotient_r10 : LL := [qm 30 7,qk .add 31 30 1,qm 7 31]
@[go_sem] def c_r02_Quotient_r11 : LL := [qm 32 6,qm 33 6,qm 34 0,qm 35 8,qd 36 1 34 35,ql 37 1 36,qd 38 1 33 37,ql 39 1 38,⟨some 40,.buildSl 1 8 (.int .i64 (0)) 1 [(0,.t 39)],none⟩,qp 41 1 8 32 40,qm 6 41]
@[go_sem] def c_r02_Quotient_r12 : LL := [qm 18 8,qk .add 19 18 1,qm 8 19]
def c_r02_Quotient_b13 : LC := (.seq (.seq (.reg c_r02_Quotient_r7 [0,6,7,8,17]) (.cond (.t 17) .skip (.exit 0))) (.seq (.block 1 (.seq (.reg c_r02_Quotient_r8 [0,6,7,8,25]) (.cond (.t 25) (.seq (.reg c_r02_Quotient_r9 [0,6,7,8]) (.reg c_r02_Quotient_r10 [0,6,7,8])) (.reg c_r02_Quotient_r11 [0,6,7,8])))) (.reg c_r02_Quotient_r12 [0,6,7,8])))
@[go_sem] def c_r02_Quotient_r14 : LL := [qm 42 6,qm 43 7,qm 2 42,qm 3 43,qi 4 0]
@[go_sem] def c_r02_Quotient (F : Fn) : LC := (.seq (.reg c_r02_Quotient_r0 [0]) (.seq (.seq (.reg (c_r02_Quotient_r1 F) [0,5]) (.seq (.reg c_r02_Quotient_r2 [0,5,12]) (.cond (.t 12) (.seq (.reg c_r02_Quotient_r3 [2,3,4]) .ret) .skip))) (.seq (.reg c_r02_Quotient_r4 [0,6]) (.seq (.reg c_r02_Quotient_r5 [0,6,7]) (.seq (.seq (.reg c_r02_Quotient_r6 [0,6,7,8]) (.block 0 (.loop [0,6,7,8] c_r02_Quotient_b13))) (.seq (.reg c_r02_Quotient_r14 [2,3,4]) .ret))))))
def h_r02_Quotient : Hints := hn [] [(0,[0]),(1,[0,5]),(2,[0,5,12]),(3,[2,3,4]),(4,[0,6]),(5,[0,6,7]),(6,[0,6,7,8]),(7,[0,6,7,8,17]),(8,[0,6,7,8]),(9,[0,6,7,8,25]),(10,[0,6,7,8]),(11,[0,6,7,8]),(12,[0,6,7,8]),(13,[2,3,4])] [(7,[0,6,7,8])]
structure Pv (p : List Int) : Prop where
 l : p.length ≤ 80
 h : ∀ i : Nat, i < p.length → (0 ≤ gt p i ∧ gt p i ≤ i) ∧ gt p (gt p i) = gt p i
section
variable (P : Program) (F : String → Nat)
def K_r02_Merge : Prop := ∀ (p : List Int) (a b : Nat), p.length ≤ 1000 → a < p.length → b < p.length → FC P (F "r02.Merge") [.lst 1 (ints p), .int .i64 a, .int .i64 b] (.arr 1 (ints (mergeL p a b))) []
def K_r02_Valid : Prop := ∀ p : List Int, Pv p → FC P (F "r02.Valid") [.lst 1 (ints p)] (.bool true) []
def K_r02_one : Prop := ∀ p : List Int, Pv p → FC P (F "r02.one") [.lst 1 (ints p)] (.int .i64 0) []
def K_r02_Quotient : Prop := ∀ p : List Int, Pv p → FC P (F "r02.Quotient") [.lst 1 (ints p)] (.tup [.arr 1 (ints (quo p p.length).1), .int .i64 (quo p p.length).2, .int .i64 0]) []
end
section
variable {P : Program} {F : String → Nat} {α : Type}
theorem w_r02_Merge (p : List Int) (a b : Nat) (hl : p.length ≤ 1000) (ha : a < p.length) (hb : b < p.length) : W P (c_r02_Merge F) (Done [.t 6] [] (.arr 1 (ints (mergeL p a b))) []) (init [.lst 1 (ints p), .int .i64 a, .int .i64 b]) := by
 refine W_of ?_
 have ht : ∀ i : Nat, i < p.length → mergeL (p.take (i + 1)) (0 : Int) 0 = mergeL (p.take (i + 1)) 0 0 := fun i hi => rfl
 have hE : mergeL p a b = p.map fun k => if k = max (gt p a) (gt p b) then min (gt p a) (gt p b) else k := rfl
 have hlo : min (gt p a) (gt p b) = if gt p b < gt p a then gt p b else gt p a := by rw [Int.min_def]; split <;> split <;> omega
 have hhi : max (gt p a) (gt p b) = if gt p a < gt p b then gt p b else gt p a := by rw [Int.max_def]; split <;> split <;> omega
 rw [hE, hlo, hhi]
 clear hE ht hlo hhi
 simp (disch := omega) only [go_sem, ↓reduceIte]
 generalize (if gt p (b : Int) < gt p (a : Int) then gt p (b : Int) else gt p (a : Int)) = lo
 generalize (if gt p (a : Int) < gt p (b : Int) then gt p (b : Int) else gt p (a : Int)) = hi
 refine W_loop (fun i : Nat => ⟨[(0, .lst 1 (ints p)), (7, .int .i64 lo), (8, .int .i64 hi), (9, .sl 0 0 i), (10, .int .i64 i)], [(0, .arr 1 (ints ((p.take i).map fun k => if k = hi then lo else k)))], 1⟩) (fun i => i ≤ p.length) (fun i => p.length - i) 0 ?_ ?_ ?_
 ·simp (disch := omega) only [go_sem, ↓reduceIte, ints_nil]
  rfl
 ·simp
 ·intro i hi'
  have e1 : ((p.take i).map fun k => if k = hi then lo else k).length = i := by simp; omega
  simp (disch := omega) only [go_sem, ↓reduceIte, c_r02_Merge_b10]
  refine bran_dec (fun c => ?_) (fun c => ?_)
  ·simp (disch := omega) only [go_sem, ↓reduceIte]
   refine bran_dec (fun d => ?_) (fun d => ?_)
   ·simp (disch := omega) only [go_sem, ↓reduceIte, e1]
    exact ⟨i + 1, by rw [take_gt (by omega)]; simp [d], by omega, by omega⟩
   ·simp (disch := omega) only [go_sem, ↓reduceIte, e1]
    exact ⟨i + 1, by rw [take_gt (by omega)]; simp [d], by omega, by omega⟩
  ·obtain rfl : i = p.length := by omega
   rw [List.take_length] at e1
   simp (disch := omega) only [go_sem, ↓reduceIte, e1]
theorem w_r02_Valid (p : List Int) (hp : Pv p) : W P (c_r02_Valid F) (Done [.t 2] [] (.bool true) []) (init [.lst 1 (ints p)]) := by
 refine W_of ?_
 obtain ⟨hl, h⟩ := hp
 have g0 : decide ((80 : Int) < p.length) = false := decide_eq_false (by omega)
 simp (disch := omega) only [go_sem, ↓reduceIte, g0]
 refine W_loop (fun i : Nat => ⟨[(0, .lst 1 (ints p)), (3, .int .i64 i)], [], 0⟩) (fun i => i ≤ p.length) (fun i => p.length - i) 0 ?_ ?_ ?_
 ·simp (disch := omega) only [go_sem, ↓reduceIte]
  rfl
 ·simp
 ·intro i hi
  by_cases c : i < p.length
  ·obtain ⟨⟨h1, h2⟩, h3⟩ := h i c
   have g1 : decide ((i : Int) < p.length) = true := decide_eq_true (by omega)
   have g2 : decide (gt p i < 0) = false := decide_eq_false (by omega)
   have g3 : decide ((i : Int) < gt p i) = false := decide_eq_false (by omega)
   have g4 : decide (gt p (gt p i) = gt p i) = true := decide_eq_true h3
   simp (disch := omega) only [go_sem, ↓reduceIte, c_r02_Valid_b8, g1, g2, g3, g4]
   exact ⟨i + 1, by simp, by omega, by omega⟩
  ·have g1 : decide ((i : Int) < p.length) = false := decide_eq_false (by omega)
   simp (disch := omega) only [go_sem, ↓reduceIte, c_r02_Valid_b8, g1]
theorem w_r02_one (hv : K_r02_Valid P F) (p : List Int) (hp : Pv p) : W P (c_r02_one F) (Done [.t 2] [] (.int .i64 0) []) (init [.lst 1 (ints p)]) := by
 refine W_of ?_
 have r := hv p hp
 obtain ⟨hl, h⟩ := hp
 have g0 : decide ((80 : Int) < p.length) = false := decide_eq_false (by omega)
 simp (disch := omega) only [go_sem, ↓reduceIte, g0]
 refine call_by r ?_
 simp (disch := omega) only [go_sem, ↓reduceIte]
theorem w_r02_Quotient (ho : K_r02_one P F) (p : List Int) (hp : Pv p) : W P (c_r02_Quotient F) (Done [.t 2, .t 3, .t 4] [] (.tup [.arr 1 (ints (quo p p.length).1), .int .i64 (quo p p.length).2, .int .i64 0]) []) (init [.lst 1 (ints p)]) := by
 refine W_of ?_
 have r := ho p hp
 obtain ⟨hl, h⟩ := hp
 have ql : ∀ i : Nat, (quo p i).1.length = i ∧ (quo p i).2 ≤ i := fun i => by
  induction i with
  | zero => simp [quo]
  | succ i ih =>
   rw [quo]
   split <;> simp [ih.1] <;> omega
 simp (disch := omega) only [go_sem, ↓reduceIte]
 refine call_by r ?_
 simp (disch := omega) only [go_sem, ↓reduceIte]
 refine W_loop (fun i : Nat => ⟨[(0, .lst 1 (ints p)), (6, .sl 0 0 i), (7, .int .i64 (quo p i).2), (8, .int .i64 i)], [(0, .arr 1 (ints (quo p i).1))], 1⟩) (fun i => i ≤ p.length) (fun i => p.length - i) 0 ?_ ?_ ?_
 ·simp (disch := omega) only [go_sem, ↓reduceIte, ints_nil, quo]
  rfl
 ·simp
 ·intro i hi
  obtain ⟨e1, e2⟩ := ql i
  have hs : quo p (i + 1) = if gt p i = i then ((quo p i).1 ++ [((quo p i).2 : Int)], (quo p i).2 + 1) else ((quo p i).1 ++ [gt (quo p i).1 (gt p i)], (quo p i).2) := rfl
  simp (disch := omega) only [go_sem, ↓reduceIte, c_r02_Quotient_b13]
  refine bran_dec (fun c => ?_) (fun c => ?_)
  ·obtain ⟨⟨h1, h2⟩, h3⟩ := h i (by omega)
   simp (disch := omega) only [go_sem, ↓reduceIte]
   refine bran_dec (fun d => ?_) (fun d => ?_)
   ·rw [if_pos d] at hs
    simp (disch := omega) only [go_sem, ↓reduceIte, e1]
    exact ⟨i + 1, by simp [hs], by omega, by omega⟩
   ·rw [if_neg d] at hs
    simp (disch := omega) only [go_sem, ↓reduceIte, e1]
    exact ⟨i + 1, by simp [hs], by omega, by omega⟩
  ·obtain rfl : i = p.length := by omega
   simp (disch := omega) only [go_sem, ↓reduceIte, e1]
end
@[go_sem] def c_morphism_numbers_r0 : LL := [qn 2 1]
@[go_sem] def c_morphism_numbers_r1 : LL := [qm 5 0,⟨some 6,.makeSl 1 8 (.int .i64 (0)) (.t 5),none⟩,qm 3 6]
@[go_sem] def c_morphism_numbers_r2 : LL := [qm 7 3,qz 8 7,qi 9 0]
@[go_sem] def c_morphism_numbers_r3 : LL := [qo .lss 10 9 8]
@[go_sem] def c_morphism_numbers_r4 : LL := [qm 11 9,qm 4 11]
@[go_sem] def c_morphism_numbers_r5 : LL := [qm 12 3,qm 13 4,qm 14 4,qd 15 1 12 13,qs 1 15 14]
@[go_sem] def c_morphism_numbers_r6 : LL := [qk .add 16 9 1,qm 9 16]
def c_morphism_numbers_b7 : LC := (.seq (.reg c_morphism_numbers_r3 [3,8,9,10]) (.seq (.cond (.t 10) .skip (.exit 0)) (.seq (.block 1 (.seq (.reg c_morphism_numbers_r4 [3,4,8,9]) (.reg c_morphism_numbers_r5 [3,8,9]))) (.reg c_morphism_numbers_r6 [3,8,9]))))
@[go_sem] def c_morphism_numbers_r8 : LL := [qm 17 3,qm 2 17]
@[go_sem] def c_morphism_numbers (F : Fn) : LC := (.seq (.reg c_morphism_numbers_r0 [0]) (.seq (.reg c_morphism_numbers_r1 [3]) (.seq (.seq (.reg c_morphism_numbers_r2 [3,8,9]) (.block 0 (.loop [3,8,9] c_morphism_numbers_b7))) (.seq (.reg c_morphism_numbers_r8 [2]) .ret))))
def h_morphism_numbers : Hints := hOf [] (c_morphism_numbers fun _ => 0)
@[go_sem] def c_morphism_Identity_r0 : LL := [qB 1 0,qa 2 [.nl 1,.nl 1],qi 3 0]
@[go_sem] def c_morphism_Identity_r1 (F : Fn) : LL := [qL 5 2 1,qc 6 (F "graph.Valid") [.t 5],qm 4 6]
@[go_sem] def c_morphism_Identity_r2 : LL := [qm 7 4,qk .neq 8 7 0]
@[go_sem] def c_morphism_Identity_r3 : LL := [qu 9 [.nl 1,.nl 1] [],qm 10 4,qs 2 2 9,qm 3 10]
@[go_sem] def c_morphism_Identity_r4 (F : Fn) : LL := [qf 11 0 1,ql 12 1 11,qz 13 12,qc 14 (F "morphism.numbers") [.t 13],qf 15 1 1,ql 16 1 15,qz 17 16,qc 18 (F "morphism.numbers") [.t 17],qu 19 [.nl 1,.nl 1] [(0,1,.t 14),(1,1,.t 18)],qs 2 2 19,qi 3 0]
@[go_sem] def c_morphism_Identity (F : Fn) : LC := (.seq (.reg c_morphism_Identity_r0 [1,2]) (.seq (.seq (.reg (c_morphism_Identity_r1 F) [1,2,4]) (.seq (.reg c_morphism_Identity_r2 [1,2,4,8]) (.cond (.t 8) (.seq (.reg c_morphism_Identity_r3 [2,3]) .ret) .skip))) (.seq (.dreg [(3,none,[],true),(5,(some 16),[3],false)] (c_morphism_Identity_r4 F) [2,3]) .ret)))
def h_morphism_Identity : Hints := hOf [] (c_morphism_Identity fun _ => 0)
@[go_sem] def c_r02_Finest_r0 : LL := [qn 2 1]
@[go_sem] def c_r02_Finest_r1 : LL := [qn 3 1]
@[go_sem] def c_r02_Finest_r2 : LL := [qi 4 0]
@[go_sem] def c_r02_Finest_r3 : LL := [qm 5 4,qm 6 0,qo .lss 7 5 6]
@[go_sem] def c_r02_Finest_r4 : LL := [qm 10 3,qm 11 4,⟨some 12,.buildSl 1 8 (.int .i64 (0)) 1 [(0,.t 11)],none⟩,qp 13 1 8 10 12,qm 3 13]
@[go_sem] def c_r02_Finest_r5 : LL := [qm 8 4,qk .add 9 8 1,qm 4 9]
def c_r02_Finest_b6 : LC := (.seq (.seq (.reg c_r02_Finest_r3 [0,3,4,7]) (.cond (.t 7) .skip (.exit 0))) (.seq (.block 1 (.reg c_r02_Finest_r4 [0,3,4])) (.reg c_r02_Finest_r5 [0,3,4])))
@[go_sem] def c_r02_Finest_r7 : LL := [qm 14 3,qm 2 14]
@[go_sem] def c_r02_Finest (F : Fn) : LC := (.seq (.reg c_r02_Finest_r0 [0]) (.seq (.reg c_r02_Finest_r1 [0,3]) (.seq (.seq (.reg c_r02_Finest_r2 [0,3,4]) (.block 0 (.loop [0,3,4] c_r02_Finest_b6))) (.seq (.reg c_r02_Finest_r7 [2]) .ret))))
def h_r02_Finest : Hints := hOf [] (c_r02_Finest fun _ => 0)
@[go_sem] def c_r06_Of_r0 : LL := [qB 1 0,qa 2 [.nl 1,.nl 1]]
@[go_sem] def c_r06_Of_r1 (F : Fn) : LL := [qf 3 0 1,ql 4 1 3,qz 5 4,qc 6 (F "r02.Finest") [.t 5],qf 7 1 1,ql 8 1 7,qz 9 8,qc 10 (F "r02.Finest") [.t 9],qu 11 [.nl 1,.nl 1] [(0,1,.t 6),(1,1,.t 10)],qs 2 2 11]
@[go_sem] def c_r06_Of (F : Fn) : LC := (.seq (.reg c_r06_Of_r0 [1,2]) (.seq (.dreg [(3,none,[],true),(5,(some 16),[3],false)] (c_r06_Of_r1 F) [2]) .ret))
def h_r06_Of : Hints := hOf [] (c_r06_Of fun _ => 0)
def idE (g : G) : Mo × Int := if validG g ≠ 0 then (m0, validG g) else (idM g, 0)
section
variable (P : Program) (F : String → Nat)
def K_morphism_numbers : Prop := ∀ n : Nat, n ≤ 1000000 → FC P (F "morphism.numbers") [.int .i64 n] (.arr 1 (ints (nums 0 n))) []
def K_morphism_Identity : Prop := ∀ g : G, FC P (F "morphism.Identity") [gD g] (.tup [mA (idE g).1, .int .i64 (idE g).2]) []
def K_r02_Finest : Prop := ∀ n : Nat, n ≤ 1000000 → FC P (F "r02.Finest") [.int .i64 n] (.arr 1 (ints (nums 0 n))) []
def K_r06_Of : Prop := ∀ g : G, g.n.length ≤ 1000000 → g.e.length ≤ 1000000 → FC P (F "r06.Of") [gD g] (mA (idM g)) []
end
section
variable {P : Program} {F : String → Nat} {α : Type}
theorem fillL {α : Type} (l : List α) (x z : α) (m : Nat) : (l ++ List.replicate (m + 1) z).set l.length x = (l ++ [x]) ++ List.replicate m z := by
 rw [List.set_append_right _ _ (Nat.le_refl _)]
 simp [List.replicate_succ]
theorem w_morphism_numbers (n : Nat) (hn : n ≤ 1000000) : W P (c_morphism_numbers F) (Done [.t 2] [] (.arr 1 (ints (nums 0 n))) []) (init [.int .i64 n]) := by
 refine W_of ?_
 simp (config := { maxSteps := 1000000 }) (disch := first | omega | (simp only [go_sem]; omega)) only [go_sem, ↓reduceIte]
 refine W_loop (fun i : Nat => ⟨[(3, .sl 0 0 n), (8, .int .i64 n), (9, .int .i64 i)], [(0, .arr 1 (ints (nums 0 i ++ List.replicate (n - i) 0)))], 1⟩) (fun i => i ≤ n) (fun i => n - i) 0 ?_ ?_ ?_
 ·simp (config := { maxSteps := 1000000 }) (disch := first | omega | (simp only [go_sem]; omega)) only [go_sem, ↓reduceIte, nums_zero]
  rfl
 ·omega
 ·intro i hi
  have hl := nums_len 0 i
  simp (config := { maxSteps := 1000000 }) (disch := first | omega | (simp only [go_sem]; omega)) only [go_sem, ↓reduceIte, c_morphism_numbers_b7]
  refine bran_dec (fun c => ?_) (fun c => ?_)
  ·have hf : (nums 0 i ++ List.replicate (n - i) 0).set i (i : Int) = nums 0 (i + 1) ++ List.replicate (n - (i + 1)) 0 := by
    have := fillL (nums 0 i) (i : Int) 0 (n - (i + 1))
    rw [hl, show n - (i + 1) + 1 = n - i by omega] at this
    rw [this, nums_succ]
    simp
   simp (config := { maxSteps := 1000000 }) (disch := first | omega | (simp only [go_sem]; omega)) only [go_sem, ↓reduceIte, hl, hf]
   exact ⟨i + 1, by simp, by omega, by omega⟩
  ·obtain rfl : i = n := by omega
   simp (config := { maxSteps := 1000000 }) (disch := first | omega | (simp only [go_sem]; omega)) only [go_sem, ↓reduceIte, hl]
   simp
theorem w_r02_Finest (n : Nat) (h2 : n ≤ 1000000) : W P (c_r02_Finest F) (Done [.t 2] [] (.arr 1 (ints (nums 0 n))) []) (init [.int .i64 n]) := by
 refine W_of ?_
 simp (disch := omega) only [go_sem, ↓reduceIte]
 refine W_loop (fun i : Nat => ⟨[(0, .int .i64 n), (3, .sl 0 0 i), (4, .int .i64 i)], [(0, .arr 1 (ints (nums 0 i)))], 1⟩) (fun i => i ≤ n) (fun i => n - i) 0 ?_ ?_ ?_
 ·simp (disch := omega) only [go_sem, ↓reduceIte, nums_zero, ints_nil]
  rfl
 ·omega
 ·intro i hi
  have e1 := nums_len 0 i
  simp (disch := omega) only [go_sem, ↓reduceIte, c_r02_Finest_b6]
  refine bran_dec (fun a => ?_) (fun a => ?_)
  ·simp (disch := omega) only [go_sem, ↓reduceIte, e1]
   exact ⟨i + 1, by simp [nums_succ], by omega, by omega⟩
  ·obtain rfl : i = n := by omega
   simp (disch := omega) only [go_sem, ↓reduceIte, e1]
theorem w_morphism_Identity (hv : K_graph_Valid P F) (hn : K_morphism_numbers P F) (g : G) : W P (c_morphism_Identity F) (Done [.c 2 true 2, .t 3] [] (.tup [mA (idE g).1, .int .i64 (idE g).2]) []) (init [gD g]) := by
 refine W_of ?_
 have rv := hv g
 have hs := @valid_spec g
 have hE : idE g = if validG g ≠ 0 then (m0, validG g) else (idM g, 0) := rfl
 generalize idE g = q at *
 generalize validG g = v at *
 obtain ⟨gn, ge⟩ := g
 simp only [gD] at *
 simp (disch := omega) only [go_sem, ↓reduceIte]
 refine call_by rv ?_
 simp (disch := omega) only [go_sem, ↓reduceIte]
 refine bran_ndec (fun c => ?_) (fun c => ?_)
 ·rw [if_pos c] at hE
  subst hE
  simp (disch := omega) only [go_sem, ↓reduceIte]
  first | rfl | done | simp [m0, mA, ints]
 ·subst c
  rw [if_neg (by simp)] at hE
  subst hE
  obtain ⟨l1, l2, _⟩ := hs rfl
  have r1 := hn gn.length (by omega)
  have r2 := hn ge.length (by omega)
  simp (disch := omega) only [go_sem, ↓reduceIte]
  refine call_by r1 ?_
  simp (disch := omega) only [go_sem, ↓reduceIte]
  refine call_by r2 ?_
  simp (disch := omega) only [go_sem, ↓reduceIte]
  try simp [idM, mA]
theorem w_r06_Of (hn : K_r02_Finest P F) (g : G) (h1 : g.n.length ≤ 1000000) (h2 : g.e.length ≤ 1000000) : W P (c_r06_Of F) (Done [.c 2 true 2] [] (mA (idM g)) []) (init [gD g]) := by
 refine W_of ?_
 obtain ⟨gn, ge⟩ := g
 simp only at h1 h2
 have r1 := hn gn.length (by omega)
 have r2 := hn ge.length (by omega)
 simp only [gD]
 simp (disch := omega) only [go_sem, ↓reduceIte]
 refine call_by r1 ?_
 simp (disch := omega) only [go_sem, ↓reduceIte]
 refine call_by r2 ?_
 simp (disch := omega) only [go_sem, ↓reduceIte]
 simp [idM, mA]
end
def genI (n : Nat) (l : List Pr) : Nat → List Int
 | 0 => nums 0 n
 | i + 1 => mergeL (genI n l i) (gt l i).a (gt l i).b
def genL (n : Nat) (l : List Pr) : List Int := genI n l l.length
def PrIn (n : Nat) (l : List Pr) : Prop := ∀ i : Nat, i < l.length → (0 ≤ (gt l i).a ∧ (gt l i).a < n) ∧ (0 ≤ (gt l i).b ∧ (gt l i).b < n)
structure Fo (p r : List Int) : Prop where
 l : p.length = r.length
 b : ∀ i : Nat, i < p.length → 0 ≤ gt p i ∧ gt p i ≤ i
 s : ∀ i : Nat, i < p.length → gt r (gt p i) = gt r i
 t : ∀ i : Nat, i < p.length → gt p i = i → gt r i = i
 c : ∀ i : Nat, i < p.length → (0 ≤ gt r i ∧ gt r i ≤ i) ∧ gt p (gt r i) = gt r i
def Idem (p : List Int) : Prop := ∀ i : Nat, i < p.length → (0 ≤ gt p i ∧ gt p i ≤ i) ∧ gt p (gt p i) = gt p i
def qN {α : Type} [Inhabited α] (l : List α) (p : List Int) : Nat → List α
 | 0 => []
 | i + 1 => if gt p i = i then qN l p i ++ [gt l i] else qN l p i
def setL {α : Type} [Inhabited α] (l : List α) (q : List Int) (z : List α) : Nat → List α
 | 0 => z
 | i + 1 => (setL l q z i).set (gt q i).toNat (gt l i)
section
theorem natI {x : Int} (h : 0 ≤ x) : ∃ k : Nat, x = (k : Int) := ⟨x.toNat, by omega⟩
theorem mergeL_gt {p : List Int} {a b : Int} {i : Nat} (hi : i < p.length) : gt (mergeL p a b) i = if gt p i = max (gt p a) (gt p b) then min (gt p a) (gt p b) else gt p i := by
 unfold mergeL
 rw [gt_nat (by simpa using hi), gt_nat hi]
 simp
theorem Fo.idem {p r : List Int} (h : Fo p r) : Idem r := fun i hi => by
 obtain ⟨h1, h3⟩ := h.c i (by have := h.l; omega)
 refine ⟨h1, ?_⟩
 obtain ⟨k, hk⟩ := natI h1.1
 rw [hk] at h1 h3 ⊢
 exact h.t k (by have := h.l; omega) h3
theorem nums_Fo (n : Nat) : Fo (nums 0 n) (nums 0 n) := by
 refine ⟨rfl, fun i hi => ?_, fun i hi => ?_, fun i hi _ => ?_, fun i hi => ?_⟩ <;> rw [nums_len] at hi
 ·rw [nums_gt hi]; omega
 ·rw [nums_gt hi]; exact nums_gt hi
 ·exact nums_gt hi
 ·rw [nums_gt hi]; exact ⟨by omega, nums_gt hi⟩
theorem Fo.unite {p r : List Int} (h : Fo p r) {a b : Nat} (ha : a < p.length) (hb : b < p.length) :
  Fo (p.set (max (gt r a) (gt r b)).toNat (min (gt r a) (gt r b))) (mergeL r a b) := by
 have hl := h.l
 obtain ⟨⟨a1, a2⟩, a3⟩ := h.c a ha
 obtain ⟨⟨b1, b2⟩, b3⟩ := h.c b hb
 have ia := (h.idem a (by omega)).2
 have ib := (h.idem b (by omega)).2
 have hg : ∀ i : Nat, i < p.length → gt (mergeL r a b) i = if gt r i = max (gt r a) (gt r b) then min (gt r a) (gt r b) else gt r i := fun i hi => mergeL_gt (by omega)
 have hm : (mergeL r a b).length = p.length := by rw [merge_len, hl]
 have l1 : gt r (min (gt r a) (gt r b)) = min (gt r a) (gt r b) ∧ gt p (min (gt r a) (gt r b)) = min (gt r a) (gt r b) := by
  by_cases c : gt r a ≤ gt r b
  ·rw [Int.min_eq_left c]; exact ⟨ia, a3⟩
  ·rw [Int.min_eq_right (by omega)]; exact ⟨ib, b3⟩
 have h1 : gt r (max (gt r a) (gt r b)) = max (gt r a) (gt r b) ∧ gt p (max (gt r a) (gt r b)) = max (gt r a) (gt r b) := by
  by_cases c : gt r a ≤ gt r b
  ·rw [Int.max_eq_right c]; exact ⟨ib, b3⟩
  ·rw [Int.max_eq_left (by omega)]; exact ⟨ia, a3⟩
 obtain ⟨lo, hlo⟩ := natI (x := min (gt r a) (gt r b)) (by omega)
 obtain ⟨hi, hhi⟩ := natI (x := max (gt r a) (gt r b)) (by omega)
 have hle : lo ≤ hi := by omega
 have hlt : hi < p.length := by omega
 rw [hlo] at l1
 rw [hhi] at h1
 rw [hlo, hhi, Int.toNat_natCast]
 simp only [hlo, hhi] at hg
 generalize mergeL r a b = r' at *
 have hp : ∀ i : Nat, i < p.length → gt (p.set hi (lo : Int)) i = if hi = i then (lo : Int) else gt p i := fun i hi' => gt_setH hi'
 refine ⟨by simp [hm], fun i hi' => ?_, fun i hi' => ?_, fun i hi' => ?_, fun i hi' => ?_⟩ <;> rw [List.length_set] at hi'
 ·rw [hp i hi']
  split
  ·omega
  ·exact h.b i hi'
 ·rw [hp i hi']
  split
  ·rename_i e; subst e
   rw [hg lo (by omega), hg hi hlt, l1.1, h1.1, if_pos rfl]
   split <;> rfl
  ·have hb' := h.b i hi'
   have hs := h.s i hi'
   obtain ⟨k, hk⟩ := natI hb'.1
   rw [hk] at hs hb' ⊢
   rw [hg k (by omega), hg i hi', hs]
 ·rw [hp i hi', hg i hi']
  split
  ·rename_i e; subst e
   intro e
   rw [h1.1, if_pos rfl]; exact e
  ·rename_i e
   intro e2
   rw [h.t i hi' e2, if_neg (by omega)]
 ·obtain ⟨⟨c1, c2⟩, c3⟩ := h.c i hi'
  rw [hg i hi']
  split
  ·refine ⟨by omega, ?_⟩
   rw [hp lo (by omega), l1.2]
   split <;> rfl
  ·rename_i e
   refine ⟨⟨c1, c2⟩, ?_⟩
   obtain ⟨k, hk⟩ := natI c1
   rw [hk] at c2 c3 e ⊢
   rw [hp k (by omega), if_neg (by omega)]
   exact c3
theorem Fo.flat {p r : List Int} (h : Fo p r) {i : Nat} (hi : i < p.length) : Fo (p.set i (gt r i)) r := by
 obtain ⟨⟨c1, c2⟩, c3⟩ := h.c i hi
 have hid := (h.idem i (by have := h.l; omega)).2
 have hp : ∀ k : Nat, k < p.length → gt (p.set i (gt r i)) k = if i = k then gt r i else gt p k := fun k hk => gt_setH hk
 refine ⟨by simp [h.l], fun k hk => ?_, fun k hk => ?_, fun k hk => ?_, fun k hk => ?_⟩ <;> rw [List.length_set] at hk
 ·rw [hp k hk]
  split
  ·omega
  ·exact h.b k hk
 ·rw [hp k hk]
  split
  ·rename_i e; subst e; exact hid
  ·exact h.s k hk
 ·rw [hp k hk]
  split
  ·rename_i e; subst e; exact id
  ·exact h.t k hk
 ·obtain ⟨⟨d1, d2⟩, d3⟩ := h.c k hk
  refine ⟨⟨d1, d2⟩, ?_⟩
  have he := (h.idem k (by have := h.l; omega)).2
  obtain ⟨m, hm⟩ := natI d1
  rw [hm] at d2 d3 he ⊢
  rw [hp m (by omega)]
  split
  ·rename_i e; subst e; exact he
  ·exact d3
theorem gen_Fo {n : Nat} {l : List Pr} (hl : PrIn n l) : ∀ i : Nat, i ≤ l.length → ∃ p, Fo p (genI n l i) ∧ p.length = n
 | 0, _ => ⟨_, nums_Fo n, nums_len 0 n⟩
 | i + 1, hi => by
  obtain ⟨p, h1, h2⟩ := gen_Fo hl i (by omega)
  obtain ⟨⟨a1, a2⟩, b1, b2⟩ := hl i (by omega)
  obtain ⟨a, ha⟩ := natI a1
  obtain ⟨b, hb⟩ := natI b1
  rw [genI, ha, hb]
  exact ⟨_, h1.unite (a := a) (b := b) (by omega) (by omega), by rw [List.length_set, h2]⟩
theorem gen_len {n : Nat} {l : List Pr} : ∀ i : Nat, (genI n l i).length = n
 | 0 => nums_len 0 n
 | i + 1 => by rw [genI, merge_len, gen_len i]
theorem gen_idem {n : Nat} {l : List Pr} (hl : PrIn n l) {i : Nat} (hi : i ≤ l.length) : Idem (genI n l i) :=
 let ⟨_, h, _⟩ := gen_Fo hl i hi; h.idem
theorem merge_same {p : List Int} {a b : Int} {x y : Nat} (hx : x < p.length) (hy : y < p.length) (h : gt p x = gt p y) : gt (mergeL p a b) x = gt (mergeL p a b) y := by
 rw [mergeL_gt hx, mergeL_gt hy, h]
theorem merge_ab {p : List Int} {a b : Nat} (ha : a < p.length) (hb : b < p.length) : gt (mergeL p a b) a = gt (mergeL p a b) b := by
 rw [mergeL_gt ha, mergeL_gt hb]
 by_cases c : gt p a ≤ gt p b
 ·rw [Int.max_eq_right c, Int.min_eq_left c, if_pos rfl]
  split <;> rfl
 ·rw [Int.max_eq_left (by omega), Int.min_eq_right (by omega), if_pos rfl]
  split <;> rfl
theorem gen_pair {n : Nat} {l : List Pr} (hl : PrIn n l) : ∀ i : Nat, i ≤ l.length → ∀ k : Nat, k < i → gt (genI n l i) (gt l k).a = gt (genI n l i) (gt l k).b
 | 0, _, k, hk => by omega
 | i + 1, hi, k, hk => by
  have gl := gen_len (n := n) (l := l) i
  obtain ⟨⟨a1, a2⟩, b1, b2⟩ := hl k (by omega)
  rw [genI]
  by_cases c : k = i
  ·subst c
   obtain ⟨a, ha⟩ := natI a1
   obtain ⟨b, hb⟩ := natI b1
   rw [ha, hb]
   exact merge_ab (by omega) (by omega)
  ·have ih := gen_pair hl i (by omega) k (by omega)
   obtain ⟨a, ha⟩ := natI a1
   obtain ⟨b, hb⟩ := natI b1
   rw [ha, hb] at ih ⊢
   exact merge_same (by omega) (by omega) ih
theorem gen_fun {β : Type} {φ : Int → β} {n : Nat} {l : List Pr} (hl : PrIn n l) (hf : ∀ i : Nat, i < l.length → φ (gt l i).a = φ (gt l i).b) : ∀ i : Nat, i ≤ l.length → ∀ k : Nat, k < n → φ (gt (genI n l i) k) = φ k
 | 0, _, k, hk => by rw [genI, nums_gt hk]
 | i + 1, hi, k, hk => by
  have gl := gen_len (n := n) (l := l) i
  obtain ⟨⟨a1, a2⟩, b1, b2⟩ := hl i (by omega)
  have ih := gen_fun hl hf i (by omega)
  have he := hf i (by omega)
  obtain ⟨a, ha⟩ := natI a1
  obtain ⟨b, hb⟩ := natI b1
  rw [genI, ha, hb, mergeL_gt (by omega)]
  rw [ha, hb] at he
  have ea := ih a (by omega)
  have eb := ih b (by omega)
  have ek := ih k hk
  by_cases c : gt (genI n l i) a ≤ gt (genI n l i) b
  ·rw [Int.max_eq_right c, Int.min_eq_left c]
   split
   ·rename_i e
    rw [ea, he, ← eb, ← e, ek]
   ·exact ek
  ·rw [Int.max_eq_left (by omega), Int.min_eq_right (by omega)]
   split
   ·rename_i e
    rw [eb, ← he, ← ea, ← e, ek]
   ·exact ek
structure QS (p : List Int) (n : Nat) (s : List Int × Nat) : Prop where
 l : s.1.length = n
 c : s.2 ≤ n
 b : ∀ i : Nat, i < n → 0 ≤ gt s.1 i ∧ gt s.1 i < s.2
 r : ∀ i : Nat, i < n → gt s.1 (gt p i) = gt s.1 i
 j : ∀ i k : Nat, i < n → k < n → gt p i = i → gt p k = k → gt s.1 i = gt s.1 k → i = k
 s : ∀ k : Nat, k < s.2 → ∃ i : Nat, i < n ∧ gt p i = i ∧ gt s.1 i = k
theorem quo_QS {p : List Int} (hp : Idem p) : ∀ n : Nat, n ≤ p.length → QS p n (quo p n)
 | 0, _ => ⟨rfl, Nat.le_refl _, fun i hi => by omega, fun i hi => by omega, fun i k hi => by omega, fun k hk => by simp [quo] at hk⟩
 | n + 1, hn => by
  obtain ⟨h1, h2, h3, h4, h5, h6⟩ := quo_QS hp n (by omega)
  obtain ⟨⟨p1, p2⟩, p3⟩ := hp n (by omega)
  rw [quo]
  generalize quo p n = s at *
  obtain ⟨q, c⟩ := s
  simp only at h1 h2 h3 h4 h5 h6 ⊢
  split
  ·rename_i e
   have hq : ∀ i : Nat, i < n → gt (q ++ [(c : Int)]) i = gt q i := fun i hi => gt_appS (by omega)
   have hn : gt (q ++ [(c : Int)]) n = c := gt_lastS h1.symm
   refine ⟨by simp [h1], by simp only; omega, fun i hi => ?_, fun i hi => ?_, fun i k hi hk ei ek he => ?_, fun k hk => ?_⟩ <;> simp only at *
   ·by_cases x : i = n
    ·subst x; rw [hn]; omega
    ·rw [hq i (by omega)]; have := h3 i (by omega); omega
   ·by_cases x : i = n
    ·subst x; rw [e]
    ·obtain ⟨⟨a1, a2⟩, a3⟩ := hp i (by omega)
     have ih := h4 i (by omega)
     obtain ⟨m, hm⟩ := natI a1
     rw [hm] at a2 ih ⊢
     rw [hq m (by omega), hq i (by omega), ih]
   ·by_cases x : i = n
    ·by_cases y : k = n
     ·omega
     ·subst x; rw [hn, hq k (by omega)] at he
      have := h3 k (by omega); omega
    ·by_cases y : k = n
     ·subst y; rw [hn, hq i (by omega)] at he
      have := h3 i (by omega); omega
     ·rw [hq i (by omega), hq k (by omega)] at he
      exact h5 i k (by omega) (by omega) ei ek he
   ·by_cases x : k = c
    ·subst x; exact ⟨n, by omega, e, hn⟩
    ·obtain ⟨i, i1, i2, i3⟩ := h6 k (by omega)
     exact ⟨i, by omega, i2, by rw [hq i i1, i3]⟩
  ·rename_i e
   obtain ⟨m, hm⟩ := natI p1
   rw [hm] at p2 p3 e ⊢
   have hq : ∀ i : Nat, i < n → gt (q ++ [gt q m]) i = gt q i := fun i hi => gt_appS (by omega)
   have hn : gt (q ++ [gt q m]) n = gt q m := gt_lastS h1.symm
   refine ⟨by simp [h1], by simp only; omega, fun i hi => ?_, fun i hi => ?_, fun i k hi hk ei ek he => ?_, fun k hk => ?_⟩ <;> simp only at *
   ·by_cases x : i = n
    ·subst x; rw [hn]; exact h3 m (by omega)
    ·rw [hq i (by omega)]; exact h3 i (by omega)
   ·by_cases x : i = n
    ·subst x; rw [hm, hn, hq m (by omega)]
    ·obtain ⟨⟨a1, a2⟩, a3⟩ := hp i (by omega)
     have ih := h4 i (by omega)
     obtain ⟨m', hm'⟩ := natI a1
     rw [hm'] at a2 ih ⊢
     rw [hq m' (by omega), hq i (by omega), ih]
   ·have x : i ≠ n := fun x => by subst x; omega
    have y : k ≠ n := fun x => by subst x; omega
    rw [hq i (by omega), hq k (by omega)] at he
    exact h5 i k (by omega) (by omega) ei ek he
   ·obtain ⟨i, i1, i2, i3⟩ := h6 k hk
    exact ⟨i, by omega, i2, by rw [hq i i1, i3]⟩
theorem QS.iff {p : List Int} {n : Nat} {s : List Int × Nat} (hp : Idem p) (hn : n ≤ p.length) (h : QS p n s) {i k : Nat} (hi : i < n) (hk : k < n) : gt s.1 i = gt s.1 k ↔ gt p i = gt p k := by
 obtain ⟨⟨a1, a2⟩, a3⟩ := hp i (by omega)
 obtain ⟨⟨b1, b2⟩, b3⟩ := hp k (by omega)
 have hi' := h.r i hi
 have hk' := h.r k hk
 obtain ⟨x, hx⟩ := natI a1
 obtain ⟨y, hy⟩ := natI b1
 rw [hx] at a2 a3 hi' ⊢
 rw [hy] at b2 b3 hk' ⊢
 constructor
 ·intro e
  have := h.j x y (by omega) (by omega) a3 b3 (by rw [hi', hk', e])
  rw [this]
 ·intro e
  rw [← hi', ← hk', e]
theorem qN_len {α : Type} [Inhabited α] (l : List α) (p : List Int) : ∀ n : Nat, (qN l p n).length = (quo p n).2
 | 0 => rfl
 | n + 1 => by
  rw [qN, quo]
  split
  ·rw [List.length_append, qN_len l p n]; rfl
  ·exact qN_len l p n
theorem qN_gt {α : Type} [Inhabited α] (l : List α) {p : List Int} (hp : Idem p) : ∀ n : Nat, n ≤ p.length → ∀ i : Nat, i < n → gt p i = i → gt (qN l p n) (gt (quo p n).1 i) = gt l i
 | 0, _, i, hi, _ => by omega
 | n + 1, hn, i, hi, e => by
  have hs := quo_QS hp n (by omega)
  have hl := qN_len l p n
  rw [qN, quo]
  by_cases c : gt p n = n
  ·rw [if_pos c, if_pos c]
   simp only
   by_cases x : i = n
   ·subst x
    rw [gt_lastS hs.l.symm, ← hl, gt_lastS rfl]
   ·rw [gt_appS (by have := hs.l; omega)]
    obtain ⟨b1, b2⟩ := hs.b i (by omega)
    have ih := qN_gt l hp n (by omega) i (by omega) e
    obtain ⟨m, hm⟩ := natI b1
    rw [hm] at b2 ih ⊢
    rw [gt_appS (by omega), ih]
  ·rw [if_neg c, if_neg c]
   simp only
   have x : i ≠ n := fun x => by subst x; exact c e
   rw [gt_appS (by have := hs.l; omega)]
   exact qN_gt l hp n (by omega) i (by omega) e
theorem qN_all {α : Type} [Inhabited α] {l : List α} {p : List Int} (hp : Idem p) {n : Nat} (hn : n ≤ p.length) (hl : ∀ i : Nat, i < n → gt l (gt p i) = gt l i) {i : Nat} (hi : i < n) : gt (qN l p n) (gt (quo p n).1 i) = gt l i := by
 have hs := quo_QS hp n hn
 obtain ⟨⟨a1, a2⟩, a3⟩ := hp i (by omega)
 have h1 := hs.r i hi
 have h2 := hl i hi
 obtain ⟨k, hk⟩ := natI a1
 rw [hk] at a2 a3 h1 h2
 rw [← h1, qN_gt l hp n hn k (by omega) a3, h2]
theorem qN_mem {α : Type} [Inhabited α] {l : List α} {p : List Int} : ∀ {n : Nat}, n ≤ l.length → ∀ x ∈ qN l p n, x ∈ l
 | 0, _, x, hx => by simp [qN] at hx
 | n + 1, hn, x, hx => by
  rw [qN] at hx
  split at hx
  ·rcases List.mem_append.1 hx with hx | hx
   ·exact qN_mem (by omega) x hx
   ·rw [List.mem_singleton] at hx
    rw [hx]; exact gt_mem (by omega) (by omega)
  ·exact qN_mem (by omega) x hx
theorem setL_len {α : Type} [Inhabited α] (l : List α) (q : List Int) (z : List α) : ∀ i : Nat, (setL l q z i).length = z.length
 | 0 => rfl
 | i + 1 => by rw [setL, List.length_set, setL_len l q z i]
theorem gt_setS {α : Type} [Inhabited α] {l : List α} {k i : Nat} {v : α} (hi : i < l.length) : gt (l.set k v) i = if k = i then v else gt l i := by
 rw [gt_nat (by simpa using hi), gt_nat hi, List.getElem_set]
theorem setL_gt {α : Type} [Inhabited α] {l : List α} {q : List Int} {z w : List α} : ∀ {n : Nat}, (∀ i : Nat, i < n → 0 ≤ gt q i ∧ gt w (gt q i) = gt l i) → ∀ k : Nat, k < z.length →
  gt (setL l q z n) k = gt w k ∨ (gt (setL l q z n) k = gt z k ∧ ∀ i : Nat, i < n → gt q i ≠ k)
 | 0, _, k, hk => .inr ⟨rfl, fun i hi => by omega⟩
 | n + 1, h, k, hk => by
  have ih := setL_gt (z := z) (n := n) (fun i hi => h i (by omega)) k hk
  obtain ⟨h1, h2⟩ := h n (by omega)
  rw [setL, gt_setS (by rw [setL_len]; exact hk)]
  by_cases c : (gt q n).toNat = k
  ·rw [if_pos c]
   refine .inl ?_
   rw [← h2, show gt q n = (k : Int) by omega]
  ·rw [if_neg c]
   refine ih.imp id fun ⟨i1, i2⟩ => ⟨i1, fun i hi => ?_⟩
   by_cases x : i = n
   ·subst x; omega
   ·exact i2 i (by omega)
theorem setL_eq {α : Type} [Inhabited α] {l : List α} {q : List Int} {z w : List α} {n : Nat} (hz : z.length = w.length) (h : ∀ i : Nat, i < n → 0 ≤ gt q i ∧ gt w (gt q i) = gt l i) (hc : ∀ k : Nat, k < w.length → ∃ i : Nat, i < n ∧ gt q i = k) : setL l q z n = w := by
 refine list_ext_gt (by rw [setL_len, hz]) fun k hk => ?_
 rw [setL_len] at hk
 rcases setL_gt h k hk with e | ⟨_, e⟩
 ·exact e
 ·obtain ⟨i, hi, hi2⟩ := hc k (by omega)
  exact absurd hi2 (e i hi)
end
def reE (q : List Int) (es : List E) : List E := es.map fun x => ⟨x.t, gt q x.f, gt q x.o⟩
def quoG (g : G) (p r : List Int) : G := ⟨qN g.n p p.length, qN (reE (quo p p.length).1 g.e) r r.length⟩
def quoM (p r : List Int) : Mo := ⟨(quo p p.length).1, (quo r r.length).1⟩
structure Cong (g : G) (p r : List Int) : Prop where
 pl : p.length = g.n.length
 rl : r.length = g.e.length
 ph : Idem p
 rh : Idem r
 pt : ∀ i : Nat, i < p.length → gt g.n (gt p i) = gt g.n i
 rt : ∀ i : Nat, i < r.length → gt (reE (quo p p.length).1 g.e) (gt r i) = gt (reE (quo p p.length).1 g.e) i
def prL (f h : List Int) (n : Nat) : List Pr := (List.range n).map fun i : Nat => ⟨gt f i, gt h i⟩
def gluN (g : G) (f h : Mo) : List Int := genL g.n.length (prL f.n h.n f.n.length)
def gluE (g : G) (f h : Mo) : List Int := genL g.e.length (prL f.e h.e f.e.length)
def gluG (g : G) (f h : Mo) : G := quoG g (gluN g f h) (gluE g f h)
def gluM (g : G) (f h : Mo) : Mo := quoM (gluN g f h) (gluE g f h)
section
theorem reE_len (q : List Int) (es : List E) : (reE q es).length = es.length := by simp [reE]
theorem reE_gt {q : List Int} {es : List E} {i : Nat} (h : i < es.length) : gt (reE q es) i = ⟨(gt es i).t, gt q (gt es i).f, gt q (gt es i).o⟩ := by
 unfold reE
 rw [gt_map h]
theorem prL_len (f h : List Int) (n : Nat) : (prL f h n).length = n := by simp [prL]
theorem prL_succ (f h : List Int) (n : Nat) : prL f h (n + 1) = prL f h n ++ [⟨gt f n, gt h n⟩] := by simp [prL, List.range_succ]
theorem prL_gt {f h : List Int} {n i : Nat} (hi : i < n) : gt (prL f h n) i = ⟨gt f i, gt h i⟩ := by
 unfold prL
 rw [gt_nat (by simp; exact hi)]
 simp
theorem Cong.node {g : G} {p r : List Int} (h : Cong g p r) {i : Nat} (hi : i < g.n.length) : (0 ≤ gt (quoM p r).n i ∧ gt (quoM p r).n i < (quoG g p r).n.length) ∧ gt (quoG g p r).n (gt (quoM p r).n i) = gt g.n i := by
 have hs := quo_QS h.ph _ (Nat.le_refl _)
 have hpl := h.pl
 refine ⟨?_, ?_⟩
 ·simp only [quoM, quoG, qN_len]
  exact hs.b i (by omega)
 ·exact qN_all h.ph (Nat.le_refl _) h.pt (by omega)
theorem Cong.edge {g : G} {p r : List Int} (h : Cong g p r) {i : Nat} (hi : i < g.e.length) : (0 ≤ gt (quoM p r).e i ∧ gt (quoM p r).e i < (quoG g p r).e.length) ∧ gt (quoG g p r).e (gt (quoM p r).e i) = ⟨(gt g.e i).t, gt (quoM p r).n (gt g.e i).f, gt (quoM p r).n (gt g.e i).o⟩ := by
 have hs := quo_QS h.rh _ (Nat.le_refl _)
 have hrl := h.rl
 refine ⟨?_, ?_⟩
 ·simp only [quoM, quoG, qN_len]
  exact hs.b i (by omega)
 ·have := qN_all h.rh (Nat.le_refl _) h.rt (show i < r.length by omega)
  simp only [quoM, quoG]
  rw [this, reE_gt hi]
theorem Cong.surN {g : G} {p r : List Int} (h : Cong g p r) {k : Nat} (hk : k < (quoG g p r).n.length) : ∃ i : Nat, i < g.n.length ∧ gt p i = i ∧ gt (quoM p r).n i = k := by
 have hs := quo_QS h.ph _ (Nat.le_refl _)
 simp only [quoG, qN_len] at hk
 obtain ⟨i, h1, h2, h3⟩ := hs.s k hk
 exact ⟨i, by rw [← h.pl]; exact h1, h2, h3⟩
theorem Cong.surE {g : G} {p r : List Int} (h : Cong g p r) {k : Nat} (hk : k < (quoG g p r).e.length) : ∃ i : Nat, i < g.e.length ∧ gt r i = i ∧ gt (quoM p r).e i = k := by
 have hs := quo_QS h.rh _ (Nat.le_refl _)
 simp only [quoG, qN_len] at hk
 obtain ⟨i, h1, h2, h3⟩ := hs.s k hk
 exact ⟨i, by rw [← h.rl]; exact h1, h2, h3⟩
theorem Cong.ok {g : G} {p r : List Int} (hv : validG g = 0) (h : Cong g p r) : MOk g (quoG g p r) (quoM p r) := by
 have vs := valid_spec hv
 have h1 := quo_QS h.ph _ (Nat.le_refl _)
 have h2 := quo_QS h.rh _ (Nat.le_refl _)
 have hpl := h.pl
 have hrl := h.rl
 refine ⟨hv, valid_mk ?_ ?_ (fun y hy => ?_) (fun y hy => ?_), ?_, ?_, fun i hi => h.node hi, fun i hi => ?_⟩
 ·simp only [quoG, qN_len]; have := h1.c; omega
 ·simp only [quoG, qN_len]; have := h2.c; omega
 ·exact vs.2.2.1 y (qN_mem (by omega) y hy)
 ·obtain ⟨k, hk, hk2⟩ := mem_gt hy
  obtain ⟨i, hi, _, hi2⟩ := h.surE hk
  have he := (h.edge hi).2
  rw [hi2, hk2] at he
  rw [he]
  obtain ⟨t1, t2, t3⟩ := edge_fits hv (i := i) (by omega)
  obtain ⟨a, ha, ha2⟩ := gtI t2
  obtain ⟨b, hb, hb2⟩ := gtI t3
  rw [ha2, hb2]
  exact fits_mk t1 (h.node ha).1 (h.node hb).1
 ·simp only [quoM]; rw [h1.l, hpl]
 ·simp only [quoM]; rw [h2.l, hrl]
 ·obtain ⟨e1, e2⟩ := h.edge hi
  refine ⟨e1, ?_⟩
  rw [e2]
  exact ⟨rfl, rfl, rfl⟩
theorem Cong.iffN {g : G} {p r : List Int} (h : Cong g p r) {i k : Nat} (hi : i < g.n.length) (hk : k < g.n.length) : gt (quoM p r).n i = gt (quoM p r).n k ↔ gt p i = gt p k :=
 (quo_QS h.ph _ (Nat.le_refl _)).iff h.ph (Nat.le_refl _) (by rw [h.pl]; exact hi) (by rw [h.pl]; exact hk)
theorem Cong.iffE {g : G} {p r : List Int} (h : Cong g p r) {i k : Nat} (hi : i < g.e.length) (hk : k < g.e.length) : gt (quoM p r).e i = gt (quoM p r).e k ↔ gt r i = gt r k :=
 (quo_QS h.rh _ (Nat.le_refl _)).iff h.rh (Nat.le_refl _) (by rw [h.rl]; exact hi) (by rw [h.rl]; exact hk)
theorem prL_in {f h : List Int} {m : Nat} (hl : h.length = f.length) (h1 : ∀ x ∈ f, 0 ≤ x ∧ x < m) (h2 : ∀ x ∈ h, 0 ≤ x ∧ x < m) : PrIn m (prL f h f.length) := fun i hi => by
 rw [prL_len] at hi
 rw [prL_gt hi]
 exact ⟨h1 _ (gt_mem (by omega) (by omega)), h2 _ (gt_mem (by omega) (by omega))⟩
section
variable {a g : G} {f h : Mo}
theorem glu_prN (hf : MOk a g f) (hh : MOk a g h) : PrIn g.n.length (prL f.n h.n f.n.length) := by
 have bf := (validM_bd (mok.2 hf)).1
 have bh := (validM_bd (mok.2 hh)).1
 exact prL_in (by rw [hf.ln, hh.ln]) bf bh
theorem glu_prE (hf : MOk a g f) (hh : MOk a g h) : PrIn g.e.length (prL f.e h.e f.e.length) := by
 have bf := (validM_bd (mok.2 hf)).2
 have bh := (validM_bd (mok.2 hh)).2
 exact prL_in (by rw [hf.le, hh.le]) bf bh
theorem gluN_len : (gluN g f h).length = g.n.length := gen_len _
theorem gluE_len : (gluE g f h).length = g.e.length := gen_len _
theorem gluN_fun {β : Type} {φ : Int → β} (hf : MOk a g f) (hh : MOk a g h) (e : ∀ i : Nat, i < a.n.length → φ (gt f.n i) = φ (gt h.n i)) {k : Nat} (hk : k < g.n.length) : φ (gt (gluN g f h) k) = φ k := by
 refine gen_fun (glu_prN hf hh) (fun i hi => ?_) _ (Nat.le_refl _) k hk
 rw [prL_len] at hi
 rw [prL_gt hi]
 exact e i (by rw [← hf.ln]; exact hi)
theorem gluE_fun {β : Type} {φ : Int → β} (hf : MOk a g f) (hh : MOk a g h) (e : ∀ i : Nat, i < a.e.length → φ (gt f.e i) = φ (gt h.e i)) {k : Nat} (hk : k < g.e.length) : φ (gt (gluE g f h) k) = φ k := by
 refine gen_fun (glu_prE hf hh) (fun i hi => ?_) _ (Nat.le_refl _) k hk
 rw [prL_len] at hi
 rw [prL_gt hi]
 exact e i (by rw [← hf.le]; exact hi)
theorem gluN_pair (hf : MOk a g f) (hh : MOk a g h) {i : Nat} (hi : i < a.n.length) : gt (gluN g f h) (gt f.n i) = gt (gluN g f h) (gt h.n i) := by
 have ln := hf.ln
 have := gen_pair (glu_prN hf hh) _ (Nat.le_refl _) i (by rw [prL_len]; omega)
 rw [prL_gt (by omega)] at this
 exact this
theorem gluE_pair (hf : MOk a g f) (hh : MOk a g h) {i : Nat} (hi : i < a.e.length) : gt (gluE g f h) (gt f.e i) = gt (gluE g f h) (gt h.e i) := by
 have ln := hf.le
 have := gen_pair (glu_prE hf hh) _ (Nat.le_refl _) i (by rw [prL_len]; omega)
 rw [prL_gt (by omega)] at this
 exact this
theorem glu_cong (hf : MOk a g f) (hh : MOk a g h) : Cong g (gluN g f h) (gluE g f h) := by
 have ip : Idem (gluN g f h) := gen_idem (glu_prN hf hh) (Nat.le_refl _)
 have ir : Idem (gluE g f h) := gen_idem (glu_prE hf hh) (Nat.le_refl _)
 refine ⟨gluN_len, gluE_len, ip, ir, fun i hi => ?_, fun i hi => ?_⟩
 ·rw [gluN_len] at hi
  exact gluN_fun (φ := gt g.n) hf hh (fun i hi => by rw [(hf.nd i hi).2, (hh.nd i hi).2]) hi
 ·rw [gluE_len] at hi
  refine gluE_fun (φ := gt (reE (quo (gluN g f h) (gluN g f h).length).1 g.e)) hf hh (fun i hi => ?_) hi
  obtain ⟨f1, f2, f3, f4⟩ := hf.ed i hi
  obtain ⟨h1, h2, h3, h4⟩ := hh.ed i hi
  obtain ⟨x, hx, hx2⟩ := gtI f1
  obtain ⟨y, hy, hy2⟩ := gtI h1
  rw [hx2] at f2 f3 f4
  rw [hy2] at h2 h3 h4
  rw [hx2, hy2, reE_gt hx, reE_gt hy, ← f2, ← f3, ← f4, ← h2, ← h3, ← h4]
  have hs := quo_QS ip _ (Nat.le_refl _)
  obtain ⟨_, t2, t3⟩ := edge_fits hf.va (i := i) (by omega)
  have ends : ∀ v : Int, 0 ≤ v ∧ v < a.n.length → gt (quo (gluN g f h) (gluN g f h).length).1 (gt f.n v) = gt (quo (gluN g f h) (gluN g f h).length).1 (gt h.n v) := fun v hv => by
   obtain ⟨j, hj, hj2⟩ := gtI hv
   subst hj2
   have hp := gluN_pair hf hh hj
   obtain ⟨u, hu, hu2⟩ := gtI (hf.nd j hj).1
   obtain ⟨w, hw, hw2⟩ := gtI (hh.nd j hj).1
   rw [hu2, hw2] at hp ⊢
   exact (hs.iff ip (Nat.le_refl _) (by rw [gluN_len]; exact hu) (by rw [gluN_len]; exact hw)).2 hp
  rw [ends _ t2, ends _ t3]
theorem glu_ok (hf : MOk a g f) (hh : MOk a g h) : MOk g (gluG g f h) (gluM g f h) := (glu_cong hf hh).ok hf.vb
theorem mo_ext {x y : Mo} (h1 : x.n = y.n) (h2 : x.e = y.e) : x = y := by cases x; cases y; simp only at h1 h2; rw [h1, h2]
theorem thr_ext {l b m c : List Int} (hl : l.length = m.length) (h : ∀ i : Nat, i < l.length → gt b (gt l i) = gt c (gt m i)) : thr l b = thr m c :=
 list_ext_gt (by rw [thr_len, thr_len, hl]) fun i hi => by rw [thr_len] at hi; rw [thr_gt hi, thr_gt (by omega), h i hi]
theorem glu_eq (hf : MOk a g f) (hh : MOk a g h) : thenM f (gluM g f h) = thenM h (gluM g f h) := by
 have hc := glu_cong hf hh
 refine mo_ext (thr_ext (by rw [hf.ln, hh.ln]) fun i hi => ?_) (thr_ext (by rw [hf.le, hh.le]) fun i hi => ?_)
 ·rw [hf.ln] at hi
  have hp := gluN_pair hf hh hi
  obtain ⟨u, hu, hu2⟩ := gtI (hf.nd i hi).1
  obtain ⟨w, hw, hw2⟩ := gtI (hh.nd i hi).1
  rw [hu2, hw2] at hp ⊢
  exact (hc.iffN hu hw).2 hp
 ·rw [hf.le] at hi
  have hp := gluE_pair hf hh hi
  obtain ⟨u, hu, hu2⟩ := gtI (hf.ed i hi).1
  obtain ⟨w, hw, hw2⟩ := gtI (hh.ed i hi).1
  rw [hu2, hw2] at hp ⊢
  exact (hc.iffE hu hw).2 hp
theorem thenM_n {m n x y : Mo} (h : thenM m n = thenM x y) {i : Nat} (h1 : i < m.n.length) (h2 : i < x.n.length) : gt n.n (gt m.n i) = gt y.n (gt x.n i) := by
 have := congrArg (fun z : Mo => gt z.n i) h
 simp only [thenM] at this
 rwa [thr_gt h1, thr_gt h2] at this
theorem thenM_e {m n x y : Mo} (h : thenM m n = thenM x y) {i : Nat} (h1 : i < m.e.length) (h2 : i < x.e.length) : gt n.e (gt m.e i) = gt y.e (gt x.e i) := by
 have := congrArg (fun z : Mo => gt z.e i) h
 simp only [thenM] at this
 rwa [thr_gt h1, thr_gt h2] at this
theorem glu_surN (hf : MOk a g f) (hh : MOk a g h) {k : Nat} (hk : k < (gluG g f h).n.length) : ∃ i : Nat, i < g.n.length ∧ gt (gluM g f h).n i = k :=
 let ⟨i, h1, _, h3⟩ := (glu_cong hf hh).surN hk; ⟨i, h1, h3⟩
theorem glu_surE (hf : MOk a g f) (hh : MOk a g h) {k : Nat} (hk : k < (gluG g f h).e.length) : ∃ i : Nat, i < g.e.length ∧ gt (gluM g f h).e i = k :=
 let ⟨i, h1, _, h3⟩ := (glu_cong hf hh).surE hk; ⟨i, h1, h3⟩
theorem glu_one {x : G} {u v : Mo} (hf : MOk a g f) (hh : MOk a g h) (hu : MOk (gluG g f h) x u) (hv : MOk (gluG g f h) x v) (e : thenM (gluM g f h) u = thenM (gluM g f h) v) : u = v := by
 have hq := glu_ok hf hh
 have l1 := hq.ln
 have l2 := hq.le
 refine mo_ext (list_ext_gt (by rw [hu.ln, hv.ln]) fun k hk => ?_) (list_ext_gt (by rw [hu.le, hv.le]) fun k hk => ?_)
 ·rw [hu.ln] at hk
  obtain ⟨i, hi, hi2⟩ := glu_surN hf hh hk
  have := thenM_n e (i := i) (by omega) (by omega)
  rwa [hi2] at this
 ·rw [hu.le] at hk
  obtain ⟨i, hi, hi2⟩ := glu_surE hf hh hk
  have := thenM_e e (i := i) (by omega) (by omega)
  rwa [hi2] at this
end
end
@[go_sem] def c_partition_root_r0 : LL := [qi 4 0]
@[go_sem] def c_partition_root_r1 : LL := [qm 5 0,qm 6 1,qd 7 1 5 6,ql 8 1 7,qm 9 1,qo .neq 10 8 9]
@[go_sem] def c_partition_root_r2 : LL := [qm 11 0,qm 12 1,qd 13 1 11 12,ql 14 1 13,qm 1 14]
def c_partition_root_b3 : LC := (.seq (.seq (.reg c_partition_root_r1 [0,1,10]) (.cond (.t 10) .skip (.exit 0))) (.block 1 (.reg c_partition_root_r2 [0,1])))
@[go_sem] def c_partition_root_r4 : LL := [qm 15 1,qm 4 15]
@[go_sem] def c_partition_root (F : Fn) : LC := (.seq (.reg c_partition_root_r0 [0,1]) (.seq (.block 0 (.loop [0,1] c_partition_root_b3)) (.seq (.reg c_partition_root_r4 [4]) .ret)))
def h_partition_root : Hints := hOf [] (c_partition_root fun _ => 0)
@[go_sem] def c_partition_unite_r0 (F : Fn) : LL := [qm 8 0,qm 9 1,qc 10 (F "partition.root") [.t 8,.t 9],qm 11 0,qm 12 2,qc 13 (F "partition.root") [.t 11,.t 12],qm 6 10,qm 7 13]
@[go_sem] def c_partition_unite_r1 : LL := [qm 14 0,qm 15 6,qm 16 7,⟨some 17,.mx [.t 15,.t 16],none⟩,qm 18 6,qm 19 7,⟨some 20,.mn [.t 18,.t 19],none⟩,qd 21 1 14 17,qs 1 21 20]
@[go_sem] def c_partition_unite (F : Fn) : LC := (.seq (.reg (c_partition_unite_r0 F) [0,6,7]) (.reg c_partition_unite_r1 [0]))
def h_partition_unite : Hints := hOf [0] (c_partition_unite fun _ => 0)
@[go_sem] def c_partition_finest_r0 : LL := [qn 2 1]
@[go_sem] def c_partition_finest_r1 : LL := [qm 5 0,⟨some 6,.makeSl 1 8 (.int .i64 (0)) (.t 5),none⟩,qm 3 6]
@[go_sem] def c_partition_finest_r2 : LL := [qm 7 3,qz 8 7,qi 9 0]
@[go_sem] def c_partition_finest_r3 : LL := [qo .lss 10 9 8]
@[go_sem] def c_partition_finest_r4 : LL := [qm 11 9,qm 4 11]
@[go_sem] def c_partition_finest_r5 : LL := [qm 12 3,qm 13 4,qm 14 4,qd 15 1 12 13,qs 1 15 14]
@[go_sem] def c_partition_finest_r6 : LL := [qk .add 16 9 1,qm 9 16]
def c_partition_finest_b7 : LC := (.seq (.reg c_partition_finest_r3 [3,8,9,10]) (.seq (.cond (.t 10) .skip (.exit 0)) (.seq (.block 1 (.seq (.reg c_partition_finest_r4 [3,4,8,9]) (.reg c_partition_finest_r5 [3,8,9]))) (.reg c_partition_finest_r6 [3,8,9]))))
@[go_sem] def c_partition_finest_r8 : LL := [qm 17 3,qm 2 17]
@[go_sem] def c_partition_finest (F : Fn) : LC := (.seq (.reg c_partition_finest_r0 [0]) (.seq (.reg c_partition_finest_r1 [3]) (.seq (.seq (.reg c_partition_finest_r2 [3,8,9]) (.block 0 (.loop [3,8,9] c_partition_finest_b7))) (.seq (.reg c_partition_finest_r8 [2]) .ret))))
def h_partition_finest : Hints := hOf [] (c_partition_finest fun _ => 0)
@[go_sem] def c_partition_flat_r0 : LL := [qn 2 1]
@[go_sem] def c_partition_flat_r1 : LL := [qm 4 0,qz 5 4,qi 6 0]
@[go_sem] def c_partition_flat_r2 : LL := [qo .lss 7 6 5]
@[go_sem] def c_partition_flat_r3 : LL := [qm 8 6,qm 3 8]
@[go_sem] def c_partition_flat_r4 (F : Fn) : LL := [qm 9 0,qm 10 3,qm 11 0,qm 12 3,qc 13 (F "partition.root") [.t 11,.t 12],qd 14 1 9 10,qs 1 14 13]
@[go_sem] def c_partition_flat_r5 : LL := [qk .add 15 6 1,qm 6 15]
def c_partition_flat_b6 (F : Fn) : LC := (.seq (.reg c_partition_flat_r2 [0,5,6,7]) (.seq (.cond (.t 7) .skip (.exit 0)) (.seq (.block 1 (.seq (.reg c_partition_flat_r3 [0,3,5,6]) (.reg (c_partition_flat_r4 F) [0,5,6]))) (.reg c_partition_flat_r5 [0,5,6]))))
@[go_sem] def c_partition_flat_r7 : LL := [qm 16 0,qm 2 16]
@[go_sem] def c_partition_flat (F : Fn) : LC := (.seq (.reg c_partition_flat_r0 [0]) (.seq (.seq (.reg c_partition_flat_r1 [0,5,6]) (.block 0 (.loop [0,5,6] (c_partition_flat_b6 F)))) (.seq (.reg c_partition_flat_r7 [2]) .ret)))
def h_partition_flat : Hints := hOf [] (c_partition_flat fun _ => 0)
@[go_sem] def c_partition_Generate_r0 : LL := [qn 4 1,qi 5 0]
@[go_sem] def c_partition_Generate_r1 : LL := [qm 9 0,qk .gtr 10 9 80]
@[go_sem] def c_partition_Generate_r2 : LL := [qn 4 1,qi 5 3]
@[go_sem] def c_partition_Generate_r3 : LL := [qm 11 0,qk .lss 12 11 0]
@[go_sem] def c_partition_Generate_r4 : LL := [qn 4 1,qi 5 6]
@[go_sem] def c_partition_Generate_r5 (F : Fn) : LL := [qm 13 0,qc 14 (F "partition.finest") [.t 13],qm 6 14]
@[go_sem] def c_partition_Generate_r6 : LL := [qm 15 1,qz 16 15,qi 17 0]
@[go_sem] def c_partition_Generate_r7 : LL := [qo .lss 18 17 16]
@[go_sem] def c_partition_Generate_r8 : LL := [qd 19 2 15 17,qL 20 2 19,qa 8 [.int .i64 (0),.int .i64 (0)],qs 2 8 20]
@[go_sem] def c_partition_Generate_r9 : LL := [qf 21 0 8,ql 22 1 21,qk .lss 23 22 0,qm 24 23,qg 24 false (qf 25 0 8),qg 24 false (ql 26 1 25),qg 24 false (qm 27 0),qg 24 false (qo .geq 28 26 27),qQ 29 24 28,qm 30 29,
 qg 30 false (qf 31 1 8),qg 30 false (ql 32 1 31),qg 30 false (qk .lss 33 32 0),qQ 34 30 33,qm 35 34,qg 35 false (qf 36 1 8),qg 35 false (ql 37 1 36),qg 35 false (qm 38 0),
 qg 35 false (qo .geq 39 37 38),qQ 40 35 39]
@[go_sem] def c_partition_Generate_r10 : LL := [qn 4 1,qi 5 6]
@[go_sem] def c_partition_Generate_r11 (F : Fn) : LL := [qm 41 6,qf 42 0 8,ql 43 1 42,qf 44 1 8,ql 45 1 44,⟨some 46,.call (F "partition.unite") [.t 41,.t 43,.t 45] [.mu,.rd,.rd],none⟩]
@[go_sem] def c_partition_Generate_r12 : LL := [qk .add 47 17 1,qm 17 47]
def c_partition_Generate_b13 (F : Fn) : LC := (.seq (.reg c_partition_Generate_r7 [0,6,15,16,17,18]) (.seq (.cond (.t 18) .skip (.exit 0)) (.seq (.block 1 (.seq (.reg c_partition_Generate_r8 [0,6,8,15,16,17]) (.seq (.seq (.reg c_partition_Generate_r9 [0,6,8,15,16,17,40]) (.cond (.t 40) (.seq (.reg c_partition_Generate_r10 [4,5]) .ret) .skip)) (.reg (c_partition_Generate_r11 F) [0,6,15,16,17])))) (.reg c_partition_Generate_r12 [0,6,15,16,17]))))
@[go_sem] def c_partition_Generate_r14 (F : Fn) : LL := [qm 48 6,⟨some 49,.call (F "partition.flat") [.t 48] [.ow],none⟩,qm 4 49,qi 5 0]
@[go_sem] def c_partition_Generate (F : Fn) : LC := (.seq (.reg c_partition_Generate_r0 [0,1]) (.seq (.seq (.reg c_partition_Generate_r1 [0,1,10]) (.cond (.t 10) (.seq (.reg c_partition_Generate_r2 [4,5]) .ret) .skip)) (.seq (.seq (.reg c_partition_Generate_r3 [0,1,12]) (.cond (.t 12) (.seq (.reg c_partition_Generate_r4 [4,5]) .ret) .skip)) (.seq (.reg (c_partition_Generate_r5 F) [0,1,6]) (.seq (.seq (.reg c_partition_Generate_r6 [0,6,15,16,17]) (.block 0 (.loop [0,6,15,16,17] (c_partition_Generate_b13 F)))) (.seq (.reg (c_partition_Generate_r14 F) [4,5]) .ret))))))
def h_partition_Generate : Hints := hOf [] (c_partition_Generate fun _ => 0)
@[go_sem] def c_partition_right_r0 : LL := [qb 2 false]
@[go_sem] def c_partition_right_r1 : LL := [qm 5 0,qz 6 5,qi 7 0]
@[go_sem] def c_partition_right_r2 : LL := [qo .lss 8 7 6]
@[go_sem] def c_partition_right_r3 : LL := [qm 9 7,qd 10 1 5 7,ql 11 1 10,qm 3 9,qm 4 11]
@[go_sem] def c_partition_right_r4 : LL := [qm 12 4,qk .lss 13 12 0,qm 14 13,qg 14 false (qm 15 4),qg 14 false (qm 16 3),qg 14 false (qo .gtr 17 15 16),qQ 18 14 17,qm 19 18,qg 19 false (qm 20 0),qg 19 false (qm 21 4),
 qg 19 false (qd 22 1 20 21),qg 19 false (ql 23 1 22),qg 19 false (qm 24 4),qg 19 false (qo .neq 25 23 24),qQ 26 19 25]
@[go_sem] def c_partition_right_r5 : LL := [qb 2 false]
@[go_sem] def c_partition_right_r6 : LL := [qk .add 27 7 1,qm 7 27]
def c_partition_right_b7 : LC := (.seq (.reg c_partition_right_r2 [0,5,6,7,8]) (.seq (.cond (.t 8) .skip (.exit 0)) (.seq (.block 1 (.seq (.reg c_partition_right_r3 [0,3,4,5,6,7]) (.seq (.reg c_partition_right_r4 [0,5,6,7,26]) (.cond (.t 26) (.seq (.reg c_partition_right_r5 [2]) .ret) .skip)))) (.reg c_partition_right_r6 [0,5,6,7]))))
@[go_sem] def c_partition_right_r8 : LL := [qb 2 true]
@[go_sem] def c_partition_right (F : Fn) : LC := (.seq (.reg c_partition_right_r0 [0]) (.seq (.seq (.reg c_partition_right_r1 [0,5,6,7]) (.block 0 (.loop [0,5,6,7] c_partition_right_b7))) (.seq (.reg c_partition_right_r8 [2]) .ret)))
def h_partition_right : Hints := hOf [] (c_partition_right fun _ => 0)
@[go_sem] def c_partition_one_r0 : LL := [qi 2 0]
@[go_sem] def c_partition_one_r1 : LL := [qm 3 0,qz 4 3,qk .gtr 5 4 80]
@[go_sem] def c_partition_one_r2 : LL := [qi 2 3]
@[go_sem] def c_partition_one_r3 (F : Fn) : LL := [qm 6 0,qc 7 (F "partition.right") [.t 6],qv 8 7]
@[go_sem] def c_partition_one_r4 : LL := [qi 2 1]
@[go_sem] def c_partition_one_r5 : LL := [qi 2 0]
@[go_sem] def c_partition_one (F : Fn) : LC := (.seq (.reg c_partition_one_r0 [0]) (.seq (.seq (.reg c_partition_one_r1 [0,5]) (.cond (.t 5) (.seq (.reg c_partition_one_r2 [2]) .ret) .skip)) (.seq (.seq (.reg (c_partition_one_r3 F) [8]) (.cond (.t 8) (.seq (.reg c_partition_one_r4 [2]) .ret) .skip)) (.seq (.reg c_partition_one_r5 [2]) .ret))))
def h_partition_one : Hints := hOf [] (c_partition_one fun _ => 0)
@[go_sem] def c_partition_Quotient_r0 : LL := [qn 2 1,qi 3 0,qi 4 0]
@[go_sem] def c_partition_Quotient_r1 (F : Fn) : LL := [qm 10 0,qc 11 (F "partition.one") [.t 10],qm 5 11]
@[go_sem] def c_partition_Quotient_r2 : LL := [qm 12 5,qk .neq 13 12 0]
@[go_sem] def c_partition_Quotient_r3 : LL := [qm 14 5,qn 2 1,qi 3 0,qm 4 14]
@[go_sem] def c_partition_Quotient_r4 : LL := [qn 6 1]
@[go_sem] def c_partition_Quotient_r5 : LL := [qi 7 0]
@[go_sem] def c_partition_Quotient_r6 : LL := [qm 15 0,qz 16 15,qi 17 0]
@[go_sem] def c_partition_Quotient_r7 : LL := [qo .lss 18 17 16]
@[go_sem] def c_partition_Quotient_r8 : LL := [qm 19 17,qd 20 1 15 17,ql 21 1 20,qm 8 19,qm 9 21]
@[go_sem] def c_partition_Quotient_r9 : LL := [qm 22 9,qm 23 8,qo .eql 24 22 23]
@[go_sem] def c_partition_Quotient_r10 : LL := [qm 25 6,qm 26 7,⟨some 27,.buildSl 1 8 (.int .i64 (0)) 1 [(0,.t 26)],none⟩,qp 28 1 8 25 27,qm 6 28]
@[go_sem] def c_partition_Quotient_r11 : LL := [qm 29 7,qk .add 30 29 1,qm 7 30]
@[go_sem] def c_partition_Quotient_r12 : LL := [qm 31 6,qm 32 6,qm 33 9,qd 34 1 32 33,ql 35 1 34,⟨some 36,.buildSl 1 8 (.int .i64 (0)) 1 [(0,.t 35)],none⟩,qp 37 1 8 31 36,qm 6 37]
@[go_sem] def c_partition_Quotient_r13 : LL := [qk .add 38 17 1,qm 17 38]
def c_partition_Quotient_b14 : LC := (.seq (.reg c_partition_Quotient_r7 [6,7,15,16,17,18]) (.seq (.cond (.t 18) .skip (.exit 0)) (.seq (.block 1 (.seq (.reg c_partition_Quotient_r8 [6,7,8,9,15,16,17]) (.seq (.reg c_partition_Quotient_r9 [6,7,9,15,16,17,24]) (.cond (.t 24) (.seq (.reg c_partition_Quotient_r10 [6,7,15,16,17]) (.reg c_partition_Quotient_r11 [6,7,15,16,17])) (.reg c_partition_Quotient_r12 [6,7,15,16,17]))))) (.reg c_partition_Quotient_r13 [6,7,15,16,17]))))
@[go_sem] def c_partition_Quotient_r15 : LL := [qm 39 6,qm 40 7,qm 2 39,qm 3 40,qi 4 0]
@[go_sem] def c_partition_Quotient (F : Fn) : LC := (.seq (.reg c_partition_Quotient_r0 [0]) (.seq (.seq (.reg (c_partition_Quotient_r1 F) [0,5]) (.seq (.reg c_partition_Quotient_r2 [0,5,13]) (.cond (.t 13) (.seq (.reg c_partition_Quotient_r3 [2,3,4]) .ret) .skip))) (.seq (.reg c_partition_Quotient_r4 [0,6]) (.seq (.reg c_partition_Quotient_r5 [0,6,7]) (.seq (.seq (.reg c_partition_Quotient_r6 [6,7,15,16,17]) (.block 0 (.loop [6,7,15,16,17] c_partition_Quotient_b14))) (.seq (.reg c_partition_Quotient_r15 [2,3,4]) .ret))))))
def h_partition_Quotient : Hints := hOf [] (c_partition_Quotient fun _ => 0)
@[go_sem] def c_r02_Generate_r0 : LL := [qn 4 1,qi 5 0]
@[go_sem] def c_r02_Generate_r1 : LL := [qm 9 0,qk .gtr 10 9 80]
@[go_sem] def c_r02_Generate_r2 : LL := [qn 4 1,qi 5 3]
@[go_sem] def c_r02_Generate_r3 : LL := [qm 11 0,qk .lss 12 11 0]
@[go_sem] def c_r02_Generate_r4 : LL := [qn 4 1,qi 5 6]
@[go_sem] def c_r02_Generate_r5 : LL := [qi 6 0]
@[go_sem] def c_r02_Generate_r6 : LL := [qm 13 6,qm 14 1,qz 15 14,qo .lss 16 13 15]
@[go_sem] def c_r02_Generate_r7 : LL := [qm 19 1,qm 20 6,qd 21 2 19 20,qf 22 0 21,ql 23 1 22,qk .lss 24 23 0,qm 25 24,qg 25 false (qm 26 1),qg 25 false (qm 27 6),qg 25 false (qd 28 2 26 27),qg 25 false (qf 29 0 28),
 qg 25 false (ql 30 1 29),qg 25 false (qm 31 0),qg 25 false (qo .geq 32 30 31),qQ 33 25 32,qm 34 33,qg 34 false (qm 35 1),qg 34 false (qm 36 6),qg 34 false (qd 37 2 35 36),
 qg 34 false (qf 38 1 37),qg 34 false (ql 39 1 38),qg 34 false (qk .lss 40 39 0),qQ 41 34 40,qm 42 41,qg 42 false (qm 43 1),qg 42 false (qm 44 6),qg 42 false (qd 45 2 43 44),
 qg 42 false (qf 46 1 45),qg 42 false (ql 47 1 46),qg 42 false (qm 48 0),qg 42 false (qo .geq 49 47 48),qQ 50 42 49]
@[go_sem] def c_r02_Generate_r8 : LL := [qn 4 1,qi 5 6]
@[go_sem] def c_r02_Generate_r9 : LL := [qm 17 6,qk .add 18 17 1,qm 6 18]
def c_r02_Generate_b10 : LC := (.seq (.seq (.reg c_r02_Generate_r6 [0,1,6,16]) (.cond (.t 16) .skip (.exit 0))) (.seq (.block 1 (.seq (.reg c_r02_Generate_r7 [0,1,6,50]) (.cond (.t 50) (.seq (.reg c_r02_Generate_r8 [4,5]) .ret) .skip))) (.reg c_r02_Generate_r9 [0,1,6])))
@[go_sem] def c_r02_Generate_r11 (F : Fn) : LL := [qm 51 0,qc 52 (F "r02.Finest") [.t 51],qm 7 52]
@[go_sem] def c_r02_Generate_r12 : LL := [qi 8 0]
@[go_sem] def c_r02_Generate_r13 : LL := [qm 53 8,qm 54 1,qz 55 54,qo .lss 56 53 55]
@[go_sem] def c_r02_Generate_r14 (F : Fn) : LL := [qm 59 7,qm 60 1,qm 61 8,qd 62 2 60 61,qf 63 0 62,ql 64 1 63,qm 65 1,qm 66 8,qd 67 2 65 66,qf 68 1 67,ql 69 1 68,qc 70 (F "r02.Merge") [.t 59,.t 64,.t 69],qm 7 70]
@[go_sem] def c_r02_Generate_r15 : LL := [qm 57 8,qk .add 58 57 1,qm 8 58]
def c_r02_Generate_b16 (F : Fn) : LC := (.seq (.seq (.reg c_r02_Generate_r13 [1,7,8,56]) (.cond (.t 56) .skip (.exit 2))) (.seq (.block 3 (.dreg [] (c_r02_Generate_r14 F) [1,7,8])) (.reg c_r02_Generate_r15 [1,7,8])))
@[go_sem] def c_r02_Generate_r17 : LL := [qm 71 7,qm 4 71,qi 5 0]
@[go_sem] def c_r02_Generate (F : Fn) : LC := (.seq (.reg c_r02_Generate_r0 [0,1]) (.seq (.seq (.reg c_r02_Generate_r1 [0,1,10]) (.cond (.t 10) (.seq (.reg c_r02_Generate_r2 [4,5]) .ret) .skip)) (.seq (.seq (.reg c_r02_Generate_r3 [0,1,12]) (.cond (.t 12) (.seq (.reg c_r02_Generate_r4 [4,5]) .ret) .skip)) (.seq (.seq (.reg c_r02_Generate_r5 [0,1,6]) (.block 0 (.loop [0,1,6] c_r02_Generate_b10))) (.seq (.reg (c_r02_Generate_r11 F) [1,7]) (.seq (.seq (.reg c_r02_Generate_r12 [1,7,8]) (.block 2 (.loop [1,7,8] (c_r02_Generate_b16 F)))) (.seq (.reg c_r02_Generate_r17 [4,5]) .ret)))))))
def h_r02_Generate : Hints := hn [] [(0,[0,1]),(1,[0,1,10]),(2,[4,5]),(3,[0,1,12]),(4,[4,5]),(5,[0,1,6]),(6,[0,1,6,16]),(7,[0,1,6]),(8,[0,1,6,50]),(9,[4,5]),(10,[1,7]),(11,[1,7,8]),(12,[1,7,8,56]),(13,[1,7,8]),(14,[1,7,8]),(15,[4,5])] [(6,[0,1,6]),(12,[1,7,8])]
section
variable (P : Program) (F : String → Nat)
def K_partition_root : Prop := ∀ (p r : List Int) (i : Nat), Fo p r → p.length ≤ 1000 → i < p.length → FC P (F "partition.root") [.lst 1 (ints p), .int .i64 i] (.int .i64 (gt r i)) []
def K_partition_unite : Prop := ∀ (p r : List Int) (a b : Nat), Fo p r → p.length ≤ 1000 → a < p.length → b < p.length → FC P (F "partition.unite") [.arr 1 (ints p), .int .i64 a, .int .i64 b] (.tup []) [(0, .arr 1 (ints (p.set (max (gt r a) (gt r b)).toNat (min (gt r a) (gt r b)))))]
def K_partition_finest : Prop := ∀ n : Nat, n ≤ 1000000 → FC P (F "partition.finest") [.int .i64 n] (.arr 1 (ints (nums 0 n))) []
def K_partition_flat : Prop := ∀ p r : List Int, Fo p r → p.length ≤ 1000 → FC P (F "partition.flat") [.arr 1 (ints p)] (.arr 1 (ints r)) []
def K_partition_Generate : Prop := ∀ (n : Nat) (l : List Pr), n ≤ 80 → l.length ≤ 1000 → PrIn n l → FC P (F "partition.Generate") [.int .i64 n, .lst 2 (prs l)] (.tup [.arr 1 (ints (genL n l)), .int .i64 0]) []
def K_partition_right : Prop := ∀ p : List Int, Idem p → p.length ≤ 80 → FC P (F "partition.right") [.lst 1 (ints p)] (.bool true) []
def K_partition_one : Prop := ∀ p : List Int, Idem p → p.length ≤ 80 → FC P (F "partition.one") [.lst 1 (ints p)] (.int .i64 0) []
def K_partition_Quotient : Prop := ∀ p : List Int, Idem p → p.length ≤ 80 → FC P (F "partition.Quotient") [.lst 1 (ints p)] (.tup [.arr 1 (ints (quo p p.length).1), .int .i64 (quo p p.length).2, .int .i64 0]) []
def K_r02_Generate : Prop := ∀ (n : Nat) (l : List Pr), n ≤ 80 → l.length ≤ 1000 → PrIn n l → FC P (F "r02.Generate") [.int .i64 n, .lst 2 (prs l)] (.tup [.arr 1 (ints (genL n l)), .int .i64 0]) []
end
section
variable {P : Program} {F : String → Nat} {α : Type}
theorem w_partition_root (p r : List Int) (i : Nat) (h : Fo p r) (hl : p.length ≤ 1000) (hi : i < p.length) : W P (c_partition_root F) (Done [.t 4] [] (.int .i64 (gt r i)) []) (init [.lst 1 (ints p), .int .i64 i]) := by
 refine W_of ?_
 simp (disch := omega) only [go_sem, ↓reduceIte]
 refine W_loop (fun k : Nat => ⟨[(0, .lst 1 (ints p)), (1, .int .i64 k)], [], 0⟩) (fun k => k < p.length ∧ gt r k = gt r i) (fun k => k) i ?_ ?_ ?_
 ·simp (disch := omega) only [go_sem, ↓reduceIte]
  try rfl
 ·exact ⟨hi, rfl⟩
 ·rintro k ⟨h1, h2⟩
  obtain ⟨b1, b2⟩ := h.b k h1
  obtain ⟨m, hm⟩ := natI b1
  have hs := h.s k h1
  have ht := h.t k h1
  simp (disch := omega) only [go_sem, ↓reduceIte, c_partition_root_b3]
  refine bran_ndec (fun c => ?_) (fun c => ?_)
  ·rw [hm] at c hs b2
   simp (disch := omega) only [go_sem, ↓reduceIte]
   exact ⟨m, by rw [hm], ⟨by omega, by rw [hs, h2]⟩, by omega⟩
  ·simp (disch := omega) only [go_sem, ↓reduceIte]
   rw [← h2, ht c]
theorem w_partition_unite (hr : K_partition_root P F) (p r : List Int) (a b : Nat) (h : Fo p r) (hl : p.length ≤ 1000) (ha : a < p.length) (hb : b < p.length) :
  W P (c_partition_unite F) (Done [] [0] (.tup []) [(0, .arr 1 (ints (p.set (max (gt r a) (gt r b)).toNat (min (gt r a) (gt r b)))))]) (init [.arr 1 (ints p), .int .i64 a, .int .i64 b]) := by
 refine W_of ?_
 have r1 := hr p r a h hl ha
 have r2 := hr p r b h hl hb
 have hlo : min (gt r a) (gt r b) = if gt r b < gt r a then gt r b else gt r a := by rw [Int.min_def]; split <;> split <;> omega
 have hhi : max (gt r a) (gt r b) = if gt r a < gt r b then gt r b else gt r a := by rw [Int.max_def]; split <;> split <;> omega
 have hb1 : 0 ≤ max (gt r a) (gt r b) ∧ max (gt r a) (gt r b) < p.length := by
  obtain ⟨⟨a1, a2⟩, _⟩ := h.c a ha
  obtain ⟨⟨b1, b2⟩, _⟩ := h.c b hb
  omega
 rw [hhi] at hb1
 rw [hlo, hhi]
 clear hlo hhi
 simp (disch := omega) only [go_sem, ↓reduceIte]
 refine call_by r1 ?_
 simp (disch := omega) only [go_sem, ↓reduceIte]
 refine call_by r2 ?_
 simp (disch := omega) only [go_sem, ↓reduceIte]
theorem w_partition_finest (n : Nat) (hn : n ≤ 1000000) : W P (c_partition_finest F) (Done [.t 2] [] (.arr 1 (ints (nums 0 n))) []) (init [.int .i64 n]) := by
 refine W_of ?_
 simp (config := { maxSteps := 1000000 }) (disch := first | omega | (simp only [go_sem]; omega)) only [go_sem, ↓reduceIte]
 refine W_loop (fun i : Nat => ⟨[(3, .sl 0 0 n), (8, .int .i64 n), (9, .int .i64 i)], [(0, .arr 1 (ints (nums 0 i ++ List.replicate (n - i) 0)))], 1⟩) (fun i => i ≤ n) (fun i => n - i) 0 ?_ ?_ ?_
 ·simp (config := { maxSteps := 1000000 }) (disch := first | omega | (simp only [go_sem]; omega)) only [go_sem, ↓reduceIte, nums_zero]
  rfl
 ·omega
 ·intro i hi
  have hl := nums_len 0 i
  simp (config := { maxSteps := 1000000 }) (disch := first | omega | (simp only [go_sem]; omega)) only [go_sem, ↓reduceIte, c_partition_finest_b7]
  refine bran_dec (fun c => ?_) (fun c => ?_)
  ·have hf : (nums 0 i ++ List.replicate (n - i) 0).set i (i : Int) = nums 0 (i + 1) ++ List.replicate (n - (i + 1)) 0 := by
    have := fillL (nums 0 i) (i : Int) 0 (n - (i + 1))
    rw [hl, show n - (i + 1) + 1 = n - i by omega] at this
    rw [this, nums_succ]
    simp
   simp (config := { maxSteps := 1000000 }) (disch := first | omega | (simp only [go_sem]; omega)) only [go_sem, ↓reduceIte, hl, hf]
   exact ⟨i + 1, by simp, by omega, by omega⟩
  ·obtain rfl : i = n := by omega
   simp (config := { maxSteps := 1000000 }) (disch := first | omega | (simp only [go_sem]; omega)) only [go_sem, ↓reduceIte, hl]
   simp
theorem w_partition_flat (hr : K_partition_root P F) (p r : List Int) (h : Fo p r) (hl : p.length ≤ 1000) : W P (c_partition_flat F) (Done [.t 2] [] (.arr 1 (ints r)) []) (init [.arr 1 (ints p)]) := by
 refine W_of ?_
 have hlr := h.l
 generalize hn : p.length = n at *
 simp (disch := omega) only [go_sem, ↓reduceIte, hn]
 refine W_loop (fun s : Nat × List Int => ⟨[(0, .sl 0 0 n), (5, .int .i64 n), (6, .int .i64 s.1)], [(0, .arr 1 (ints s.2))], 1⟩) (fun s => s.1 ≤ n ∧ s.2.length = n ∧ Fo s.2 r ∧ ∀ j : Nat, j < s.1 → gt s.2 j = gt r j) (fun s => n - s.1) (0, p) ?_ ?_ ?_
 ·simp (disch := omega) only [go_sem, ↓reduceIte, hn]
  rfl
 ·exact ⟨by omega, hn, h, fun j hj => by omega⟩
 ·rintro ⟨i, q⟩ ⟨h1, h2, h3, h4⟩
  simp only at h1 h2 h3 h4
  by_cases c : i < n
  ·have g1 : decide ((i : Int) < n) = true := decide_eq_true (by omega)
   have r1 := hr q r i h3 (by omega) (by omega)
   simp (disch := omega) only [go_sem, ↓reduceIte, c_partition_flat_b6, g1, h2]
   refine call_by r1 ?_
   simp (disch := omega) only [go_sem, ↓reduceIte, h2]
   refine ⟨(i + 1, q.set i (gt r i)), by simp, ⟨by simp only; omega, by simp [h2], h3.flat (by omega), fun j hj => ?_⟩, by simp only; omega⟩
   simp only
   rw [gt_setS (by omega)]
   split
   ·rename_i e; subst e; rfl
   ·simp only at hj; exact h4 j (by omega)
  ·have g1 : decide ((i : Int) < n) = false := decide_eq_false (by omega)
   have e : q = r := list_ext_gt (by omega) fun j hj => h4 j (by omega)
   subst e
   simp (disch := omega) only [go_sem, ↓reduceIte, c_partition_flat_b6, g1, h2]
theorem w_partition_Generate (hf : K_partition_finest P F) (hu : K_partition_unite P F) (hfl : K_partition_flat P F) (n : Nat) (l : List Pr) (hn : n ≤ 80) (hl : l.length ≤ 1000) (hp : PrIn n l) :
  W P (c_partition_Generate F) (Done [.t 4, .t 5] [] (.tup [.arr 1 (ints (genL n l)), .int .i64 0]) []) (init [.int .i64 n, .lst 2 (prs l)]) := by
 refine W_of ?_
 have d1 : decide ((80 : Int) < n) = false := decide_eq_false (by omega)
 have d2 : decide ((n : Int) < 0) = false := decide_eq_false (by omega)
 have r1 := hf n (by omega)
 have nl := nums_len 0 n
 simp (disch := omega) only [go_sem, ↓reduceIte, d1, d2]
 refine call_by r1 ?_
 simp (disch := omega) only [go_sem, ↓reduceIte, nl]
 refine W_loop (fun s : Nat × List Int => ⟨[(0, .int .i64 n), (6, .sl 0 0 n), (15, .lst 2 (prs l)), (16, .int .i64 l.length), (17, .int .i64 s.1)], [(0, .arr 1 (ints s.2))], 1⟩) (fun s => s.1 ≤ l.length ∧ s.2.length = n ∧ Fo s.2 (genI n l s.1)) (fun s => l.length - s.1) (0, nums 0 n) ?_ ?_ ?_
 ·simp (disch := omega) only [go_sem, ↓reduceIte, nl]
  rfl
 ·exact ⟨by simp, nl, nums_Fo n⟩
 ·rintro ⟨i, q⟩ ⟨h1, h2, h3⟩
  simp only at h1 h2 h3
  by_cases c : i < l.length
  ·have g1 : decide ((i : Int) < l.length) = true := decide_eq_true (by omega)
   obtain ⟨⟨a1, a2⟩, b1, b2⟩ := hp i c
   have hs : genI n l (i + 1) = mergeL (genI n l i) (gt l i).a (gt l i).b := rfl
   generalize hgi : genI n l (i + 1) = gi' at *
   generalize genI n l i = gi at *
   obtain ⟨a, ha⟩ := natI a1
   obtain ⟨b, hb⟩ := natI b1
   rw [ha, hb] at hs
   rw [ha] at a1 a2
   rw [hb] at b1 b2
   have r2 := hu q gi a b h3 (by omega) (by omega) (by omega)
   have e1 : decide ((a : Int) < 0) = false := decide_eq_false (by omega)
   have e2 : decide ((n : Int) ≤ a) = false := decide_eq_false (by omega)
   have e3 : decide ((b : Int) < 0) = false := decide_eq_false (by omega)
   have e4 : decide ((n : Int) ≤ b) = false := decide_eq_false (by omega)
   have hf2 := h3.unite (a := a) (b := b) (by omega) (by omega)
   rw [← hs] at hf2
   clear hs
   generalize hq : q.set (max (gt gi a) (gt gi b)).toNat (min (gt gi a) (gt gi b)) = q' at *
   have ql : q'.length = n := by rw [← hq, List.length_set, h2]
   simp (disch := omega) only [go_sem, ↓reduceIte, c_partition_Generate_b13, g1, ha, hb, e1, e2, e3, e4, h2]
   refine call_by r2 ?_
   simp (disch := omega) only [go_sem, ↓reduceIte, h2, ql]
   exact ⟨(i + 1, q'), by simp, ⟨by simp only; omega, ql, by show Fo q' (genI n l (i + 1)); rw [hgi]; exact hf2⟩, by simp only; omega⟩
  ·have g1 : decide ((i : Int) < l.length) = false := decide_eq_false (by omega)
   obtain rfl : i = l.length := by omega
   have gl := gen_len (n := n) (l := l) l.length
   have r2 := hfl q _ h3 (by omega)
   have hE : genL n l = genI n l l.length := rfl
   rw [hE]
   generalize genI n l l.length = gi at *
   simp (disch := omega) only [go_sem, ↓reduceIte, c_partition_Generate_b13, g1, h2]
   refine call_by r2 ?_
   simp (disch := omega) only [go_sem, ↓reduceIte, gl]
theorem w_partition_right (p : List Int) (hp : Idem p) (hl : p.length ≤ 80) : W P (c_partition_right F) (Done [.t 2] [] (.bool true) []) (init [.lst 1 (ints p)]) := by
 refine W_of ?_
 simp (disch := omega) only [go_sem, ↓reduceIte]
 refine W_loop (fun i : Nat => ⟨[(0, .lst 1 (ints p)), (5, .lst 1 (ints p)), (6, .int .i64 p.length), (7, .int .i64 i)], [], 0⟩) (fun i => i ≤ p.length) (fun i => p.length - i) 0 ?_ ?_ ?_
 ·simp (disch := omega) only [go_sem, ↓reduceIte]
  rfl
 ·simp
 ·intro i hi
  by_cases c : i < p.length
  ·obtain ⟨⟨h1, h2⟩, h3⟩ := hp i c
   have g1 : decide ((i : Int) < p.length) = true := decide_eq_true (by omega)
   have g2 : decide (gt p i < 0) = false := decide_eq_false (by omega)
   have g3 : decide ((i : Int) < gt p i) = false := decide_eq_false (by omega)
   have g4 : decide (gt p (gt p i) = gt p i) = true := decide_eq_true h3
   simp (disch := omega) only [go_sem, ↓reduceIte, c_partition_right_b7, g1, g2, g3, g4]
   exact ⟨i + 1, by simp, by omega, by omega⟩
  ·have g1 : decide ((i : Int) < p.length) = false := decide_eq_false (by omega)
   simp (disch := omega) only [go_sem, ↓reduceIte, c_partition_right_b7, g1]
theorem w_partition_one (hr : K_partition_right P F) (p : List Int) (hp : Idem p) (hl : p.length ≤ 80) : W P (c_partition_one F) (Done [.t 2] [] (.int .i64 0) []) (init [.lst 1 (ints p)]) := by
 refine W_of ?_
 have r := hr p hp hl
 have g0 : decide ((80 : Int) < p.length) = false := decide_eq_false (by omega)
 simp (disch := omega) only [go_sem, ↓reduceIte, g0]
 refine call_by r ?_
 simp (disch := omega) only [go_sem, ↓reduceIte]
theorem w_partition_Quotient (ho : K_partition_one P F) (p : List Int) (hp : Idem p) (hl : p.length ≤ 80) : W P (c_partition_Quotient F) (Done [.t 2, .t 3, .t 4] [] (.tup [.arr 1 (ints (quo p p.length).1), .int .i64 (quo p p.length).2, .int .i64 0]) []) (init [.lst 1 (ints p)]) := by
 refine W_of ?_
 have r := ho p hp hl
 have ql : ∀ i : Nat, (quo p i).1.length = i ∧ (quo p i).2 ≤ i := fun i => by
  induction i with
  | zero => simp [quo]
  | succ i ih =>
   rw [quo]
   split <;> simp [ih.1] <;> omega
 simp (disch := omega) only [go_sem, ↓reduceIte]
 refine call_by r ?_
 simp (disch := omega) only [go_sem, ↓reduceIte]
 refine W_loop (fun i : Nat => ⟨[(6, .sl 0 0 i), (7, .int .i64 (quo p i).2), (15, .lst 1 (ints p)), (16, .int .i64 p.length), (17, .int .i64 i)], [(0, .arr 1 (ints (quo p i).1))], 1⟩) (fun i => i ≤ p.length) (fun i => p.length - i) 0 ?_ ?_ ?_
 ·simp (disch := omega) only [go_sem, ↓reduceIte, ints_nil, quo]
  rfl
 ·simp
 ·intro i hi
  obtain ⟨e1, e2⟩ := ql i
  have hs : quo p (i + 1) = if gt p i = i then ((quo p i).1 ++ [((quo p i).2 : Int)], (quo p i).2 + 1) else ((quo p i).1 ++ [gt (quo p i).1 (gt p i)], (quo p i).2) := rfl
  simp (disch := omega) only [go_sem, ↓reduceIte, c_partition_Quotient_b14]
  refine bran_dec (fun c => ?_) (fun c => ?_)
  ·obtain ⟨⟨h1, h2⟩, h3⟩ := hp i (by omega)
   simp (disch := omega) only [go_sem, ↓reduceIte]
   refine bran_dec (fun d => ?_) (fun d => ?_)
   ·rw [if_pos d] at hs
    simp (disch := omega) only [go_sem, ↓reduceIte, e1]
    exact ⟨i + 1, by simp [hs], by omega, by omega⟩
   ·rw [if_neg d] at hs
    simp (disch := omega) only [go_sem, ↓reduceIte, e1]
    exact ⟨i + 1, by simp [hs], by omega, by omega⟩
  ·obtain rfl : i = p.length := by omega
   simp (disch := omega) only [go_sem, ↓reduceIte, e1]
theorem w_r02_Generate (hf : K_r02_Finest P F) (hm : K_r02_Merge P F) (n : Nat) (l : List Pr) (hn : n ≤ 80) (hl : l.length ≤ 1000) (hp : PrIn n l) :
  W P (c_r02_Generate F) (Done [.t 4, .t 5] [] (.tup [.arr 1 (ints (genL n l)), .int .i64 0]) []) (init [.int .i64 n, .lst 2 (prs l)]) := by
 refine W_of ?_
 have d1 : decide ((80 : Int) < n) = false := decide_eq_false (by omega)
 have d2 : decide ((n : Int) < 0) = false := decide_eq_false (by omega)
 have r1 := hf n (by omega)
 have nl := nums_len 0 n
 have gl := gen_len (n := n) (l := l)
 simp (disch := omega) only [go_sem, ↓reduceIte, d1, d2]
 refine W_loop (fun i : Nat => ⟨[(0, .int .i64 n), (1, .lst 2 (prs l)), (6, .int .i64 i)], [], 0⟩) (fun i => i ≤ l.length) (fun i => l.length - i) 0 ?_ ?_ ?_
 ·simp (disch := omega) only [go_sem, ↓reduceIte]
  rfl
 ·simp
 ·intro i hi
  by_cases c : i < l.length
  ·have g1 : decide ((i : Int) < l.length) = true := decide_eq_true (by omega)
   obtain ⟨⟨a1, a2⟩, b1, b2⟩ := hp i c
   have e1 : decide ((gt l i).a < 0) = false := decide_eq_false (by omega)
   have e2 : decide ((n : Int) ≤ (gt l i).a) = false := decide_eq_false (by omega)
   have e3 : decide ((gt l i).b < 0) = false := decide_eq_false (by omega)
   have e4 : decide ((n : Int) ≤ (gt l i).b) = false := decide_eq_false (by omega)
   simp (disch := omega) only [go_sem, ↓reduceIte, c_r02_Generate_b10, g1, e1, e2, e3, e4]
   exact ⟨i + 1, by simp, by omega, by omega⟩
  ·have g1 : decide ((i : Int) < l.length) = false := decide_eq_false (by omega)
   simp (disch := omega) only [go_sem, ↓reduceIte, c_r02_Generate_b10, g1]
   refine call_by r1 ?_
   simp (disch := omega) only [go_sem, ↓reduceIte, nl]
   refine W_loop (fun i : Nat => ⟨[(1, .lst 2 (prs l)), (7, .sl 0 0 n), (8, .int .i64 i)], [(0, .arr 1 (ints (genI n l i)))], 1⟩) (fun i => i ≤ l.length) (fun i => l.length - i) 0 ?_ ?_ ?_
   ·simp (disch := omega) only [go_sem, ↓reduceIte, genI, nl]
    rfl
   ·simp
   ·intro i hi
    have gli := gl i
    by_cases c : i < l.length
    ·have g1 : decide ((i : Int) < l.length) = true := decide_eq_true (by omega)
     obtain ⟨⟨a1, a2⟩, b1, b2⟩ := hp i c
     have hs : genI n l (i + 1) = mergeL (genI n l i) (gt l i).a (gt l i).b := rfl
     obtain ⟨a, ha⟩ := natI a1
     obtain ⟨b, hb⟩ := natI b1
     rw [ha, hb] at hs
     rw [ha] at a1 a2
     rw [hb] at b1 b2
     have r2 := hm (genI n l i) a b (by omega) (by omega) (by omega)
     rw [← hs] at r2
     have gls := gl (i + 1)
     clear hs
     simp (disch := omega) only [go_sem, ↓reduceIte, c_r02_Generate_b16, g1, ha, hb, gli]
     refine call_by r2 ?_
     simp (disch := omega) only [go_sem, ↓reduceIte, gls]
     exact ⟨i + 1, by simp, by omega, by omega⟩
    ·have g1 : decide ((i : Int) < l.length) = false := decide_eq_false (by omega)
     obtain rfl : i = l.length := by omega
     have hE : genL n l = genI n l l.length := rfl
     rw [hE]
     simp (disch := omega) only [go_sem, ↓reduceIte, c_r02_Generate_b16, g1, gli]
end
end Go.Am
