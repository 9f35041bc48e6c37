/- Images of graphs by numbers: what they are, and that they are morphisms. -/
/- Images of graphs by numbers: the reference's functions. -/
import Derived.Test.YtpdjpdfkacpnnaaSkZ
namespace Go.Am
open Go
set_option linter.unusedVariables false
set_option linter.unusedSimpArgs false
def mergeL (p : List Int) (a b : Int) : List Int := p.map fun k => if k = max (gt p a) (gt p b) then min (gt p a) (gt p b) else k
def keyI (c : List Int) (i : Nat) : Int := (gt c ((i : Int).tmod c.length)).tmod ((i : Int) + 1)
def part (g : G) (c : List Int) : Nat → List Int
  | 0 => nums 0 g.n.length
  | k + 1 => if keyI c (k + 1) < ((k + 1 : Nat) : Int) ∧ gt g.n (keyI c (k + 1)) = gt g.n ((k + 1 : Nat) : Int) then mergeL (part g c k) (keyI c (k + 1)) ((k + 1 : Nat) : Int) else part g c k
def quo (p : List Int) : Nat → List Int × Nat
  | 0 => ([], 0)
  | i + 1 => if gt p i = i then ((quo p i).1 ++ [((quo p i).2 : Int)], (quo p i).2 + 1) else ((quo p i).1 ++ [gt (quo p i).1 (gt p i)], (quo p i).2)
section
theorem gt_appS {α : Type} [Inhabited α] {l : List α} {x : α} {i : Nat} (h : i < l.length) : gt (l ++ [x]) (i : Int) = gt l i := by
  rw [gt_nat (by simp; omega), gt_nat h, List.getElem_append_left h]
theorem gt_lastS {α : Type} [Inhabited α] {l : List α} {x : α} {i : Nat} (h : i = l.length) : gt (l ++ [x]) (i : Int) = x := by
  subst h
  rw [gt_nat (by simp)]; simp
theorem merge_len (p : List Int) (a b : Int) : (mergeL p a b).length = p.length := by simp [mergeL]
theorem gt_setH {l : List Int} {k i : Nat} {v : Int} (hi : i < l.length) : gt (l.set k v) i = if k = i then v else gt l i := by
  rw [gt_nat (by simpa using hi), gt_nat hi, List.getElem_set]
end
end Go.Am
namespace Go.Am
open Go
set_option linter.unusedVariables false
set_option linter.unusedSimpArgs false
attribute [local irreducible] W
/- r02.Merge -/
def c_r02_Merge_r0 (F : String → Nat) : List LI := [⟨some 6, .mov (.k (.nl 1)), none⟩]
def c_r02_Merge_r1 (F : String → Nat) : List LI := [⟨some 12, .mov (.t 0), none⟩,
  ⟨some 13, .mov (.t 1), none⟩,
  ⟨some 14, .iad 1 (.t 12) (.t 13), none⟩,
  ⟨some 15, .load false 1 (.t 14), none⟩,
  ⟨some 16, .mov (.t 0), none⟩,
  ⟨some 17, .mov (.t 2), none⟩,
  ⟨some 18, .iad 1 (.t 16) (.t 17), none⟩,
  ⟨some 19, .load false 1 (.t 18), none⟩,
  ⟨some 20, .mn [.t 15, .t 19], none⟩,
  ⟨some 21, .mov (.t 0), none⟩,
  ⟨some 22, .mov (.t 1), none⟩,
  ⟨some 23, .iad 1 (.t 21) (.t 22), none⟩,
  ⟨some 24, .load false 1 (.t 23), none⟩,
  ⟨some 25, .mov (.t 0), none⟩,
  ⟨some 26, .mov (.t 2), none⟩,
  ⟨some 27, .iad 1 (.t 25) (.t 26), none⟩,
  ⟨some 28, .load false 1 (.t 27), none⟩,
  ⟨some 29, .mx [.t 24, .t 28], none⟩,
  ⟨some 7, .mov (.t 20), none⟩,
  ⟨some 8, .mov (.t 29), none⟩]
def c_r02_Merge_r2 (F : String → Nat) : List LI := [⟨some 9, .mov (.k (.nl 1)), none⟩]
def c_r02_Merge_r3 (F : String → Nat) : List LI := [⟨some 10, .mov (.k (.int .i64 (0))), none⟩]
def c_r02_Merge_r4 (F : String → Nat) : List LI := [⟨some 30, .mov (.t 10), none⟩,
  ⟨some 31, .mov (.t 0), none⟩,
  ⟨some 32, .len (.t 31), none⟩,
  ⟨some 33, .bin .lss (.t 30) (.t 32), none⟩]
def c_r02_Merge_r5 (F : String → Nat) : List LI := [⟨some 36, .mov (.t 0), none⟩,
  ⟨some 37, .mov (.t 10), none⟩,
  ⟨some 38, .iad 1 (.t 36) (.t 37), none⟩,
  ⟨some 39, .load false 1 (.t 38), none⟩,
  ⟨some 11, .mov (.t 39), none⟩]
def c_r02_Merge_r6 (F : String → Nat) : List LI := [⟨some 40, .mov (.t 11), none⟩,
  ⟨some 41, .mov (.t 8), none⟩,
  ⟨some 42, .bin .eql (.t 40) (.t 41), none⟩]
def c_r02_Merge_r7 (F : String → Nat) : List LI := [⟨some 43, .mov (.t 7), none⟩,
  ⟨some 11, .mov (.t 43), none⟩]
def c_r02_Merge_r8 (F : String → Nat) : List LI := [⟨some 44, .mov (.t 9), none⟩,
  ⟨some 45, .mov (.t 11), none⟩,
  ⟨some 46, .buildSl 1 8 (.int .i64 (0)) 1 [(0, .t 45)], none⟩,
  ⟨some 47, .app 1 8 (.t 44) (.t 46), none⟩,
  ⟨some 9, .mov (.t 47), none⟩]
def c_r02_Merge_r9 (F : String → Nat) : List LI := [⟨some 34, .mov (.t 10), none⟩,
  ⟨some 35, .bin .add (.t 34) (.k (.int .i64 (1))), none⟩,
  ⟨some 10, .mov (.t 35), none⟩]
def c_r02_Merge_b10 (F : String → Nat) : LC := (.seq (.seq (.reg (c_r02_Merge_r4 F) [0, 7, 8, 9, 10, 33]) (.cond (.t 33) .skip (.exit 0))) (.seq (.block 1 (.seq (.reg (c_r02_Merge_r5 F) [0, 7, 8, 9, 10, 11]) (.seq (.seq (.reg (c_r02_Merge_r6 F) [0, 7, 8, 9, 10, 11, 42]) (.cond (.t 42) (.reg (c_r02_Merge_r7 F) [0, 7, 8, 9, 10, 11]) .skip)) (.reg (c_r02_Merge_r8 F) [0, 7, 8, 9, 10])))) (.reg (c_r02_Merge_r9 F) [0, 7, 8, 9, 10])))
def c_r02_Merge_r11 (F : String → Nat) : List LI := [⟨some 48, .mov (.t 9), none⟩,
  ⟨some 6, .mov (.t 48), none⟩]
def c_r02_Merge (F : String → Nat) : LC := (.seq (.reg (c_r02_Merge_r0 F) [0, 1, 2]) (.seq (.dreg [] (c_r02_Merge_r1 F) [0, 7, 8]) (.seq (.reg (c_r02_Merge_r2 F) [0, 7, 8, 9]) (.seq (.seq (.reg (c_r02_Merge_r3 F) [0, 7, 8, 9, 10]) (.block 0 (.loop [0, 7, 8, 9, 10] (c_r02_Merge_b10 F)))) (.seq (.reg (c_r02_Merge_r11 F) [6]) .ret)))))
def h_r02_Merge : Hints := ⟨[], fun _ => [], tab [(0, [0, 1, 2]), (1, [0, 7, 8]), (2, [0, 7, 8, 9]), (3, [0, 7, 8, 9, 10]), (4, [0, 7, 8, 9, 10, 33]), (5, [0, 7, 8, 9, 10]), (6, [0, 7, 8, 9, 10, 11]), (7, [0, 7, 8, 9, 10, 11, 42]), (8, [0, 7, 8, 9, 10, 11]), (9, [0, 7, 8, 9, 10]), (10, [6])], tab [(4, [0, 7, 8, 9, 10])]⟩

/- r02.Valid -/
def c_r02_Valid_r0 (F : String → Nat) : List LI := [⟨some 2, .mov (.k (.bool false)), none⟩]
def c_r02_Valid_r1 (F : String → Nat) : List LI := [⟨some 4, .mov (.t 0), none⟩,
  ⟨some 5, .len (.t 4), none⟩,
  ⟨some 6, .bin .gtr (.t 5) (.k (.int .i64 (80))), none⟩]
def c_r02_Valid_r2 (F : String → Nat) : List LI := [⟨some 2, .mov (.k (.bool false)), none⟩]
def c_r02_Valid_r3 (F : String → Nat) : List LI := [⟨some 3, .mov (.k (.int .i64 (0))), none⟩]
def c_r02_Valid_r4 (F : String → Nat) : List LI := [⟨some 7, .mov (.t 3), none⟩,
  ⟨some 8, .mov (.t 0), none⟩,
  ⟨some 9, .len (.t 8), none⟩,
  ⟨some 10, .bin .lss (.t 7) (.t 9), none⟩]
def c_r02_Valid_r5 (F : String → Nat) : List LI := [⟨some 13, .mov (.t 0), none⟩,
  ⟨some 14, .mov (.t 3), none⟩,
  ⟨some 15, .iad 1 (.t 13) (.t 14), none⟩,
  ⟨some 16, .load false 1 (.t 15), none⟩,
  ⟨some 17, .bin .lss (.t 16) (.k (.int .i64 (0))), none⟩,
  ⟨some 18, .mov (.t 17), none⟩,
  ⟨some 19, .mov (.t 0), some (18, false)⟩,
  ⟨some 20, .mov (.t 3), some (18, false)⟩,
  ⟨some 21, .iad 1 (.t 19) (.t 20), some (18, false)⟩,
  ⟨some 22, .load false 1 (.t 21), some (18, false)⟩,
  ⟨some 23, .mov (.t 3), some (18, false)⟩,
  ⟨some 24, .bin .gtr (.t 22) (.t 23), some (18, false)⟩,
  ⟨some 25, .pick (.t 18) (.k (.bool true)) (.t 24), none⟩,
  ⟨some 26, .mov (.t 25), none⟩,
  ⟨some 27, .mov (.t 0), some (26, false)⟩,
  ⟨some 28, .mov (.t 0), some (26, false)⟩,
  ⟨some 29, .mov (.t 3), some (26, false)⟩,
  ⟨some 30, .iad 1 (.t 28) (.t 29), some (26, false)⟩,
  ⟨some 31, .load false 1 (.t 30), some (26, false)⟩,
  ⟨some 32, .iad 1 (.t 27) (.t 31), some (26, false)⟩,
  ⟨some 33, .load false 1 (.t 32), some (26, false)⟩,
  ⟨some 34, .mov (.t 0), some (26, false)⟩,
  ⟨some 35, .mov (.t 3), some (26, false)⟩,
  ⟨some 36, .iad 1 (.t 34) (.t 35), some (26, false)⟩,
  ⟨some 37, .load false 1 (.t 36), some (26, false)⟩,
  ⟨some 38, .bin .neq (.t 33) (.t 37), some (26, false)⟩,
  ⟨some 39, .pick (.t 26) (.k (.bool true)) (.t 38), none⟩]
def c_r02_Valid_r6 (F : String → Nat) : List LI := [⟨some 2, .mov (.k (.bool false)), none⟩]
def c_r02_Valid_r7 (F : String → Nat) : List LI := [⟨some 11, .mov (.t 3), none⟩,
  ⟨some 12, .bin .add (.t 11) (.k (.int .i64 (1))), none⟩,
  ⟨some 3, .mov (.t 12), none⟩]
def c_r02_Valid_b8 (F : String → Nat) : LC := (.seq (.seq (.reg (c_r02_Valid_r4 F) [0, 3, 10]) (.cond (.t 10) .skip (.exit 0))) (.seq (.block 1 (.seq (.dreg [] (c_r02_Valid_r5 F) [0, 3, 39]) (.cond (.t 39) (.seq (.reg (c_r02_Valid_r6 F) [2]) .ret) .skip))) (.reg (c_r02_Valid_r7 F) [0, 3])))
def c_r02_Valid_r9 (F : String → Nat) : List LI := [⟨some 2, .mov (.k (.bool true)), none⟩]
def c_r02_Valid (F : String → Nat) : LC := (.seq (.reg (c_r02_Valid_r0 F) [0]) (.seq (.seq (.reg (c_r02_Valid_r1 F) [0, 6]) (.cond (.t 6) (.seq (.reg (c_r02_Valid_r2 F) [2]) .ret) .skip)) (.seq (.seq (.reg (c_r02_Valid_r3 F) [0, 3]) (.block 0 (.loop [0, 3] (c_r02_Valid_b8 F)))) (.seq (.reg (c_r02_Valid_r9 F) [2]) .ret))))
def h_r02_Valid : Hints := ⟨[], fun _ => [], tab [(0, [0]), (1, [0, 6]), (2, [2]), (3, [0, 3]), (4, [0, 3, 10]), (5, [0, 3]), (6, [0, 3, 39]), (7, [2]), (8, [2])], tab [(4, [0, 3])]⟩

/- r02.one -/
def c_r02_one_r0 (F : String → Nat) : List LI := [⟨some 2, .mov (.k (.int .i64 (0))), none⟩]
def c_r02_one_r1 (F : String → Nat) : List LI := [⟨some 3, .mov (.t 0), none⟩,
  ⟨some 4, .len (.t 3), none⟩,
  ⟨some 5, .bin .gtr (.t 4) (.k (.int .i64 (80))), none⟩]
def c_r02_one_r2 (F : String → Nat) : List LI := [⟨some 2, .mov (.k (.int .i64 (3))), none⟩]
def c_r02_one_r3 (F : String → Nat) : List LI := [⟨some 6, .mov (.t 0), none⟩,
  ⟨some 7, .call (F "r02.Valid") [.t 6] [], none⟩,
  ⟨some 8, .not (.t 7), none⟩]
def c_r02_one_r4 (F : String → Nat) : List LI := [⟨some 2, .mov (.k (.int .i64 (1))), none⟩]
def c_r02_one_r5 (F : String → Nat) : List LI := [⟨some 2, .mov (.k (.int .i64 (0))), none⟩]
def c_r02_one (F : String → Nat) : LC := (.seq (.reg (c_r02_one_r0 F) [0]) (.seq (.seq (.reg (c_r02_one_r1 F) [0, 5]) (.cond (.t 5) (.seq (.reg (c_r02_one_r2 F) [2]) .ret) .skip)) (.seq (.seq (.reg (c_r02_one_r3 F) [8]) (.cond (.t 8) (.seq (.reg (c_r02_one_r4 F) [2]) .ret) .skip)) (.seq (.reg (c_r02_one_r5 F) [2]) .ret))))
def h_r02_one : Hints := ⟨[], fun _ => [], tab [(0, [0]), (1, [0, 5]), (2, [2]), (3, [8]), (4, [2]), (5, [2])], tab []⟩

/- r02.Quotient -/
def c_r02_Quotient_r0 (F : String → Nat) : List LI := [⟨some 2, .mov (.k (.nl 1)), none⟩,
  ⟨some 3, .mov (.k (.int .i64 (0))), none⟩,
  ⟨some 4, .mov (.k (.int .i64 (0))), none⟩]
def c_r02_Quotient_r1 (F : String → Nat) : List LI := [⟨some 9, .mov (.t 0), none⟩,
  ⟨some 10, .call (F "r02.one") [.t 9] [], none⟩,
  ⟨some 5, .mov (.t 10), none⟩]
def c_r02_Quotient_r2 (F : String → Nat) : List LI := [⟨some 11, .mov (.t 5), none⟩,
  ⟨some 12, .bin .neq (.t 11) (.k (.int .i64 (0))), none⟩]
def c_r02_Quotient_r3 (F : String → Nat) : List LI := [⟨some 13, .mov (.t 5), none⟩,
  ⟨some 2, .mov (.k (.nl 1)), none⟩,
  ⟨some 3, .mov (.k (.int .i64 (0))), none⟩,
  ⟨some 4, .mov (.t 13), none⟩]
def c_r02_Quotient_r4 (F : String → Nat) : List LI := [⟨some 6, .mov (.k (.nl 1)), none⟩]
def c_r02_Quotient_r5 (F : String → Nat) : List LI := [⟨some 7, .mov (.k (.int .i64 (0))), none⟩]
def c_r02_Quotient_r6 (F : String → Nat) : List LI := [⟨some 8, .mov (.k (.int .i64 (0))), none⟩]
def c_r02_Quotient_r7 (F : String → Nat) : List LI := [⟨some 14, .mov (.t 8), none⟩,
  ⟨some 15, .mov (.t 0), none⟩,
  ⟨some 16, .len (.t 15), none⟩,
  ⟨some 17, .bin .lss (.t 14) (.t 16), none⟩]
def c_r02_Quotient_r8 (F : String → Nat) : List LI := [⟨some 20, .mov (.t 0), none⟩,
  ⟨some 21, .mov (.t 8), none⟩,
  ⟨some 22, .iad 1 (.t 20) (.t 21), none⟩,
  ⟨some 23, .load false 1 (.t 22), none⟩,
  ⟨some 24, .mov (.t 8), none⟩,
  ⟨some 25, .bin .eql (.t 23) (.t 24), none⟩]
def c_r02_Quotient_r9 (F : String → Nat) : List LI := [⟨some 26, .mov (.t 6), none⟩,
  ⟨some 27, .mov (.t 7), none⟩,
  ⟨some 28, .buildSl 1 8 (.int .i64 (0)) 1 [(0, .t 27)], none⟩,
  ⟨some 29, .app 1 8 (.t 26) (.t 28), none⟩,
  ⟨some 6, .mov (.t 29), none⟩]
def c_r02_Quotient_r10 (F : String → Nat) : List LI := [⟨some 30, .mov (.t 7), none⟩,
  ⟨some 31, .bin .add (.t 30) (.k (.int .i64 (1))), none⟩,
  ⟨some 7, .mov (.t 31), none⟩]
def c_r02_Quotient_r11 (F : String → Nat) : List LI := [⟨some 32, .mov (.t 6), none⟩,
  ⟨some 33, .mov (.t 6), none⟩,
  ⟨some 34, .mov (.t 0), none⟩,
  ⟨some 35, .mov (.t 8), none⟩,
  ⟨some 36, .iad 1 (.t 34) (.t 35), none⟩,
  ⟨some 37, .load false 1 (.t 36), none⟩,
  ⟨some 38, .iad 1 (.t 33) (.t 37), none⟩,
  ⟨some 39, .load false 1 (.t 38), none⟩,
  ⟨some 40, .buildSl 1 8 (.int .i64 (0)) 1 [(0, .t 39)], none⟩,
  ⟨some 41, .app 1 8 (.t 32) (.t 40), none⟩,
  ⟨some 6, .mov (.t 41), none⟩]
def c_r02_Quotient_r12 (F : String → Nat) : List LI := [⟨some 18, .mov (.t 8), none⟩,
  ⟨some 19, .bin .add (.t 18) (.k (.int .i64 (1))), none⟩,
  ⟨some 8, .mov (.t 19), none⟩]
def c_r02_Quotient_b13 (F : String → Nat) : LC := (.seq (.seq (.reg (c_r02_Quotient_r7 F) [0, 6, 7, 8, 17]) (.cond (.t 17) .skip (.exit 0))) (.seq (.block 1 (.seq (.reg (c_r02_Quotient_r8 F) [0, 6, 7, 8, 25]) (.cond (.t 25) (.seq (.reg (c_r02_Quotient_r9 F) [0, 6, 7, 8]) (.reg (c_r02_Quotient_r10 F) [0, 6, 7, 8])) (.reg (c_r02_Quotient_r11 F) [0, 6, 7, 8])))) (.reg (c_r02_Quotient_r12 F) [0, 6, 7, 8])))
def c_r02_Quotient_r14 (F : String → Nat) : List LI := [⟨some 42, .mov (.t 6), none⟩,
  ⟨some 43, .mov (.t 7), none⟩,
  ⟨some 2, .mov (.t 42), none⟩,
  ⟨some 3, .mov (.t 43), none⟩,
  ⟨some 4, .mov (.k (.int .i64 (0))), none⟩]
def c_r02_Quotient (F : String → Nat) : LC := (.seq (.reg (c_r02_Quotient_r0 F) [0]) (.seq (.seq (.reg (c_r02_Quotient_r1 F) [0, 5]) (.seq (.reg (c_r02_Quotient_r2 F) [0, 5, 12]) (.cond (.t 12) (.seq (.reg (c_r02_Quotient_r3 F) [2, 3, 4]) .ret) .skip))) (.seq (.reg (c_r02_Quotient_r4 F) [0, 6]) (.seq (.reg (c_r02_Quotient_r5 F) [0, 6, 7]) (.seq (.seq (.reg (c_r02_Quotient_r6 F) [0, 6, 7, 8]) (.block 0 (.loop [0, 6, 7, 8] (c_r02_Quotient_b13 F)))) (.seq (.reg (c_r02_Quotient_r14 F) [2, 3, 4]) .ret))))))
def h_r02_Quotient : Hints := ⟨[], fun _ => [], tab [(0, [0]), (1, [0, 5]), (2, [0, 5, 12]), (3, [2, 3, 4]), (4, [0, 6]), (5, [0, 6, 7]), (6, [0, 6, 7, 8]), (7, [0, 6, 7, 8, 17]), (8, [0, 6, 7, 8]), (9, [0, 6, 7, 8, 25]), (10, [0, 6, 7, 8]), (11, [0, 6, 7, 8]), (12, [0, 6, 7, 8]), (13, [2, 3, 4])], tab [(7, [0, 6, 7, 8])]⟩

attribute [go_sem] c_r02_Merge_r0 c_r02_Merge_r1 c_r02_Merge_r2 c_r02_Merge_r3 c_r02_Merge_r4 c_r02_Merge_r5 c_r02_Merge_r6 c_r02_Merge_r7 c_r02_Merge_r8 c_r02_Merge_r9 c_r02_Merge_r11 c_r02_Merge c_r02_Valid_r0 c_r02_Valid_r1 c_r02_Valid_r2 c_r02_Valid_r3 c_r02_Valid_r4 c_r02_Valid_r5 c_r02_Valid_r6 c_r02_Valid_r7 c_r02_Valid_r9 c_r02_Valid c_r02_one_r0 c_r02_one_r1 c_r02_one_r2 c_r02_one_r3 c_r02_one_r4 c_r02_one_r5 c_r02_one c_r02_Quotient_r0 c_r02_Quotient_r1 c_r02_Quotient_r2 c_r02_Quotient_r3 c_r02_Quotient_r4 c_r02_Quotient_r5 c_r02_Quotient_r6 c_r02_Quotient_r7 c_r02_Quotient_r8 c_r02_Quotient_r9 c_r02_Quotient_r10 c_r02_Quotient_r11 c_r02_Quotient_r12 c_r02_Quotient_r14 c_r02_Quotient
structure Pv (p : List Int) : Prop where
  l : p.length ≤ 80
  h : ∀ i : Nat, i < p.length → (0 ≤ gt p i ∧ gt p i ≤ i) ∧ gt p (gt p i) = gt p i
section
variable (P : Program) (F : String → Nat)
def K_r02_Merge : Prop := ∀ (p : List Int) (a b : Nat), p.length ≤ 1000 → a < p.length → b < p.length → FC P (F "r02.Merge") [.lst 1 (ints p), .int .i64 a, .int .i64 b] (.arr 1 (ints (mergeL p a b))) []
def K_r02_Valid : Prop := ∀ p : List Int, Pv p → FC P (F "r02.Valid") [.lst 1 (ints p)] (.bool true) []
def K_r02_one : Prop := ∀ p : List Int, Pv p → FC P (F "r02.one") [.lst 1 (ints p)] (.int .i64 0) []
def K_r02_Quotient : Prop := ∀ p : List Int, Pv p → FC P (F "r02.Quotient") [.lst 1 (ints p)] (.tup [.arr 1 (ints (quo p p.length).1), .int .i64 (quo p p.length).2, .int .i64 0]) []
end
section
variable {P : Program} {F : String → Nat} {α : Type}
theorem w_r02_Merge (p : List Int) (a b : Nat) (hl : p.length ≤ 1000) (ha : a < p.length) (hb : b < p.length) : W P (c_r02_Merge F) (Done [.t 6] [] (.arr 1 (ints (mergeL p a b))) []) (init [.lst 1 (ints p), .int .i64 a, .int .i64 b]) := by
  refine W_of ?_
  have ht : ∀ i : Nat, i < p.length → mergeL (p.take (i + 1)) (0 : Int) 0 = mergeL (p.take (i + 1)) 0 0 := fun i hi => rfl
  have hE : mergeL p a b = p.map fun k => if k = max (gt p a) (gt p b) then min (gt p a) (gt p b) else k := rfl
  have hlo : min (gt p a) (gt p b) = if gt p b < gt p a then gt p b else gt p a := by rw [Int.min_def]; split <;> split <;> omega
  have hhi : max (gt p a) (gt p b) = if gt p a < gt p b then gt p b else gt p a := by rw [Int.max_def]; split <;> split <;> omega
  rw [hE, hlo, hhi]
  clear hE ht hlo hhi
  simp (config := { maxSteps := 1000000 }) (disch := first | omega | (simp only [go_sem]; omega)) only [go_sem, ↓reduceIte]
  generalize (if gt p (b : Int) < gt p (a : Int) then gt p (b : Int) else gt p (a : Int)) = lo
  generalize (if gt p (a : Int) < gt p (b : Int) then gt p (b : Int) else gt p (a : Int)) = hi
  refine W_loop (fun i : Nat => ⟨[(0, .lst 1 (ints p)), (7, .int .i64 lo), (8, .int .i64 hi), (9, .sl 0 0 i), (10, .int .i64 i)], [(0, .arr 1 (ints ((p.take i).map fun k => if k = hi then lo else k)))], 1⟩) (fun i => i ≤ p.length) (fun i => p.length - i) 0 ?_ ?_ ?_
  · simp (config := { maxSteps := 1000000 }) (disch := first | omega | (simp only [go_sem]; omega)) only [go_sem, ↓reduceIte, ints_nil]
    rfl
  · simp
  · intro i hi'
    have e1 : ((p.take i).map fun k => if k = hi then lo else k).length = i := by simp; omega
    simp (config := { maxSteps := 1000000 }) (disch := first | omega | (simp only [go_sem]; omega)) only [go_sem, ↓reduceIte, c_r02_Merge_b10]
    refine bran_dec (fun c => ?_) (fun c => ?_)
    · simp (config := { maxSteps := 1000000 }) (disch := first | omega | (simp only [go_sem]; omega)) only [go_sem, ↓reduceIte]
      refine bran_dec (fun d => ?_) (fun d => ?_)
      · simp (config := { maxSteps := 1000000 }) (disch := first | omega | (simp only [go_sem]; omega)) only [go_sem, ↓reduceIte, e1]
        exact ⟨i + 1, by rw [take_gt (by omega)]; simp [d], by omega, by omega⟩
      · simp (config := { maxSteps := 1000000 }) (disch := first | omega | (simp only [go_sem]; omega)) only [go_sem, ↓reduceIte, e1]
        exact ⟨i + 1, by rw [take_gt (by omega)]; simp [d], by omega, by omega⟩
    · obtain rfl : i = p.length := by omega
      rw [List.take_length] at e1
      simp (config := { maxSteps := 1000000 }) (disch := first | omega | (simp only [go_sem]; omega)) only [go_sem, ↓reduceIte, e1]
theorem w_r02_Valid (p : List Int) (hp : Pv p) : W P (c_r02_Valid F) (Done [.t 2] [] (.bool true) []) (init [.lst 1 (ints p)]) := by
  refine W_of ?_
  obtain ⟨hl, h⟩ := hp
  have g0 : decide ((80 : Int) < p.length) = false := decide_eq_false (by omega)
  simp (config := { maxSteps := 1000000 }) (disch := first | omega | (simp only [go_sem]; omega)) only [go_sem, ↓reduceIte, g0]
  refine W_loop (fun i : Nat => ⟨[(0, .lst 1 (ints p)), (3, .int .i64 i)], [], 0⟩) (fun i => i ≤ p.length) (fun i => p.length - i) 0 ?_ ?_ ?_
  · simp (config := { maxSteps := 1000000 }) (disch := first | omega | (simp only [go_sem]; omega)) only [go_sem, ↓reduceIte]
    rfl
  · simp
  · intro i hi
    by_cases c : i < p.length
    · obtain ⟨⟨h1, h2⟩, h3⟩ := h i c
      have g1 : decide ((i : Int) < p.length) = true := decide_eq_true (by omega)
      have g2 : decide (gt p i < 0) = false := decide_eq_false (by omega)
      have g3 : decide ((i : Int) < gt p i) = false := decide_eq_false (by omega)
      have g4 : decide (gt p (gt p i) = gt p i) = true := decide_eq_true h3
      simp (config := { maxSteps := 1000000 }) (disch := first | omega | (simp only [go_sem]; omega)) only [go_sem, ↓reduceIte, c_r02_Valid_b8, g1, g2, g3, g4]
      exact ⟨i + 1, by simp, by omega, by omega⟩
    · have g1 : decide ((i : Int) < p.length) = false := decide_eq_false (by omega)
      simp (config := { maxSteps := 1000000 }) (disch := first | omega | (simp only [go_sem]; omega)) only [go_sem, ↓reduceIte, c_r02_Valid_b8, g1]
theorem w_r02_one (hv : K_r02_Valid P F) (p : List Int) (hp : Pv p) : W P (c_r02_one F) (Done [.t 2] [] (.int .i64 0) []) (init [.lst 1 (ints p)]) := by
  refine W_of ?_
  have r := hv p hp
  obtain ⟨hl, h⟩ := hp
  have g0 : decide ((80 : Int) < p.length) = false := decide_eq_false (by omega)
  simp (config := { maxSteps := 1000000 }) (disch := first | omega | (simp only [go_sem]; omega)) only [go_sem, ↓reduceIte, g0]
  refine call_by r ?_
  simp (config := { maxSteps := 1000000 }) (disch := first | omega | (simp only [go_sem]; omega)) only [go_sem, ↓reduceIte]
theorem w_r02_Quotient (ho : K_r02_one P F) (p : List Int) (hp : Pv p) : W P (c_r02_Quotient F) (Done [.t 2, .t 3, .t 4] [] (.tup [.arr 1 (ints (quo p p.length).1), .int .i64 (quo p p.length).2, .int .i64 0]) []) (init [.lst 1 (ints p)]) := by
  refine W_of ?_
  have r := ho p hp
  obtain ⟨hl, h⟩ := hp
  have ql : ∀ i : Nat, (quo p i).1.length = i ∧ (quo p i).2 ≤ i := fun i => by
    induction i with
    | zero => simp [quo]
    | succ i ih =>
      rw [quo]
      split <;> simp [ih.1] <;> omega
  simp (config := { maxSteps := 1000000 }) (disch := first | omega | (simp only [go_sem]; omega)) only [go_sem, ↓reduceIte]
  refine call_by r ?_
  simp (config := { maxSteps := 1000000 }) (disch := first | omega | (simp only [go_sem]; omega)) only [go_sem, ↓reduceIte]
  refine W_loop (fun i : Nat => ⟨[(0, .lst 1 (ints p)), (6, .sl 0 0 i), (7, .int .i64 (quo p i).2), (8, .int .i64 i)], [(0, .arr 1 (ints (quo p i).1))], 1⟩) (fun i => i ≤ p.length) (fun i => p.length - i) 0 ?_ ?_ ?_
  · simp (config := { maxSteps := 1000000 }) (disch := first | omega | (simp only [go_sem]; omega)) only [go_sem, ↓reduceIte, ints_nil, quo]
    rfl
  · simp
  · intro i hi
    obtain ⟨e1, e2⟩ := ql i
    have hs : quo p (i + 1) = if gt p i = i then ((quo p i).1 ++ [((quo p i).2 : Int)], (quo p i).2 + 1) else ((quo p i).1 ++ [gt (quo p i).1 (gt p i)], (quo p i).2) := rfl
    simp (config := { maxSteps := 1000000 }) (disch := first | omega | (simp only [go_sem]; omega)) only [go_sem, ↓reduceIte, c_r02_Quotient_b13]
    refine bran_dec (fun c => ?_) (fun c => ?_)
    · obtain ⟨⟨h1, h2⟩, h3⟩ := h i (by omega)
      simp (config := { maxSteps := 1000000 }) (disch := first | omega | (simp only [go_sem]; omega)) only [go_sem, ↓reduceIte]
      refine bran_dec (fun d => ?_) (fun d => ?_)
      · rw [if_pos d] at hs
        simp (config := { maxSteps := 1000000 }) (disch := first | omega | (simp only [go_sem]; omega)) only [go_sem, ↓reduceIte, e1]
        exact ⟨i + 1, by simp [hs], by omega, by omega⟩
      · rw [if_neg d] at hs
        simp (config := { maxSteps := 1000000 }) (disch := first | omega | (simp only [go_sem]; omega)) only [go_sem, ↓reduceIte, e1]
        exact ⟨i + 1, by simp [hs], by omega, by omega⟩
    · obtain rfl : i = p.length := by omega
      simp (config := { maxSteps := 1000000 }) (disch := first | omega | (simp only [go_sem]; omega)) only [go_sem, ↓reduceIte, e1]
end
end Go.Am
