/- Closing of parts; Dangling, Identified, Of and Check of complements. -/
import Derived.Test.YtoeomfoohdheoaaSpC
namespace Go.Am
open Go
set_option linter.unusedVariables false
set_option linter.unusedSimpArgs false
attribute [local irreducible] W
/- r07.marked -/
def c_r07_marked_r0 (F : String → Nat) : List LI := [⟨some 2, .mov (.k (.nl 1)), none⟩]
def c_r07_marked_r1 (F : String → Nat) : List LI := [⟨some 3, .mov (.k (.nl 1)), none⟩]
def c_r07_marked_r2 (F : String → Nat) : List LI := [⟨some 4, .mov (.k (.int .i64 (0))), none⟩]
def c_r07_marked_r3 (F : String → Nat) : List LI := [⟨some 5, .mov (.t 4), none⟩,
  ⟨some 6, .mov (.t 0), none⟩,
  ⟨some 7, .len (.t 6), none⟩,
  ⟨some 8, .bin .lss (.t 5) (.t 7), none⟩]
def c_r07_marked_r4 (F : String → Nat) : List LI := [⟨some 11, .mov (.t 0), none⟩,
  ⟨some 12, .mov (.t 4), none⟩,
  ⟨some 13, .iad 1 (.t 11) (.t 12), none⟩,
  ⟨some 14, .load false 1 (.t 13), none⟩]
def c_r07_marked_r5 (F : String → Nat) : List LI := [⟨some 15, .mov (.t 3), none⟩,
  ⟨some 16, .mov (.t 4), none⟩,
  ⟨some 17, .buildSl 1 8 (.int .i64 (0)) 1 [(0, .t 16)], none⟩,
  ⟨some 18, .app 1 8 (.t 15) (.t 17), none⟩,
  ⟨some 3, .mov (.t 18), none⟩]
def c_r07_marked_r6 (F : String → Nat) : List LI := [⟨some 9, .mov (.t 4), none⟩,
  ⟨some 10, .bin .add (.t 9) (.k (.int .i64 (1))), none⟩,
  ⟨some 4, .mov (.t 10), none⟩]
def c_r07_marked_b7 (F : String → Nat) : LC := (.seq (.seq (.reg (c_r07_marked_r3 F) [0, 3, 4, 8]) (.cond (.t 8) .skip (.exit 0))) (.seq (.block 1 (.seq (.reg (c_r07_marked_r4 F) [0, 3, 4, 14]) (.cond (.t 14) (.reg (c_r07_marked_r5 F) [0, 3, 4]) .skip))) (.reg (c_r07_marked_r6 F) [0, 3, 4])))
def c_r07_marked_r8 (F : String → Nat) : List LI := [⟨some 19, .mov (.t 3), none⟩,
  ⟨some 2, .mov (.t 19), none⟩]
def c_r07_marked (F : String → Nat) : LC := (.seq (.reg (c_r07_marked_r0 F) [0]) (.seq (.reg (c_r07_marked_r1 F) [0, 3]) (.seq (.seq (.reg (c_r07_marked_r2 F) [0, 3, 4]) (.block 0 (.loop [0, 3, 4] (c_r07_marked_b7 F)))) (.seq (.reg (c_r07_marked_r8 F) [2]) .ret))))
def h_r07_marked : Hints := ⟨[], fun _ => [], tab [(0, [0]), (1, [0, 3]), (2, [0, 3, 4]), (3, [0, 3, 4, 8]), (4, [0, 3, 4]), (5, [0, 3, 4, 14]), (6, [0, 3, 4]), (7, [2])], tab [(3, [0, 3, 4])]⟩

/- r07.Least -/
def c_r07_Least_r0 (F : String → Nat) : List LI := [⟨some 3, .bx (.t 0), none⟩,
  ⟨some 6, .alloc [.nl 1, .nl 1], none⟩]
def c_r07_Least_r1 (F : String → Nat) : List LI := [⟨some 9, .buildSl 1 1 (.bool false) 0 [], none⟩,
  ⟨some 10, .mov (.t 1), none⟩,
  ⟨some 11, .app 1 1 (.t 9) (.t 10), none⟩,
  ⟨some 7, .mov (.t 11), none⟩]
def c_r07_Least_r2 (F : String → Nat) : List LI := [⟨some 8, .mov (.k (.int .i64 (0))), none⟩]
def c_r07_Least_r3 (F : String → Nat) : List LI := [⟨some 12, .mov (.t 8), none⟩,
  ⟨some 13, .mov (.t 2), none⟩,
  ⟨some 14, .len (.t 13), none⟩,
  ⟨some 15, .bin .lss (.t 12) (.t 14), none⟩]
def c_r07_Least_r4 (F : String → Nat) : List LI := [⟨some 18, .mov (.t 2), none⟩,
  ⟨some 19, .mov (.t 8), none⟩,
  ⟨some 20, .iad 1 (.t 18) (.t 19), none⟩,
  ⟨some 21, .load false 1 (.t 20), none⟩]
def c_r07_Least_r5 (F : String → Nat) : List LI := [⟨some 22, .mov (.t 7), none⟩,
  ⟨some 23, .fad 1 (.t 3), none⟩,
  ⟨some 24, .load false 1 (.t 23), none⟩,
  ⟨some 25, .mov (.t 8), none⟩,
  ⟨some 26, .iad 3 (.t 24) (.t 25), none⟩,
  ⟨some 27, .fad 1 (.t 26), none⟩,
  ⟨some 28, .load false 1 (.t 27), none⟩,
  ⟨some 29, .mov (.t 7), none⟩,
  ⟨some 30, .fad 1 (.t 3), none⟩,
  ⟨some 31, .load false 1 (.t 30), none⟩,
  ⟨some 32, .mov (.t 8), none⟩,
  ⟨some 33, .iad 3 (.t 31) (.t 32), none⟩,
  ⟨some 34, .fad 2 (.t 33), none⟩,
  ⟨some 35, .load false 1 (.t 34), none⟩,
  ⟨some 36, .iad 1 (.t 22) (.t 28), none⟩,
  ⟨none, .store 1 (.t 36) (.k (.bool true)), none⟩,
  ⟨some 37, .iad 1 (.t 29) (.t 35), none⟩,
  ⟨none, .store 1 (.t 37) (.k (.bool true)), none⟩]
def c_r07_Least_r6 (F : String → Nat) : List LI := [⟨some 16, .mov (.t 8), none⟩,
  ⟨some 17, .bin .add (.t 16) (.k (.int .i64 (1))), none⟩,
  ⟨some 8, .mov (.t 17), none⟩]
def c_r07_Least_b7 (F : String → Nat) : LC := (.seq (.seq (.reg (c_r07_Least_r3 F) [2, 3, 6, 7, 8, 15]) (.cond (.t 15) .skip (.exit 0))) (.seq (.block 1 (.seq (.reg (c_r07_Least_r4 F) [2, 3, 6, 7, 8, 21]) (.cond (.t 21) (.dreg [] (c_r07_Least_r5 F) [2, 3, 6, 7, 8]) .skip))) (.reg (c_r07_Least_r6 F) [2, 3, 6, 7, 8])))
def c_r07_Least_r8 (F : String → Nat) : List LI := [⟨some 38, .mov (.t 7), none⟩,
  ⟨some 39, .call (F "r07.marked") [.t 38] [], none⟩,
  ⟨some 40, .mov (.t 2), none⟩,
  ⟨some 41, .call (F "r07.marked") [.t 40] [], none⟩,
  ⟨some 42, .build [.nl 1, .nl 1] [(0, 1, .t 39), (1, 1, .t 41)], none⟩,
  ⟨none, .store 2 (.t 6) (.t 42), none⟩]
def c_r07_Least (F : String → Nat) : LC := (.seq (.reg (c_r07_Least_r0 F) [1, 2, 3, 6]) (.seq (.reg (c_r07_Least_r1 F) [2, 3, 6, 7]) (.seq (.seq (.reg (c_r07_Least_r2 F) [2, 3, 6, 7, 8]) (.block 0 (.loop [2, 3, 6, 7, 8] (c_r07_Least_b7 F)))) (.seq (.reg (c_r07_Least_r8 F) [6]) .ret))))
def h_r07_Least : Hints := ⟨[], fun _ => [], tab [(0, [1, 2, 3, 6]), (1, [2, 3, 6, 7]), (2, [2, 3, 6, 7, 8]), (3, [2, 3, 6, 7, 8, 15]), (4, [2, 3, 6, 7, 8]), (5, [2, 3, 6, 7, 8, 21]), (6, [2, 3, 6, 7, 8]), (7, [6])], tab [(3, [2, 3, 6, 7, 8])]⟩

/- complement.Dangling -/
def c_complement_Dangling_r0 (F : String → Nat) : List LI := [⟨some 4, .bx (.t 0), none⟩,
  ⟨some 5, .bx (.t 1), none⟩,
  ⟨some 6, .bx (.t 2), none⟩,
  ⟨some 7, .bx (.t 3), none⟩,
  ⟨some 8, .mov (.k (.nl 1)), none⟩,
  ⟨some 9, .mov (.k (.int .i64 (0))), none⟩]
def c_complement_Dangling_r1 (F : String → Nat) : List LI := [⟨some 12, .load true 2 (.t 4), none⟩,
  ⟨some 13, .load true 2 (.t 5), none⟩,
  ⟨some 14, .load true 2 (.t 6), none⟩,
  ⟨some 15, .load true 2 (.t 7), none⟩,
  ⟨some 16, .build [.nl 1, .nl 3, .nl 1, .nl 3, .nl 1, .nl 1, .nl 1, .nl 1] [(0, 2, .t 12), (2, 2, .t 13), (4, 2, .t 14), (6, 2, .t 15)], none⟩,
  ⟨some 10, .alloc [.nl 1, .nl 3, .nl 1, .nl 3, .nl 1, .nl 1, .nl 1, .nl 1], none⟩,
  ⟨none, .store 8 (.t 10) (.t 16), none⟩]
def c_complement_Dangling_r2 (F : String → Nat) : List LI := [⟨some 17, .load true 8 (.t 10), none⟩,
  ⟨some 18, .call (F "complement.gluing.given") [.t 17] [], none⟩,
  ⟨some 11, .mov (.t 18), none⟩]
def c_complement_Dangling_r3 (F : String → Nat) : List LI := [⟨some 19, .mov (.t 11), none⟩,
  ⟨some 20, .bin .neq (.t 19) (.k (.int .i64 (0))), none⟩]
def c_complement_Dangling_r4 (F : String → Nat) : List LI := [⟨some 21, .mov (.t 11), none⟩,
  ⟨some 8, .mov (.k (.nl 1)), none⟩,
  ⟨some 9, .mov (.t 21), none⟩]
def c_complement_Dangling_r5 (F : String → Nat) : List LI := [⟨some 22, .load true 8 (.t 10), none⟩,
  ⟨some 23, .call (F "complement.gluing.dangling") [.t 22] [], none⟩,
  ⟨some 8, .mov (.t 23), none⟩,
  ⟨some 9, .mov (.k (.int .i64 (0))), none⟩]
def c_complement_Dangling (F : String → Nat) : LC := (.seq (.reg (c_complement_Dangling_r0 F) [4, 5, 6, 7]) (.seq (.reg (c_complement_Dangling_r1 F) [10]) (.seq (.seq (.reg (c_complement_Dangling_r2 F) [10, 11]) (.seq (.reg (c_complement_Dangling_r3 F) [10, 11, 20]) (.cond (.t 20) (.seq (.reg (c_complement_Dangling_r4 F) [8, 9]) .ret) .skip))) (.seq (.reg (c_complement_Dangling_r5 F) [8, 9]) .ret))))
def h_complement_Dangling : Hints := ⟨[], fun _ => [], tab [(0, [4, 5, 6, 7]), (1, [10]), (2, [10, 11]), (3, [10, 11, 20]), (4, [8, 9]), (5, [8, 9])], tab []⟩

/- complement.Of -/
def c_complement_Of_r0 (F : String → Nat) : List LI := [⟨some 4, .bx (.t 0), none⟩,
  ⟨some 5, .bx (.t 1), none⟩,
  ⟨some 6, .bx (.t 2), none⟩,
  ⟨some 7, .bx (.t 3), none⟩,
  ⟨some 8, .alloc [.nl 1, .nl 1], none⟩,
  ⟨some 9, .mov (.k (.int .i64 (0))), none⟩]
def c_complement_Of_r1 (F : String → Nat) : List LI := [⟨some 14, .load true 2 (.t 4), none⟩,
  ⟨some 15, .load true 2 (.t 5), none⟩,
  ⟨some 16, .load true 2 (.t 6), none⟩,
  ⟨some 17, .load true 2 (.t 7), none⟩,
  ⟨some 18, .build [.nl 1, .nl 3, .nl 1, .nl 3, .nl 1, .nl 1, .nl 1, .nl 1] [(0, 2, .t 14), (2, 2, .t 15), (4, 2, .t 16), (6, 2, .t 17)], none⟩,
  ⟨some 10, .alloc [.nl 1, .nl 3, .nl 1, .nl 3, .nl 1, .nl 1, .nl 1, .nl 1], none⟩,
  ⟨none, .store 8 (.t 10) (.t 18), none⟩]
def c_complement_Of_r2 (F : String → Nat) : List LI := [⟨some 19, .load true 8 (.t 10), none⟩,
  ⟨some 20, .call (F "complement.gluing.given") [.t 19] [], none⟩,
  ⟨some 11, .mov (.t 20), none⟩]
def c_complement_Of_r3 (F : String → Nat) : List LI := [⟨some 21, .mov (.t 11), none⟩,
  ⟨some 22, .bin .neq (.t 21) (.k (.int .i64 (0))), none⟩]
def c_complement_Of_r4 (F : String → Nat) : List LI := [⟨some 23, .build [.nl 1, .nl 1] [], none⟩,
  ⟨some 24, .mov (.t 11), none⟩,
  ⟨none, .store 2 (.t 8) (.t 23), none⟩,
  ⟨some 9, .mov (.t 24), none⟩]
def c_complement_Of_r5 (F : String → Nat) : List LI := [⟨some 26, .load true 8 (.t 10), none⟩,
  ⟨some 27, .call (F "complement.gluing.identified") [.t 26] [], none⟩,
  ⟨some 25, .mov (.t 27), none⟩,
  ⟨some 28, .ext (.t 25) 0, none⟩,
  ⟨some 29, .ext (.t 25) 1, none⟩,
  ⟨some 12, .mov (.t 28), none⟩,
  ⟨some 13, .mov (.t 29), none⟩]
def c_complement_Of_r6 (F : String → Nat) : List LI := [⟨some 31, .mov (.t 12), none⟩,
  ⟨some 32, .len (.t 31), none⟩,
  ⟨some 33, .mov (.t 13), none⟩,
  ⟨some 34, .len (.t 33), none⟩,
  ⟨some 35, .bin .add (.t 32) (.t 34), none⟩,
  ⟨some 36, .bin .gtr (.t 35) (.k (.int .i64 (0))), none⟩,
  ⟨some 30, .mov (.t 36), none⟩]
def c_complement_Of_r7 (F : String → Nat) : List LI := [⟨some 37, .build [.nl 1, .nl 1] [], none⟩,
  ⟨none, .store 2 (.t 8) (.t 37), none⟩,
  ⟨some 9, .mov (.k (.int .i64 (15))), none⟩]
def c_complement_Of_r8 (F : String → Nat) : List LI := [⟨some 39, .load true 8 (.t 10), none⟩,
  ⟨some 40, .call (F "complement.gluing.dangling") [.t 39] [], none⟩,
  ⟨some 41, .len (.t 40), none⟩,
  ⟨some 42, .bin .gtr (.t 41) (.k (.int .i64 (0))), none⟩,
  ⟨some 38, .mov (.t 42), none⟩]
def c_complement_Of_r9 (F : String → Nat) : List LI := [⟨some 43, .build [.nl 1, .nl 1] [], none⟩,
  ⟨none, .store 2 (.t 8) (.t 43), none⟩,
  ⟨some 9, .mov (.k (.int .i64 (14))), none⟩]
def c_complement_Of_r10 (F : String → Nat) : List LI := [⟨some 44, .fad 0 (.t 5), none⟩,
  ⟨some 45, .load false 1 (.t 44), none⟩,
  ⟨some 46, .len (.t 45), none⟩,
  ⟨some 47, .fad 0 (.t 7), none⟩,
  ⟨some 48, .load false 1 (.t 47), none⟩,
  ⟨some 49, .fad 0 (.t 6), none⟩,
  ⟨some 50, .load false 1 (.t 49), none⟩,
  ⟨some 51, .call (F "complement.rest") [.t 46, .t 48, .t 50] [], none⟩,
  ⟨some 52, .fad 1 (.t 5), none⟩,
  ⟨some 53, .load false 1 (.t 52), none⟩,
  ⟨some 54, .len (.t 53), none⟩,
  ⟨some 55, .fad 1 (.t 7), none⟩,
  ⟨some 56, .load false 1 (.t 55), none⟩,
  ⟨some 57, .fad 1 (.t 6), none⟩,
  ⟨some 58, .load false 1 (.t 57), none⟩,
  ⟨some 59, .call (F "complement.rest") [.t 54, .t 56, .t 58] [], none⟩,
  ⟨some 60, .build [.nl 1, .nl 1] [(0, 1, .t 51), (1, 1, .t 59)], none⟩,
  ⟨none, .store 2 (.t 8) (.t 60), none⟩,
  ⟨some 9, .mov (.k (.int .i64 (0))), none⟩]
def c_complement_Of (F : String → Nat) : LC := (.seq (.reg (c_complement_Of_r0 F) [4, 5, 6, 7, 8]) (.seq (.reg (c_complement_Of_r1 F) [5, 6, 7, 8, 10]) (.seq (.seq (.reg (c_complement_Of_r2 F) [5, 6, 7, 8, 10, 11]) (.seq (.reg (c_complement_Of_r3 F) [5, 6, 7, 8, 10, 11, 22]) (.cond (.t 22) (.seq (.reg (c_complement_Of_r4 F) [8, 9]) .ret) .skip))) (.seq (.reg (c_complement_Of_r5 F) [5, 6, 7, 8, 10, 12, 13]) (.seq (.block 0 (.seq (.reg (c_complement_Of_r6 F) [5, 6, 7, 8, 10, 30]) (.cond (.t 30) (.seq (.reg (c_complement_Of_r7 F) [8, 9]) .ret) (.seq (.reg (c_complement_Of_r8 F) [5, 6, 7, 8, 38]) (.cond (.t 38) (.seq (.reg (c_complement_Of_r9 F) [8, 9]) .ret) .skip))))) (.seq (.dreg [(7, none, [], true), (9, (some 256), [7], false), (12, (some 2048), [7], false), (14, (some 8192), [7], false)] (c_complement_Of_r10 F) [8, 9]) .ret))))))
def h_complement_Of : Hints := ⟨[], fun _ => [], tab [(0, [4, 5, 6, 7, 8]), (1, [5, 6, 7, 8, 10]), (2, [5, 6, 7, 8, 10, 11]), (3, [5, 6, 7, 8, 10, 11, 22]), (4, [8, 9]), (5, [5, 6, 7, 8, 10, 12, 13]), (6, [5, 6, 7, 8, 10, 30]), (7, [8, 9]), (8, [5, 6, 7, 8, 38]), (9, [8, 9]), (10, [8, 9])], tab []⟩

attribute [go_sem] c_r07_marked_r0 c_r07_marked_r1 c_r07_marked_r2 c_r07_marked_r3 c_r07_marked_r4 c_r07_marked_r5 c_r07_marked_r6 c_r07_marked_r8 c_r07_marked c_r07_Least_r0 c_r07_Least_r1 c_r07_Least_r2 c_r07_Least_r3 c_r07_Least_r4 c_r07_Least_r5 c_r07_Least_r6 c_r07_Least_r8 c_r07_Least c_complement_Dangling_r0 c_complement_Dangling_r1 c_complement_Dangling_r2 c_complement_Dangling_r3 c_complement_Dangling_r4 c_complement_Dangling_r5 c_complement_Dangling c_complement_Of_r0 c_complement_Of_r1 c_complement_Of_r2 c_complement_Of_r3 c_complement_Of_r4 c_complement_Of_r5 c_complement_Of_r6 c_complement_Of_r7 c_complement_Of_r8 c_complement_Of_r9 c_complement_Of_r10 c_complement_Of
def markL (b : List Bool) : List Int := sel (fun k : Nat => gt b k) b.length
def leastP (g : G) (bn be : List Bool) : Mo := ⟨sel (fun k : Nat => gt bn k || decide ((k : Int) ∈ endsL g (markL be))) bn.length, markL be⟩
def cxR (x : Cx) : Mo × Int := if cxE x ≠ 0 then (m0, cxE x) else if 0 < (idL x.m.n x.k.n).length + (idL x.m.e x.k.e).length then (m0, 15) else if 0 < (cxDan x).length then (m0, 14) else (⟨restL x.g.n.length (goneL x.m.n x.k.n), restL x.g.e.length (goneL x.m.e x.k.e)⟩, 0)
def cxDr (x : Cx) : List Int := if cxE x = 0 then cxDan x else []
section
variable (P : Program) (F : String → Nat)
def K_r07_marked : Prop := ∀ b : List Bool, b.length ≤ 1000 → FC P (F "r07.marked") [.lst 1 (bls b)] (.arr 1 (ints (markL b))) []
def K_r07_Least : Prop := ∀ (g : G) (bn be : List Bool), validG g = 0 → bn.length = g.n.length → be.length = g.e.length → FC P (F "r07.Least") [gD g, .lst 1 (bls bn), .lst 1 (bls be)] (mA (leastP g bn be)) []
def K_complement_Dangling : Prop := ∀ x : Cx, x.sm → FC P (F "complement.Dangling") [gD x.l, gD x.g, mD x.k, mD x.m] (.tup [.arr 1 (ints (cxDr x)), .int .i64 (cxE x)]) []
def K_complement_Of : Prop := ∀ x : Cx, x.sm → FC P (F "complement.Of") [gD x.l, gD x.g, mD x.k, mD x.m] (.tup [mA (cxR x).1, .int .i64 (cxR x).2]) []
end
section
variable {P : Program} {F : String → Nat} {α : Type}
theorem w_r07_marked (b : List Bool) (hb : b.length ≤ 1000) : W P (c_r07_marked F) (Done [.t 2] [] (.arr 1 (ints (markL b))) []) (init [.lst 1 (bls b)]) := by
  refine W_of ?_
  have hM : markL b = sel (fun k : Nat => gt b k) b.length := rfl
  have sl := sel_len (fun k : Nat => gt b k)
  have ss := sel_succ (fun k : Nat => gt b k)
  have s0 := sel_zero (fun k : Nat => gt b k)
  rw [hM]
  clear hM
  generalize hS : sel (fun k : Nat => gt b k) = S at *
  simp (config := { maxSteps := 1000000 }) (disch := first | omega | (simp only [go_sem]; omega)) only [go_sem, ↓reduceIte]
  refine W_loop (fun i : Nat => ⟨[(0, .lst 1 (bls b)), (3, .sl 0 0 (S i).length), (4, .int .i64 i)], [(0, .arr 1 (ints (S i)))], 1⟩) (fun i => i ≤ b.length) (fun i => b.length - i) 0 ?_ ?_ ?_
  · simp (config := { maxSteps := 1000000 }) (disch := first | omega | (simp only [go_sem]; omega)) only [go_sem, ↓reduceIte, s0, ints_nil]
    rfl
  · simp
  · intro i hi
    have sli := sl i
    by_cases c : i < b.length
    · have g1 : decide ((i : Int) < b.length) = true := decide_eq_true (by omega)
      have hs := ss i
      generalize hb' : gt b i = t at *
      cases t
      · simp (config := { maxSteps := 1000000 }) (disch := first | omega | (simp only [go_sem]; omega)) only [go_sem, ↓reduceIte, c_r07_marked_b7, g1, hb']
        exact ⟨i + 1, by simp [hs], by omega, by omega⟩
      · simp (config := { maxSteps := 1000000 }) (disch := first | omega | (simp only [go_sem]; omega)) only [go_sem, ↓reduceIte, c_r07_marked_b7, g1, hb']
        exact ⟨i + 1, by simp [hs], by omega, by omega⟩
    · have g1 : decide ((i : Int) < b.length) = false := decide_eq_false (by omega)
      obtain rfl : i = b.length := by omega
      simp (config := { maxSteps := 1000000 }) (disch := first | omega | (simp only [go_sem]; omega)) only [go_sem, ↓reduceIte, c_r07_marked_b7, g1]
theorem markL_x {b : List Bool} {x : Int} : x ∈ markL b ↔ ∃ k : Nat, k < b.length ∧ gt b k = true ∧ x = k := sel_mem
theorem markL_mem {b : List Bool} {k : Nat} : (k : Int) ∈ markL b ↔ k < b.length ∧ gt b k = true := sel_memN
set_option maxHeartbeats 1000000 in
theorem w_r07_Least (hm : K_r07_marked P F) (g : G) (bn be : List Bool) (hv : validG g = 0) (h1 : bn.length = g.n.length) (h2 : be.length = g.e.length) : W P (c_r07_Least F) (Done [.c 6 true 2] [] (mA (leastP g bn be)) []) (init [gD g, .lst 1 (bls bn), .lst 1 (bls be)]) := by
  refine W_of ?_
  have vs := valid_spec hv
  have hef : ∀ i : Nat, i < g.e.length → (0 ≤ (gt g.e i).f ∧ (gt g.e i).f < g.n.length) ∧ (0 ≤ (gt g.e i).o ∧ (gt g.e i).o < g.n.length) := fun i hi => (edge_fits hv (i := i) (by omega)).2
  have hL : leastP g bn be = ⟨sel (fun k : Nat => gt bn k || decide ((k : Int) ∈ endsL g (markL be))) bn.length, markL be⟩ := rfl
  have r2 := hm be (by omega)
  have hm1 := fun z : List Bool => hm z
  have ends : ∀ (i : Nat) (x : Int), x ∈ endsL g ((markL be).filter fun e => decide (e < ((i + 1 : Nat) : Int))) ↔ x ∈ endsL g ((markL be).filter fun e => decide (e < (i : Int))) ∨ (i < be.length ∧ gt be i = true ∧ ((gt g.e i).f = x ∨ (gt g.e i).o = x)) := fun i x => by
    rw [ends_mem, ends_mem]
    constructor
    · rintro ⟨e, he, hx⟩
      rw [List.mem_filter] at he
      obtain ⟨he, hlt⟩ := he
      obtain ⟨k, hk, hk2, rfl⟩ := sel_mem.1 he
      by_cases c : k = i
      · subst c; exact .inr ⟨hk, hk2, hx⟩
      · refine .inl ⟨k, List.mem_filter.2 ⟨he, ?_⟩, hx⟩
        simp at hlt ⊢
        omega
    · rintro (⟨e, he, hx⟩ | ⟨h3, h4, hx⟩)
      · rw [List.mem_filter] at he
        refine ⟨e, List.mem_filter.2 ⟨he.1, ?_⟩, hx⟩
        have := he.2
        simp at this ⊢
        omega
      · exact ⟨i, List.mem_filter.2 ⟨markL_mem.2 ⟨h3, h4⟩, by simp; omega⟩, hx⟩
  have endsZ : ∀ x : Int, ¬ x ∈ endsL g ((markL be).filter fun e => decide (e < ((0 : Nat) : Int))) := fun x h => by
    obtain ⟨e, he, _⟩ := ends_mem.1 h
    rw [List.mem_filter] at he
    obtain ⟨k, _, _, rfl⟩ := sel_mem.1 he.1
    have := he.2
    simp at this
    omega
  have endsF : (markL be).filter (fun e => decide (e < (be.length : Int))) = markL be := List.filter_eq_self.2 fun e he => by
    obtain ⟨k, hk, _, rfl⟩ := sel_mem.1 he
    simpa using hk
  rw [hL]
  clear hL
  obtain ⟨gn, ge⟩ := g
  simp only [gD] at *
  simp (config := { maxSteps := 1000000 }) (disch := first | omega | (simp only [go_sem]; omega)) only [go_sem, ↓reduceIte]
  refine W_loop (fun s : Nat × List Bool => ⟨[(2, .lst 1 (bls be)), (3, .pt 0 0), (6, .pt 3 0), (7, .sl 4 0 gn.length), (8, .int .i64 s.1)], [(0, .box [.lst 1 (ints gn), .lst 3 (eds ge)]), (1, .arr 1 []), (2, .arr 1 []), (3, .box [.sl 1 0 0, .sl 2 0 0]), (4, .arr 1 (bls s.2))], 5⟩)
    (fun s => s.1 ≤ be.length ∧ s.2.length = gn.length ∧ ∀ k : Nat, k < gn.length → gt s.2 k = (gt bn k || decide ((k : Int) ∈ endsL ⟨gn, ge⟩ ((markL be).filter fun e => decide (e < (s.1 : Int)))))) (fun s => be.length - s.1) (0, bn) ?_ ?_ ?_
  · simp (config := { maxSteps := 1000000 }) (disch := first | omega | (simp only [go_sem]; omega)) only [go_sem, ↓reduceIte, h1]
    rfl
  · exact ⟨by simp, h1, fun k hk => by rw [decide_eq_false (endsZ k)]; simp⟩
  · rintro ⟨i, z⟩ ⟨i1, i2, i3⟩
    simp only at i1 i2 i3
    by_cases c : i < be.length
    · have g1 : decide ((i : Int) < be.length) = true := decide_eq_true (by omega)
      obtain ⟨⟨f1, f2⟩, o1, o2⟩ := hef i (by omega)
      generalize hb' : gt be i = t at *
      cases t
      · simp (config := { maxSteps := 1000000 }) (disch := first | omega | (simp only [go_sem]; omega)) only [go_sem, ↓reduceIte, c_r07_Least_b7, g1, hb']
        refine ⟨(i + 1, z), by simp, ⟨by simp only; omega, i2, fun k hk => ?_⟩, by simp only; omega⟩
        rw [i3 k hk]
        have := ends i k
        rw [hb'] at this
        have this' : (k : Int) ∈ endsL ⟨gn, ge⟩ ((markL be).filter fun e => decide (e < ((i + 1 : Nat) : Int))) ↔ (k : Int) ∈ endsL ⟨gn, ge⟩ ((markL be).filter fun e => decide (e < (i : Int))) := by rw [this]; simp
        simp only
        rw [decide_eq_decide.2 this']
      · simp (config := { maxSteps := 1000000 }) (disch := first | omega | (simp only [go_sem]; omega)) only [go_sem, ↓reduceIte, c_r07_Least_b7, g1, hb', i2]
        refine ⟨(i + 1, (z.set (gt ge i).f.toNat true).set (gt ge i).o.toNat true), by simp, ⟨by simp only; omega, by simp [i2], fun k hk => ?_⟩, by simp only; omega⟩
        have := ends i k
        rw [hb'] at this
        have this' : (k : Int) ∈ endsL ⟨gn, ge⟩ ((markL be).filter fun e => decide (e < ((i + 1 : Nat) : Int))) ↔ (k : Int) ∈ endsL ⟨gn, ge⟩ ((markL be).filter fun e => decide (e < (i : Int))) ∨ ((gt ge i).f = (k : Int) ∨ (gt ge i).o = (k : Int)) := by rw [this]; simp [c]
        have hdec : decide ((k : Int) ∈ endsL ⟨gn, ge⟩ ((markL be).filter fun e => decide (e < ((i + 1 : Nat) : Int)))) = (decide ((k : Int) ∈ endsL ⟨gn, ge⟩ ((markL be).filter fun e => decide (e < (i : Int)))) || (decide ((gt ge i).f = (k : Int)) || decide ((gt ge i).o = (k : Int)))) := by
          rw [Bool.eq_iff_iff]
          simp only [decide_eq_true_eq, Bool.or_eq_true]
          exact this'
        simp only
        rw [gt_setB (by simp; omega), gt_setB (by omega), i3 k hk, hdec]
        by_cases e1 : (gt ge i).o.toNat = k
        · have : (gt ge i).o = (k : Int) := by omega
          simp [e1, this, c]
        · by_cases e2 : (gt ge i).f.toNat = k
          · have : (gt ge i).f = (k : Int) := by omega
            simp [e1, e2, this, c]
          · have q1 : ¬ (gt ge i).o = (k : Int) := by omega
            have q2 : ¬ (gt ge i).f = (k : Int) := by omega
            simp [e1, e2, q1, q2]
    · have g1 : decide ((i : Int) < be.length) = false := decide_eq_false (by omega)
      obtain rfl : i = be.length := by omega
      rw [endsF] at i3
      have hz : markL z = sel (fun k : Nat => gt bn k || decide ((k : Int) ∈ endsL ⟨gn, ge⟩ (markL be))) bn.length := by
        refine asc_ext (sel_pair _ _) (sel_pair _ _) fun x => ?_
        rw [markL_x, sel_mem]
        constructor
        · rintro ⟨k, k1, k2, rfl⟩; exact ⟨k, by omega, by rw [← i3 k (by omega)]; exact k2, rfl⟩
        · rintro ⟨k, k1, k2, rfl⟩; exact ⟨k, by omega, by rw [i3 k (by omega)]; exact k2, rfl⟩
      have r1 := hm1 z (by omega)
      rw [hz] at r1
      generalize sel (fun k : Nat => gt bn k || decide ((k : Int) ∈ endsL ⟨gn, ge⟩ (markL be))) bn.length = w1 at *
      simp (config := { maxSteps := 1000000 }) (disch := first | omega | (simp only [go_sem]; omega)) only [go_sem, ↓reduceIte, c_r07_Least_b7, g1, i2]
      refine call_by r1 ?_
      simp (config := { maxSteps := 1000000 }) (disch := first | omega | (simp only [go_sem]; omega)) only [go_sem, ↓reduceIte]
      refine call_by r2 ?_
      simp (config := { maxSteps := 1000000 }) (disch := first | omega | (simp only [go_sem]; omega)) only [go_sem, ↓reduceIte]
      try rfl
theorem close_least {g : G} {ns es : List Int} {bn be : List Bool} (h1 : bn.length = g.n.length) (h2 : be.length = g.e.length) (h3 : ∀ k : Nat, k < g.n.length → gt bn k = decide ((k : Int) ∈ ns)) (h4 : ∀ k : Nat, k < g.e.length → gt be k = decide ((k : Int) ∈ es)) (h5 : ∀ x ∈ es, 0 ≤ x ∧ x < g.e.length) : leastP g bn be = closeP g ns es := by
  have hM : markL be = sel (fun k : Nat => decide ((k : Int) ∈ es)) g.e.length := asc_ext (sel_pair _ _) (sel_pair _ _) fun x => by
    rw [markL_x, sel_mem]
    constructor
    · rintro ⟨k, k1, k2, rfl⟩; exact ⟨k, by omega, by rw [← h4 k (by omega)]; exact k2, rfl⟩
    · rintro ⟨k, k1, k2, rfl⟩; exact ⟨k, by omega, by rw [h4 k (by omega)]; exact k2, rfl⟩
  have hE : ∀ x, x ∈ endsL g (markL be) ↔ x ∈ endsL g es := fun x => by
    rw [ends_mem, ends_mem, hM]
    constructor
    · rintro ⟨e, he, hx⟩
      obtain ⟨k, _, k2, rfl⟩ := sel_mem.1 he
      exact ⟨k, by simpa using k2, hx⟩
    · rintro ⟨e, he, hx⟩
      obtain ⟨k, hk, rfl⟩ := gtI (h5 e he)
      exact ⟨k, sel_memN.2 ⟨hk, by simpa using he⟩, hx⟩
  refine mo_extP (asc_ext (sel_pair _ _) (sel_pair _ _) fun x => ?_) hM
  rw [show (leastP g bn be).n = sel (fun k : Nat => gt bn k || decide ((k : Int) ∈ endsL g (markL be))) bn.length from rfl, show (closeP g ns es).n = sel (fun k : Nat => decide ((k : Int) ∈ ns) || decide ((k : Int) ∈ endsL g es)) g.n.length from rfl, sel_mem, sel_mem]
  constructor
  · rintro ⟨k, k1, k2, rfl⟩
    refine ⟨k, by omega, ?_, rfl⟩
    rw [h3 k (by omega), decide_eq_decide.2 (hE k)] at k2
    exact k2
  · rintro ⟨k, k1, k2, rfl⟩
    refine ⟨k, by omega, ?_, rfl⟩
    rw [h3 k (by omega), decide_eq_decide.2 (hE k)]
    exact k2
theorem w_complement_Dangling (hg : K_complement_gluing_given P F) (hd : K_complement_gluing_dangling P F) (x : Cx) (hs : x.sm) : W P (c_complement_Dangling F) (Done [.t 8, .t 9] [] (.tup [.arr 1 (ints (cxDr x)), .int .i64 (cxE x)]) []) (init [gD x.l, gD x.g, mD x.k, mD x.m]) := by
  refine W_of ?_
  have r1 := hg x hs
  have hD : cxDr x = if cxE x = 0 then cxDan x else [] := rfl
  rw [hD]
  by_cases c : cxE x = 0
  · have r2 := hd x c
    rw [if_pos c]
    rw [c] at r1 ⊢
    generalize cxDan x = d at *
    simp only [gD, mD, cxD] at *
    simp (config := { maxSteps := 1000000 }) (disch := first | omega | (simp only [go_sem]; omega)) only [go_sem, ↓reduceIte]
    refine call_by r1 ?_
    simp (config := { maxSteps := 1000000 }) (disch := first | omega | (simp only [go_sem]; omega)) only [go_sem, ↓reduceIte]
    refine call_by r2 ?_
    simp (config := { maxSteps := 1000000 }) (disch := first | omega | (simp only [go_sem]; omega)) only [go_sem, ↓reduceIte]
  · rw [if_neg c]
    generalize cxE x = v at *
    simp only [gD, mD, cxD] at *
    simp (config := { maxSteps := 1000000 }) (disch := first | omega | (simp only [go_sem]; omega)) only [go_sem, ↓reduceIte]
    refine call_by r1 ?_
    simp (config := { maxSteps := 1000000 }) (disch := first | omega | (simp only [go_sem]; omega)) only [go_sem, ↓reduceIte, c]
    try simp [ints]
theorem idL_len {im kn : List Int} (h : im.length ≤ 1000) : (idL im kn).length ≤ 1000000 := idA_bd h (Nat.le_refl _)
theorem danL_len (x : Cx) : (cxDan x).length ≤ x.g.e.length := sel_len _ _
set_option maxHeartbeats 1000000 in
theorem w_complement_Of (hg : K_complement_gluing_given P F) (hi : K_complement_gluing_identified P F) (hd : K_complement_gluing_dangling P F) (hr : K_complement_rest P F) (x : Cx) (hs : x.sm) : W P (c_complement_Of F) (Done [.c 8 true 2, .t 9] [] (.tup [mA (cxR x).1, .int .i64 (cxR x).2]) []) (init [gD x.l, gD x.g, mD x.k, mD x.m]) := by
  refine W_of ?_
  have r1 := hg x hs
  have hR : cxR x = if cxE x ≠ 0 then (m0, cxE x) else if 0 < (idL x.m.n x.k.n).length + (idL x.m.e x.k.e).length then (m0, 15) else if 0 < (cxDan x).length then (m0, 14) else (⟨restL x.g.n.length (goneL x.m.n x.k.n), restL x.g.e.length (goneL x.m.e x.k.e)⟩, 0) := rfl
  by_cases c : cxE x = 0
  case neg =>
    rw [if_pos c] at hR
    rw [hR]
    generalize cxE x = v at *
    simp only [gD, mD, cxD] at *
    simp (config := { maxSteps := 1000000 }) (disch := first | omega | (simp only [go_sem]; omega)) only [go_sem, ↓reduceIte]
    refine call_by r1 ?_
    simp (config := { maxSteps := 1000000 }) (disch := first | omega | (simp only [go_sem]; omega)) only [go_sem, ↓reduceIte, c]
    simp [m0, mA, ints]
  rw [if_neg (by simp [c])] at hR
  obtain ⟨hm, hk⟩ := cx_len c
  have vl := valid_spec hm.va
  have vg := valid_spec hm.vb
  have l1 := hm.ln
  have l2 := hm.le
  have bd := validM_bd (mok.2 hm)
  have r2 := hi x c
  have r3 := hd x c
  have r4 := hr x.g.n.length x.m.n x.k.n (by omega) (by omega) hs.1 bd.1
  have r5 := hr x.g.e.length x.m.e x.k.e (by omega) (by omega) hs.2 bd.2
  have q1 := idL_len (im := x.m.n) (kn := x.k.n) (by omega)
  have q2 := idL_len (im := x.m.e) (kn := x.k.e) (by omega)
  have q3 := danL_len x
  rw [c] at r1
  clear hm hk bd vl l1 l2 c
  generalize idL x.m.n x.k.n = i1 at *
  generalize idL x.m.e x.k.e = i2 at *
  generalize cxDan x = d at *
  generalize restL x.g.n.length (goneL x.m.n x.k.n) = s1 at *
  generalize restL x.g.e.length (goneL x.m.e x.k.e) = s2 at *
  simp only [gD, mD, cxD] at *
  by_cases c1 : 0 < i1.length + i2.length
  · rw [if_pos c1] at hR
    rw [hR]
    have g1 : decide ((0 : Int) < (i1.length : Int) + i2.length) = true := decide_eq_true (by omega)
    simp (config := { maxSteps := 1000000 }) (disch := first | omega | (simp only [go_sem]; omega)) only [go_sem, ↓reduceIte]
    refine call_by r1 ?_
    simp (config := { maxSteps := 1000000 }) (disch := first | omega | (simp only [go_sem]; omega)) only [go_sem, ↓reduceIte]
    refine call_by r2 ?_
    simp (config := { maxSteps := 1000000 }) (disch := first | omega | (simp only [go_sem]; omega)) only [go_sem, ↓reduceIte, g1]
    simp [m0, mA, ints]
  rw [if_neg c1] at hR
  have g1 : decide ((0 : Int) < (i1.length : Int) + i2.length) = false := decide_eq_false (by omega)
  by_cases c2 : 0 < d.length
  · rw [if_pos c2] at hR
    rw [hR]
    have g2 : decide ((0 : Int) < (d.length : Int)) = true := decide_eq_true (by omega)
    simp (config := { maxSteps := 1000000 }) (disch := first | omega | (simp only [go_sem]; omega)) only [go_sem, ↓reduceIte]
    refine call_by r1 ?_
    simp (config := { maxSteps := 1000000 }) (disch := first | omega | (simp only [go_sem]; omega)) only [go_sem, ↓reduceIte]
    refine call_by r2 ?_
    simp (config := { maxSteps := 1000000 }) (disch := first | omega | (simp only [go_sem]; omega)) only [go_sem, ↓reduceIte, g1]
    refine call_by r3 ?_
    simp (config := { maxSteps := 1000000 }) (disch := first | omega | (simp only [go_sem]; omega)) only [go_sem, ↓reduceIte, g2]
    simp [m0, mA, ints]
  rw [if_neg c2] at hR
  rw [hR]
  have g2 : decide ((0 : Int) < (d.length : Int)) = false := decide_eq_false (by omega)
  simp (config := { maxSteps := 1000000 }) (disch := first | omega | (simp only [go_sem]; omega)) only [go_sem, ↓reduceIte]
  refine call_by r1 ?_
  simp (config := { maxSteps := 1000000 }) (disch := first | omega | (simp only [go_sem]; omega)) only [go_sem, ↓reduceIte]
  refine call_by r2 ?_
  simp (config := { maxSteps := 1000000 }) (disch := first | omega | (simp only [go_sem]; omega)) only [go_sem, ↓reduceIte, g1]
  refine call_by r3 ?_
  simp (config := { maxSteps := 1000000 }) (disch := first | omega | (simp only [go_sem]; omega)) only [go_sem, ↓reduceIte, g2]
  refine call_by r4 ?_
  simp (config := { maxSteps := 1000000 }) (disch := first | omega | (simp only [go_sem]; omega)) only [go_sem, ↓reduceIte]
  refine call_by r5 ?_
  simp (config := { maxSteps := 1000000 }) (disch := first | omega | (simp only [go_sem]; omega)) only [go_sem, ↓reduceIte]
  try rfl
end
end Go.Am
