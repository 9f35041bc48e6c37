/- The law: kinds of composed morphisms. -/
import Derived.Test.YtgmojdpklekldaaSnJ
import Derived.Test.YtgmojdpklekldaaSmH
import Derived.Test.YtgmojdpklekldaaSmJ
namespace Go.Am
open Go
set_option linter.unusedVariables false
set_option linter.unusedSimpArgs false
attribute [local irreducible] W
/- l06.chain -/
def c_l06_chain_r0 (F : String → Nat) : List LI := [⟨some 3, .bx (.t 0), none⟩,
  ⟨some 6, .alloc [.nl 1, .nl 3], none⟩,
  ⟨some 7, .alloc [.nl 1, .nl 3, .nl 1, .nl 1], none⟩,
  ⟨some 8, .alloc [.nl 1, .nl 3, .nl 1, .nl 1], none⟩]
def c_l06_chain_r1 (F : String → Nat) : List LI := [⟨some 14, .load true 2 (.t 3), none⟩,
  ⟨some 15, .call (F "r05.Made") [.t 14] [], none⟩,
  ⟨some 9, .alloc [.nl 1, .nl 3], none⟩,
  ⟨none, .store 2 (.t 9) (.t 15), none⟩]
def c_l06_chain_r2 (F : String → Nat) : List LI := [⟨some 17, .load true 2 (.t 9), none⟩,
  ⟨some 18, .mov (.t 1), none⟩,
  ⟨some 19, .call (F "r06.Image") [.t 17, .t 18] [], none⟩,
  ⟨some 16, .mov (.t 19), none⟩,
  ⟨some 20, .ext (.t 16) 0, none⟩,
  ⟨some 21, .ext (.t 16) 1, none⟩,
  ⟨some 10, .alloc [.nl 1, .nl 3], none⟩,
  ⟨some 11, .alloc [.nl 1, .nl 1], none⟩,
  ⟨none, .store 2 (.t 10) (.t 20), none⟩,
  ⟨none, .store 2 (.t 11) (.t 21), none⟩]
def c_l06_chain_r3 (F : String → Nat) : List LI := [⟨some 23, .load true 2 (.t 10), none⟩,
  ⟨some 24, .mov (.t 2), none⟩,
  ⟨some 25, .call (F "r06.Image") [.t 23, .t 24] [], none⟩,
  ⟨some 22, .mov (.t 25), none⟩,
  ⟨some 26, .ext (.t 22) 0, none⟩,
  ⟨some 27, .ext (.t 22) 1, none⟩,
  ⟨some 12, .alloc [.nl 1, .nl 3], none⟩,
  ⟨some 13, .alloc [.nl 1, .nl 1], none⟩,
  ⟨none, .store 2 (.t 12) (.t 26), none⟩,
  ⟨none, .store 2 (.t 13) (.t 27), none⟩]
def c_l06_chain_r4 (F : String → Nat) : List LI := [⟨some 28, .load true 2 (.t 9), none⟩,
  ⟨some 29, .load true 2 (.t 10), none⟩,
  ⟨some 30, .load true 2 (.t 11), none⟩,
  ⟨some 31, .build [.nl 1, .nl 3, .nl 1, .nl 1] [(0, 2, .t 29), (2, 2, .t 30)], none⟩,
  ⟨some 32, .load true 2 (.t 12), none⟩,
  ⟨some 33, .load true 2 (.t 13), none⟩,
  ⟨some 34, .build [.nl 1, .nl 3, .nl 1, .nl 1] [(0, 2, .t 32), (2, 2, .t 33)], none⟩,
  ⟨none, .store 2 (.t 6) (.t 28), none⟩,
  ⟨none, .store 4 (.t 7) (.t 31), none⟩,
  ⟨none, .store 4 (.t 8) (.t 34), none⟩]
def c_l06_chain (F : String → Nat) : LC := (.seq (.reg (c_l06_chain_r0 F) [1, 2, 3, 6, 7, 8]) (.seq (.reg (c_l06_chain_r1 F) [1, 2, 6, 7, 8, 9]) (.seq (.reg (c_l06_chain_r2 F) [2, 6, 7, 8, 9, 10, 11]) (.seq (.reg (c_l06_chain_r3 F) [6, 7, 8, 9, 10, 11, 12, 13]) (.seq (.dreg [(1, none, [], true), (2, none, [], true), (4, none, [], true), (5, none, [], true), (7, none, [1, 2, 4, 5], false), (8, none, [4, 5], false)] (c_l06_chain_r4 F) [6, 7, 8]) .ret)))))
def h_l06_chain : Hints := ⟨[], fun _ => [], tab [(0, [1, 2, 3, 6, 7, 8]), (1, [1, 2, 6, 7, 8, 9]), (2, [2, 6, 7, 8, 9, 10, 11]), (3, [6, 7, 8, 9, 10, 11, 12, 13]), (4, [6, 7, 8])], tab []⟩

/- l06.MorphismKinds -/
def c_l06_MorphismKinds_r0 (F : String → Nat) : List LI := [⟨some 3, .bx (.t 0), none⟩,
  ⟨some 6, .mov (.k (.bool false)), none⟩]
def c_l06_MorphismKinds_r1 (F : String → Nat) : List LI := [⟨some 17, .call (F "l06.awake") [] [], none⟩,
  ⟨some 18, .not (.t 17), none⟩,
  ⟨some 19, .mov (.t 18), none⟩,
  ⟨some 20, .mov (.t 1), some (19, false)⟩,
  ⟨some 21, .len (.t 20), some (19, false)⟩,
  ⟨some 22, .bin .gtr (.t 21) (.k (.int .i64 (20))), some (19, false)⟩,
  ⟨some 23, .pick (.t 19) (.k (.bool true)) (.t 22), none⟩,
  ⟨some 24, .mov (.t 23), none⟩,
  ⟨some 25, .mov (.t 2), some (24, false)⟩,
  ⟨some 26, .len (.t 25), some (24, false)⟩,
  ⟨some 27, .bin .gtr (.t 26) (.k (.int .i64 (20))), some (24, false)⟩,
  ⟨some 28, .pick (.t 24) (.k (.bool true)) (.t 27), none⟩]
def c_l06_MorphismKinds_r2 (F : String → Nat) : List LI := [⟨some 29, .call (F "l06.awake") [] [], none⟩,
  ⟨some 6, .mov (.t 29), none⟩]
def c_l06_MorphismKinds_r3 (F : String → Nat) : List LI := [⟨some 31, .load true 2 (.t 3), none⟩,
  ⟨some 32, .mov (.t 1), none⟩,
  ⟨some 33, .mov (.t 2), none⟩,
  ⟨some 34, .call (F "l06.chain") [.t 31, .t 32, .t 33] [], none⟩,
  ⟨some 30, .mov (.t 34), none⟩,
  ⟨some 35, .ext (.t 30) 0, none⟩,
  ⟨some 36, .ext (.t 30) 1, none⟩,
  ⟨some 37, .ext (.t 30) 2, none⟩,
  ⟨some 7, .alloc [.nl 1, .nl 3], none⟩,
  ⟨some 8, .alloc [.nl 1, .nl 3, .nl 1, .nl 1], none⟩,
  ⟨some 9, .alloc [.nl 1, .nl 3, .nl 1, .nl 1], none⟩,
  ⟨none, .store 2 (.t 7) (.t 35), none⟩,
  ⟨none, .store 4 (.t 8) (.t 36), none⟩,
  ⟨none, .store 4 (.t 9) (.t 37), none⟩]
def c_l06_MorphismKinds_r4 (F : String → Nat) : List LI := [⟨some 38, .fad 0 (.t 9), none⟩,
  ⟨some 39, .load true 2 (.t 38), none⟩,
  ⟨some 40, .call (F "r05.Copied") [.t 39] [], none⟩,
  ⟨some 10, .alloc [.nl 1, .nl 3], none⟩,
  ⟨none, .store 2 (.t 10) (.t 40), none⟩]
def c_l06_MorphismKinds_r5 (F : String → Nat) : List LI := [⟨some 41, .mov (.t 2), none⟩,
  ⟨some 42, .len (.t 41), none⟩,
  ⟨some 43, .bin .rem (.t 42) (.k (.int .i64 (2))), none⟩,
  ⟨some 44, .bin .eql (.t 43) (.k (.int .i64 (0))), none⟩]
def c_l06_MorphismKinds_r6 (F : String → Nat) : List LI := [⟨some 45, .fad 0 (.t 10), none⟩,
  ⟨some 46, .load false 1 (.t 45), none⟩,
  ⟨some 47, .buildSl 1 8 (.int .i64 (0)) 1 [(0, .k (.int .i64 (1)))], none⟩,
  ⟨some 48, .app 1 8 (.t 46) (.t 47), none⟩,
  ⟨some 49, .fad 0 (.t 10), none⟩,
  ⟨none, .store 1 (.t 49) (.t 48), none⟩]
def c_l06_MorphismKinds_r7 (F : String → Nat) : List LI := [⟨some 51, .load true 2 (.t 7), none⟩,
  ⟨some 52, .fad 0 (.t 8), none⟩,
  ⟨some 53, .load true 2 (.t 52), none⟩,
  ⟨some 54, .load true 2 (.t 10), none⟩,
  ⟨some 55, .fad 2 (.t 8), none⟩,
  ⟨some 56, .load true 2 (.t 55), none⟩,
  ⟨some 57, .fad 2 (.t 9), none⟩,
  ⟨some 58, .load true 2 (.t 57), none⟩,
  ⟨some 59, .call (F "morphism.Compose") [.t 51, .t 53, .t 54, .t 56, .t 58] [], none⟩,
  ⟨some 50, .mov (.t 59), none⟩,
  ⟨some 60, .ext (.t 50) 0, none⟩,
  ⟨some 61, .ext (.t 50) 1, none⟩,
  ⟨some 11, .alloc [.nl 1, .nl 1], none⟩,
  ⟨none, .store 2 (.t 11) (.t 60), none⟩,
  ⟨some 12, .mov (.t 61), none⟩]
def c_l06_MorphismKinds_r8 (F : String → Nat) : List LI := [⟨some 62, .mov (.t 12), none⟩,
  ⟨some 63, .bin .neq (.t 62) (.k (.int .i64 (0))), none⟩]
def c_l06_MorphismKinds_r9 (F : String → Nat) : List LI := [⟨some 6, .mov (.k (.bool false)), none⟩]
def c_l06_MorphismKinds_r10 (F : String → Nat) : List LI := [⟨some 64, .load true 2 (.t 7), none⟩,
  ⟨some 65, .fad 0 (.t 8), none⟩,
  ⟨some 66, .load true 2 (.t 65), none⟩,
  ⟨some 67, .fad 2 (.t 8), none⟩,
  ⟨some 68, .load true 2 (.t 67), none⟩,
  ⟨some 69, .call (F "morphism.Injective") [.t 64, .t 66, .t 68] [], none⟩,
  ⟨some 70, .fad 0 (.t 8), none⟩,
  ⟨some 71, .load true 2 (.t 70), none⟩,
  ⟨some 72, .load true 2 (.t 10), none⟩,
  ⟨some 73, .fad 2 (.t 9), none⟩,
  ⟨some 74, .load true 2 (.t 73), none⟩,
  ⟨some 75, .call (F "morphism.Injective") [.t 71, .t 72, .t 74] [], none⟩,
  ⟨some 13, .mov (.t 69), none⟩,
  ⟨some 14, .mov (.t 75), none⟩]
def c_l06_MorphismKinds_r11 (F : String → Nat) : List LI := [⟨some 76, .load true 2 (.t 7), none⟩,
  ⟨some 77, .fad 0 (.t 8), none⟩,
  ⟨some 78, .load true 2 (.t 77), none⟩,
  ⟨some 79, .fad 2 (.t 8), none⟩,
  ⟨some 80, .load true 2 (.t 79), none⟩,
  ⟨some 81, .call (F "morphism.Surjective") [.t 76, .t 78, .t 80] [], none⟩,
  ⟨some 82, .fad 0 (.t 8), none⟩,
  ⟨some 83, .load true 2 (.t 82), none⟩,
  ⟨some 84, .load true 2 (.t 10), none⟩,
  ⟨some 85, .fad 2 (.t 9), none⟩,
  ⟨some 86, .load true 2 (.t 85), none⟩,
  ⟨some 87, .call (F "morphism.Surjective") [.t 83, .t 84, .t 86] [], none⟩,
  ⟨some 15, .mov (.t 81), none⟩,
  ⟨some 16, .mov (.t 87), none⟩]
def c_l06_MorphismKinds_r12 (F : String → Nat) : List LI := [⟨some 88, .mov (.t 13), none⟩,
  ⟨some 89, .mov (.t 88), none⟩,
  ⟨some 90, .mov (.t 14), some (89, true)⟩,
  ⟨some 91, .pick (.t 89) (.t 90) (.k (.bool false)), none⟩,
  ⟨some 92, .mov (.t 91), none⟩,
  ⟨some 93, .load true 2 (.t 7), some (92, true)⟩,
  ⟨some 94, .load true 2 (.t 10), some (92, true)⟩,
  ⟨some 95, .load true 2 (.t 11), some (92, true)⟩,
  ⟨some 96, .call (F "morphism.Injective") [.t 93, .t 94, .t 95] [], some (92, true)⟩,
  ⟨some 97, .not (.t 96), some (92, true)⟩,
  ⟨some 98, .pick (.t 92) (.t 97) (.k (.bool false)), none⟩]
def c_l06_MorphismKinds_r13 (F : String → Nat) : List LI := [⟨some 6, .mov (.k (.bool false)), none⟩]
def c_l06_MorphismKinds_r14 (F : String → Nat) : List LI := [⟨some 99, .load true 2 (.t 7), none⟩,
  ⟨some 100, .load true 2 (.t 10), none⟩,
  ⟨some 101, .load true 2 (.t 11), none⟩,
  ⟨some 102, .call (F "morphism.Injective") [.t 99, .t 100, .t 101] [], none⟩,
  ⟨some 103, .mov (.t 102), none⟩,
  ⟨some 104, .mov (.t 13), some (103, true)⟩,
  ⟨some 105, .not (.t 104), some (103, true)⟩,
  ⟨some 106, .pick (.t 103) (.t 105) (.k (.bool false)), none⟩,
  ⟨some 107, .mov (.t 106), none⟩,
  ⟨some 108, .load true 2 (.t 7), some (107, false)⟩,
  ⟨some 109, .load true 2 (.t 10), some (107, false)⟩,
  ⟨some 110, .load true 2 (.t 11), some (107, false)⟩,
  ⟨some 111, .call (F "morphism.Surjective") [.t 108, .t 109, .t 110] [], some (107, false)⟩,
  ⟨some 112, .mov (.t 111), some (107, false)⟩,
  ⟨some 113, .mov (.t 16), some (112, true)⟩,
  ⟨some 114, .not (.t 113), some (112, true)⟩,
  ⟨some 115, .pick (.t 112) (.t 114) (.k (.bool false)), some (107, false)⟩,
  ⟨some 116, .pick (.t 107) (.k (.bool true)) (.t 115), none⟩]
def c_l06_MorphismKinds_r15 (F : String → Nat) : List LI := [⟨some 6, .mov (.k (.bool false)), none⟩]
def c_l06_MorphismKinds_r16 (F : String → Nat) : List LI := [⟨some 117, .mov (.t 15), none⟩,
  ⟨some 118, .not (.t 117), none⟩,
  ⟨some 119, .mov (.t 118), none⟩,
  ⟨some 120, .mov (.t 16), some (119, false)⟩,
  ⟨some 121, .not (.t 120), some (119, false)⟩,
  ⟨some 122, .pick (.t 119) (.k (.bool true)) (.t 121), none⟩,
  ⟨some 123, .mov (.t 122), none⟩,
  ⟨some 124, .load true 2 (.t 7), some (123, false)⟩,
  ⟨some 125, .load true 2 (.t 10), some (123, false)⟩,
  ⟨some 126, .load true 2 (.t 11), some (123, false)⟩,
  ⟨some 127, .call (F "morphism.Surjective") [.t 124, .t 125, .t 126] [], some (123, false)⟩,
  ⟨some 128, .pick (.t 123) (.k (.bool true)) (.t 127), none⟩,
  ⟨some 6, .mov (.t 128), none⟩]
def c_l06_MorphismKinds (F : String → Nat) : LC := (.seq (.reg (c_l06_MorphismKinds_r0 F) [1, 2, 3]) (.seq (.seq (.reg (c_l06_MorphismKinds_r1 F) [1, 2, 3, 28]) (.cond (.t 28) (.seq (.reg (c_l06_MorphismKinds_r2 F) [6]) .ret) .skip)) (.seq (.reg (c_l06_MorphismKinds_r3 F) [2, 7, 8, 9]) (.seq (.reg (c_l06_MorphismKinds_r4 F) [2, 7, 8, 9, 10]) (.seq (.seq (.reg (c_l06_MorphismKinds_r5 F) [7, 8, 9, 10, 44]) (.cond (.t 44) (.reg (c_l06_MorphismKinds_r6 F) [7, 8, 9, 10]) .skip)) (.seq (.reg (c_l06_MorphismKinds_r7 F) [7, 8, 9, 10, 11, 12]) (.seq (.seq (.reg (c_l06_MorphismKinds_r8 F) [7, 8, 9, 10, 11, 63]) (.cond (.t 63) (.seq (.reg (c_l06_MorphismKinds_r9 F) [6]) .ret) .skip)) (.seq (.dreg [(5, none, [], true), (7, (some 64), [5], false), (8, (some 0), [5], false), (10, (some 512), [5], false)] (c_l06_MorphismKinds_r10 F) [7, 8, 9, 10, 11, 13, 14]) (.seq (.dreg [(5, none, [], true), (7, (some 64), [5], false), (8, (some 0), [5], false), (10, (some 512), [5], false)] (c_l06_MorphismKinds_r11 F) [7, 10, 11, 13, 14, 15, 16]) (.seq (.seq (.reg (c_l06_MorphismKinds_r12 F) [7, 10, 11, 13, 15, 16, 98]) (.cond (.t 98) (.seq (.reg (c_l06_MorphismKinds_r13 F) [6]) .ret) .skip)) (.seq (.seq (.reg (c_l06_MorphismKinds_r14 F) [7, 10, 11, 15, 16, 116]) (.cond (.t 116) (.seq (.reg (c_l06_MorphismKinds_r15 F) [6]) .ret) .skip)) (.seq (.reg (c_l06_MorphismKinds_r16 F) [6]) .ret))))))))))))
def h_l06_MorphismKinds : Hints := ⟨[], fun _ => [], tab [(0, [1, 2, 3]), (1, [1, 2, 3, 28]), (2, [6]), (3, [2, 7, 8, 9]), (4, [2, 7, 8, 9, 10]), (5, [7, 8, 9, 10, 44]), (6, [7, 8, 9, 10]), (7, [7, 8, 9, 10, 11, 12]), (8, [7, 8, 9, 10, 11, 63]), (9, [6]), (10, [7, 8, 9, 10, 11, 13, 14]), (11, [7, 10, 11, 13, 14, 15, 16]), (12, [7, 10, 11, 13, 15, 16, 98]), (13, [6]), (14, [7, 10, 11, 15, 16, 116]), (15, [6]), (16, [6])], tab []⟩

attribute [go_sem] c_l06_chain_r0 c_l06_chain_r1 c_l06_chain_r2 c_l06_chain_r3 c_l06_chain_r4 c_l06_chain c_l06_MorphismKinds_r0 c_l06_MorphismKinds_r1 c_l06_MorphismKinds_r2 c_l06_MorphismKinds_r3 c_l06_MorphismKinds_r4 c_l06_MorphismKinds_r5 c_l06_MorphismKinds_r6 c_l06_MorphismKinds_r7 c_l06_MorphismKinds_r8 c_l06_MorphismKinds_r9 c_l06_MorphismKinds_r10 c_l06_MorphismKinds_r11 c_l06_MorphismKinds_r12 c_l06_MorphismKinds_r13 c_l06_MorphismKinds_r14 c_l06_MorphismKinds_r15 c_l06_MorphismKinds_r16 c_l06_MorphismKinds
def awA (g : G) (m : Mo) : D := .agg [.arr 1 (ints g.n), .arr 3 (eds g.e), .arr 1 (ints m.n), .arr 1 (ints m.e)]
section
variable (P : Program) (F : String → Nat)
def K_l06_chain : Prop := ∀ (x : Dr) (l k : List Int), x.ok → x.n.length ≤ maxL → x.e.length ≤ maxL → l.length ≤ 1000 → (∀ v ∈ l, Byte v) → k.length ≤ 1000 → (∀ v ∈ k, Byte v) →
  FC P (F "l06.chain") [drD x, .lst 1 (u8s l), .lst 1 (u8s k)] (.tup [gA (madeG x), awA (imG (madeG x) l) (imMo (madeG x) l), awA (imG (imG (madeG x) l) k) (imMo (imG (madeG x) l) k)]) []
def K_l06_MorphismKinds : Prop := ∀ (x : Dr) (l k : List Int), x.ok → x.n.length ≤ maxL → x.e.length ≤ maxL → (∀ v ∈ l, Byte v) → l.length ≤ maxL → (∀ v ∈ k, Byte v) → k.length ≤ maxL → FC P (F "l06.MorphismKinds") [drD x, .lst 1 (u8s l), .lst 1 (u8s k)] (.bool true) []
end
section
variable {P : Program} {F : String → Nat} {α : Type}
theorem w_l06_chain (hm : K_r05_Made P F) (hi : K_r06_Image P F) (x : Dr) (l k : List Int) (hx : x.ok) (x1 : x.n.length ≤ maxL) (x2 : x.e.length ≤ maxL) (l1 : l.length ≤ 1000) (l2 : ∀ v ∈ l, Byte v) (k1 : k.length ≤ 1000) (k2 : ∀ v ∈ k, Byte v) :
    W P (c_l06_chain F) (Done [.c 6 true 2, .c 7 true 4, .c 8 true 4] [] (.tup [gA (madeG x), awA (imG (madeG x) l) (imMo (madeG x) l), awA (imG (imG (madeG x) l) k) (imMo (imG (madeG x) l) k)]) []) (init [drD x, .lst 1 (u8s l), .lst 1 (u8s k)]) := by
  refine W_of ?_
  have r1 := hm x hx x1 x2
  have va := madeG_valid hx
  have r2 := hi (madeG x) l va l1 l2
  have vb := (img_okM va l2).vb
  have r3 := hi (imG (madeG x) l) k vb k1 k2
  generalize imMo (imG (madeG x) l) k = n at *
  generalize imG (imG (madeG x) l) k = c at *
  generalize imMo (madeG x) l = m at *
  generalize imG (madeG x) l = b at *
  generalize madeG x = a at *
  obtain ⟨an, ae⟩ := a
  obtain ⟨bn, be⟩ := b
  obtain ⟨cn, ce⟩ := c
  obtain ⟨mn, me⟩ := m
  obtain ⟨nn, ne⟩ := n
  simp only [gD, gA, mD, mA, awA, drD] at *
  simp (config := { maxSteps := 1000000 }) (disch := first | omega | (simp only [go_sem]; omega)) only [go_sem, ↓reduceIte]
  refine call_by r1 ?_
  simp (config := { maxSteps := 1000000 }) (disch := first | omega | (simp only [go_sem]; omega)) only [go_sem, ↓reduceIte]
  refine call_by r2 ?_
  simp (config := { maxSteps := 1000000 }) (disch := first | omega | (simp only [go_sem]; omega)) only [go_sem, ↓reduceIte]
  refine call_by r3 ?_
  simp (config := { maxSteps := 1000000 }) (disch := first | omega | (simp only [go_sem]; omega)) only [go_sem, ↓reduceIte]
  try rfl
theorem madeG_len8 (x : Dr) : (madeG x).n.length ≤ 8 ∧ (madeG x).e.length ≤ 10 := ⟨madeN_len x, madeE_len x⟩
theorem nodup_mkK {l : List Int} (h : ∀ i j : Nat, i < l.length → j < l.length → gt l i = gt l j → i = j) : l.Nodup := by
  unfold List.Nodup
  rw [List.pairwise_iff_getElem]
  intro i j hi hj hij e
  have := h i j hi hj (by rw [gt_nat hi, gt_nat hj, e])
  omega
theorem thr_bd {l b : List Int} (hb : ∀ x ∈ l, 0 ≤ x ∧ x < b.length) {i : Nat} (hi : i < l.length) : ∃ k : Nat, k < b.length ∧ gt l i = k := gtI (hb _ (gt_mem (by omega) (by omega)))
theorem thr_nodup {l b : List Int} (hb : ∀ x ∈ l, 0 ≤ x ∧ x < b.length) (h1 : l.Nodup) (h2 : b.Nodup) : (thr l b).Nodup := by
  refine nodup_mkK fun i j hi hj e => ?_
  rw [thr_len] at hi hj
  rw [thr_gt hi, thr_gt hj] at e
  obtain ⟨k, hk, hk2⟩ := thr_bd hb hi
  obtain ⟨m, hm, hm2⟩ := thr_bd hb hj
  rw [hk2, hm2] at e
  have := gt_inj h2 hk hm e
  exact gt_inj h1 hi hj (by rw [hk2, hm2, this])
theorem thr_nodup_of {l b : List Int} (h : (thr l b).Nodup) : l.Nodup := by
  refine nodup_mkK fun i j hi hj e => ?_
  exact gt_inj h (by rw [thr_len]; exact hi) (by rw [thr_len]; exact hj) (by rw [thr_gt hi, thr_gt hj, e])
theorem covers_spec {l : List Int} {n : Nat} : covers l n = true ↔ ∀ k : Nat, k < n → (k : Int) ∈ l := by
  unfold covers
  rw [List.all_eq_true]
  simp
theorem thr_cov_of {l b : List Int} {n : Nat} (hb : ∀ x ∈ l, 0 ≤ x ∧ x < b.length) (h : covers (thr l b) n = true) : covers b n = true := by
  rw [covers_spec] at h ⊢
  intro k hk
  obtain ⟨i, hi, hi2⟩ := mem_gt (h k hk)
  rw [thr_len] at hi
  rw [thr_gt hi] at hi2
  obtain ⟨m, hm, hm2⟩ := thr_bd hb hi
  rw [← hi2, hm2]
  exact gt_mem (by omega) (by omega)
theorem thr_cov {l b : List Int} {n : Nat} (h1 : covers l b.length = true) (h2 : covers b n = true) : covers (thr l b) n = true := by
  rw [covers_spec] at h1 h2 ⊢
  intro k hk
  obtain ⟨j, hj, hj2⟩ := mem_gt (h2 k hk)
  obtain ⟨i, hi, hi2⟩ := mem_gt (h1 j hj)
  rw [← hj2, ← hi2, ← thr_gt hi]
  exact gt_mem (by omega) (by rw [thr_len]; omega)
theorem kinds {a b c : G} {m n : Mo} (hm : MOk a b m) (hn : MOk b c n) (hmn : MOk a c (thenM m n)) : (injM a b m = true → injM b c n = true → injM a c (thenM m n) = true) ∧ (injM a c (thenM m n) = true → injM a b m = true) ∧
    (surM a c (thenM m n) = true → surM b c n = true) ∧ (surM a b m = true → surM b c n = true → surM a c (thenM m n) = true) := by
  have b := validM_bd (mok.2 hm)
  rw [← hn.ln, ← hn.le] at b
  have v1 := mok.2 hm
  have v2 := mok.2 hn
  have v3 : validM a c ⟨thr m.n n.n, thr m.e n.e⟩ = 0 := mok.2 hmn
  simp only [injM, surM, thenM, v1, v2, v3, distinct, Bool.and_eq_true, decide_eq_true_eq]
  refine ⟨fun h1 h2 => ⟨trivial, decide_eq_true (thr_nodup b.1 h1.2.1 h2.2.1), decide_eq_true (thr_nodup b.2 h1.2.2 h2.2.2)⟩, fun h => ⟨trivial, thr_nodup_of (of_decide_eq_true h.2.1), thr_nodup_of (of_decide_eq_true h.2.2)⟩, fun h => ⟨trivial, thr_cov_of b.1 h.2.1, thr_cov_of b.2 h.2.2⟩, fun h1 h2 => ⟨trivial, thr_cov ?_ h2.2.1, thr_cov ?_ h2.2.2⟩⟩
  · rw [hn.ln]; exact h1.2.1
  · rw [hn.le]; exact h1.2.2
def moreG (g : G) (b : Bool) : G := if b = true then ⟨g.n ++ [1], g.e⟩ else g
theorem more_ok {a b : G} {m : Mo} (hm : MOk a b m) (hl : b.n.length ≤ 39) (t : Bool) : MOk a (moreG b t) m := by
  cases t
  · exact hm
  · have vs := valid_spec hm.vb
    refine ⟨hm.va, valid_mk (by simp [moreG]; omega) (by simpa [moreG] using vs.2.1) (fun y hy => ?_) (fun y hy => ?_), hm.ln, hm.le, fun i hi => ?_, fun i hi => ?_⟩
    · simp only [moreG, if_true, List.mem_append, List.mem_singleton] at hy
      rcases hy with hy | rfl
      · exact vs.2.2.1 y hy
      · decide
    · have := fits_spec (vs.2.2.2 y (by simpa [moreG] using hy))
      exact fits_mk this.1 (by simp [moreG]; omega) (by simp [moreG]; omega)
    · obtain ⟨h1, h2⟩ := hm.nd i hi
      obtain ⟨k, hk, hk2⟩ := gtI h1
      simp only [moreG, if_true]
      rw [hk2] at h2 ⊢
      rw [gt_appS hk]
      exact ⟨by simp; omega, h2⟩
    · simpa [moreG] using hm.ed i hi
theorem then_okK {a b c : G} {m n : Mo} (hm : MOk a b m) (hn : MOk b c n) : MOk a c (thenM m n) := by
  have l1 := hm.ln
  have l2 := hm.le
  refine ⟨hm.va, hn.vb, by simp only [thenM, thr_len]; exact l1, by simp only [thenM, thr_len]; exact l2, fun i hi => ?_, fun i hi => ?_⟩
  · obtain ⟨h1, h2⟩ := hm.nd i hi
    obtain ⟨k, hk, hk2⟩ := gtI h1
    simp only [thenM]
    rw [thr_gt (by omega), hk2]
    rw [hk2] at h2
    obtain ⟨h3, h4⟩ := hn.nd k hk
    exact ⟨h3, by rw [h4, h2]⟩
  · obtain ⟨h1, h2, h3, h4⟩ := hm.ed i hi
    obtain ⟨k, hk, hk2⟩ := gtI h1
    obtain ⟨_, f1, f2⟩ := edge_fits hm.va (i := i) (by omega)
    obtain ⟨p, hp, hp2⟩ := gtI f1
    obtain ⟨q, hq, hq2⟩ := gtI f2
    simp only [thenM]
    rw [thr_gt (by omega), hk2]
    rw [hk2] at h2 h3 h4
    obtain ⟨g1, g2, g3, g4⟩ := hn.ed k hk
    refine ⟨g1, by rw [h2, g2], ?_, ?_⟩
    · rw [hp2, thr_gt (by omega), ← g3, ← h3, hp2]
    · rw [hq2, thr_gt (by omega), ← g4, ← h4, hq2]
set_option maxRecDepth 100000 in
set_option maxHeartbeats 8000000 in
theorem w_l06_MorphismKinds (hw : K_l06_awake P F) (hch : K_l06_chain P F) (hcp : K_r05_Copied P F) (hco : K_morphism_Compose P F) (hi : K_morphism_Injective P F) (hs : K_morphism_Surjective P F) (x : Dr) (l k : List Int) (hx : x.ok) (x1 : x.n.length ≤ maxL) (x2 : x.e.length ≤ maxL) (l2 : ∀ v ∈ l, Byte v) (l1 : l.length ≤ maxL) (k2 : ∀ v ∈ k, Byte v) (k1 : k.length ≤ maxL) :
    W P (c_l06_MorphismKinds F) (Done [.t 6] [] (.bool true) []) (init [drD x, .lst 1 (u8s l), .lst 1 (u8s k)]) := by
  refine W_of ?_
  unfold maxL at l1 k1
  by_cases c1 : l.length ≤ 20
  · have d1 : decide ((20 : Int) < l.length) = false := decide_eq_false (by omega)
    by_cases c2 : k.length ≤ 20
    · have d2 : decide ((20 : Int) < k.length) = false := decide_eq_false (by omega)
      have r0 := hch x l k hx x1 x2 (by omega) l2 (by omega) k2
      have va := madeG_valid hx
      have hA := madeG_len8 x
      have hm := img_okM va l2
      have hn := img_okM hm.vb k2
      have s1 := img_sz l2 va
      have s2 := img_sz k2 hm.vb
      have hn' : MOk (imG (madeG x) l) (moreG (imG (imG (madeG x) l) k) (decide ((k.length : Int).tmod 2 = 0))) (imMo (imG (madeG x) l) k) := more_ok hn (by omega) _
      have hT := then_okK hm hn'
      have r1 := hcp (imG (imG (madeG x) l) k) (by omega) (by omega)
      have r2 := hco (madeG x) (imG (madeG x) l) (moreG (imG (imG (madeG x) l) k) (decide ((k.length : Int).tmod 2 = 0))) (imMo (madeG x) l) (imMo (imG (madeG x) l) k)
      rw [comM_ok hm hn'] at r2
      have r3 := hi (madeG x) (imG (madeG x) l) (imMo (madeG x) l)
      have r4 := hi (imG (madeG x) l) (moreG (imG (imG (madeG x) l) k) (decide ((k.length : Int).tmod 2 = 0))) (imMo (imG (madeG x) l) k)
      have r5 := hs (madeG x) (imG (madeG x) l) (imMo (madeG x) l)
      have r6 := hs (imG (madeG x) l) (moreG (imG (imG (madeG x) l) k) (decide ((k.length : Int).tmod 2 = 0))) (imMo (imG (madeG x) l) k)
      have r7 := hi (madeG x) (moreG (imG (imG (madeG x) l) k) (decide ((k.length : Int).tmod 2 = 0))) (thenM (imMo (madeG x) l) (imMo (imG (madeG x) l) k))
      have r8 := hs (madeG x) (moreG (imG (imG (madeG x) l) k) (decide ((k.length : Int).tmod 2 = 0))) (thenM (imMo (madeG x) l) (imMo (imG (madeG x) l) k))
      obtain ⟨p1, p2, p3, p4⟩ := kinds hm hn' hT
      have hcn : (imG (imG (madeG x) l) k).n.length ≤ 8 := by omega
      clear hm hn hn' hT s1 s2 va hA
      have z2 : ¬ ((2 : Int) = 0) := by omega
      generalize injM (madeG x) (imG (madeG x) l) (imMo (madeG x) l) = i1 at *
      generalize injM (imG (madeG x) l) (moreG (imG (imG (madeG x) l) k) (decide ((k.length : Int).tmod 2 = 0))) (imMo (imG (madeG x) l) k) = i2 at *
      generalize surM (madeG x) (imG (madeG x) l) (imMo (madeG x) l) = o1 at *
      generalize surM (imG (madeG x) l) (moreG (imG (imG (madeG x) l) k) (decide ((k.length : Int).tmod 2 = 0))) (imMo (imG (madeG x) l) k) = o2 at *
      generalize injM (madeG x) (moreG (imG (imG (madeG x) l) k) (decide ((k.length : Int).tmod 2 = 0))) (thenM (imMo (madeG x) l) (imMo (imG (madeG x) l) k)) = ij at *
      generalize surM (madeG x) (moreG (imG (imG (madeG x) l) k) (decide ((k.length : Int).tmod 2 = 0))) (thenM (imMo (madeG x) l) (imMo (imG (madeG x) l) k)) = so at *
      generalize thenM (imMo (madeG x) l) (imMo (imG (madeG x) l) k) = t at *
      generalize imMo (imG (madeG x) l) k = n at *
      generalize imG (imG (madeG x) l) k = c at *
      generalize imMo (madeG x) l = m at *
      generalize imG (madeG x) l = b at *
      generalize madeG x = a at *
      obtain ⟨an, ae⟩ := a
      obtain ⟨bn, be⟩ := b
      obtain ⟨cn, ce⟩ := c
      obtain ⟨mn, me⟩ := m
      obtain ⟨nn, ne⟩ := n
      obtain ⟨tn, te⟩ := t
      by_cases c3 : (k.length : Int).tmod 2 = 0
      all_goals
        first
          | (have d3 : decide ((k.length : Int).tmod 2 = 0) = true := decide_eq_true c3
             simp only [d3, moreG, if_true, gD, gA, mD, mA, awA, drD] at *)
          | (have d3 : decide ((k.length : Int).tmod 2 = 0) = false := decide_eq_false c3
             simp only [d3, moreG, if_false, Bool.false_eq_true, gD, gA, mD, mA, awA, drD] at *)
        simp (config := { maxSteps := 1000000 }) (disch := first | omega | (simp only [go_sem]; omega)) only [go_sem, ↓reduceIte]
        refine call_by hw ?_
        simp (config := { maxSteps := 1000000 }) (disch := first | omega | (simp only [go_sem]; omega)) only [go_sem, ↓reduceIte, d1, d2]
        refine call_by r0 ?_
        simp (config := { maxSteps := 1000000 }) (disch := first | omega | (simp only [go_sem]; omega)) only [go_sem, ↓reduceIte]
        refine call_by r1 ?_
        first
          | have d5 : decide ((k.length : Int).tmod 2 = 0) = true := decide_eq_true c3
          | have d5 : decide ((k.length : Int).tmod 2 = 0) = false := decide_eq_false c3
        simp (config := { maxSteps := 1000000 }) (disch := first | omega | (simp only [go_sem]; omega)) only [go_sem, ↓reduceIte, d5, z2]
        refine call_by r2 ?_
        simp (config := { maxSteps := 1000000 }) (disch := first | omega | (simp only [go_sem]; omega)) only [go_sem, ↓reduceIte]
        refine call_by r3 ?_
        simp (config := { maxSteps := 1000000 }) (disch := first | omega | (simp only [go_sem]; omega)) only [go_sem, ↓reduceIte]
        refine call_by r4 ?_
        simp (config := { maxSteps := 1000000 }) (disch := first | omega | (simp only [go_sem]; omega)) only [go_sem, ↓reduceIte]
        refine call_by r5 ?_
        simp (config := { maxSteps := 1000000 }) (disch := first | omega | (simp only [go_sem]; omega)) only [go_sem, ↓reduceIte]
        refine call_by r6 ?_
        clear r0 r1 r2 r3 r4 r5 r6 hch hcp hco hi hs hw
        cases i1 <;> cases i2 <;> cases ij <;> cases o1 <;> cases o2 <;> cases so <;> first
          | exact absurd (p1 rfl rfl) (by decide)
          | exact absurd (p2 rfl) (by decide)
          | exact absurd (p3 rfl) (by decide)
          | exact absurd (p4 rfl rfl) (by decide)
          | (repeat (first | simp (config := { maxSteps := 1000000 }) (disch := first | omega | (simp only [go_sem]; omega)) only [go_sem, ↓reduceIte] | refine call_by r7 ?_ | refine call_by r8 ?_))
    · have d2 : decide ((20 : Int) < k.length) = true := decide_eq_true (by omega)
      simp only [drD]
      simp (config := { maxSteps := 1000000 }) (disch := first | omega | (simp only [go_sem]; omega)) only [go_sem, ↓reduceIte]
      refine call_by hw ?_
      simp (config := { maxSteps := 1000000 }) (disch := first | omega | (simp only [go_sem]; omega)) only [go_sem, ↓reduceIte, d1, d2]
      refine call_by hw ?_
      simp (config := { maxSteps := 1000000 }) (disch := first | omega | (simp only [go_sem]; omega)) only [go_sem, ↓reduceIte]
  · have d1 : decide ((20 : Int) < l.length) = true := decide_eq_true (by omega)
    simp only [drD]
    simp (config := { maxSteps := 1000000 }) (disch := first | omega | (simp only [go_sem]; omega)) only [go_sem, ↓reduceIte]
    refine call_by hw ?_
    simp (config := { maxSteps := 1000000 }) (disch := first | omega | (simp only [go_sem]; omega)) only [go_sem, ↓reduceIte, d1]
    refine call_by hw ?_
    simp (config := { maxSteps := 1000000 }) (disch := first | omega | (simp only [go_sem]; omega)) only [go_sem, ↓reduceIte]
theorem x_l06_MorphismKinds (h : K_l06_MorphismKinds P F) (args : List D) (ha : HasEls [shDr, shU8s, shU8s] args) : FC P (F "l06.MorphismKinds") args (.bool true) [] := by
  simp only [HasEls] at ha
  obtain ⟨_, _, rfl, h1, _, _, rfl, h2, _, _, rfl, h3, rfl⟩ := ha
  obtain ⟨x, rfl, a1, a2, a3⟩ := rd_draft h1
  obtain ⟨l, rfl, b1, b2⟩ := rd_u8s h2
  obtain ⟨k, rfl, c1, c2⟩ := rd_u8s h3
  exact h x l k a1 a2 a3 b1 b2 c1 c2
end
end Go.Am
