/- Lists of lists, sorted by a function, without repetitions, searched: the library's functions. -/
import Derived.Test.YtmkhlefohbfekaaAmZc
import Derived.Test.YtmkhlefohbfekaaSpPa
namespace Go.Am
open Go
set_option linter.unusedVariables false
set_option linter.unusedSimpArgs false
attribute [local irreducible] W
@[go_sem] def c_cmp_Compare_I_r0 : LL := [qi 4 0]
@[go_sem] def c_cmp_Compare_I_r1 (F : Fn) : LL := [qm 7 0,qc 8 (F "cmp.isNaN.I") [.t 7],qm 5 8]
@[go_sem] def c_cmp_Compare_I_r2 (F : Fn) : LL := [qm 9 1,qc 10 (F "cmp.isNaN.I") [.t 9],qm 6 10]
@[go_sem] def c_cmp_Compare_I_r3 : LL := [qm 11 5]
@[go_sem] def c_cmp_Compare_I_r4 : LL := [qm 12 6]
@[go_sem] def c_cmp_Compare_I_r5 : LL := [qi 4 0]
@[go_sem] def c_cmp_Compare_I_r6 : LL := [qi 4 (-1)]
@[go_sem] def c_cmp_Compare_I_r7 : LL := [qm 13 6]
@[go_sem] def c_cmp_Compare_I_r8 : LL := [qi 4 1]
@[go_sem] def c_cmp_Compare_I_r9 : LL := [qm 14 0,qm 15 1,qo .lss 16 14 15]
@[go_sem] def c_cmp_Compare_I_r10 : LL := [qi 4 (-1)]
@[go_sem] def c_cmp_Compare_I_r11 : LL := [qm 17 0,qm 18 1,qo .gtr 19 17 18]
@[go_sem] def c_cmp_Compare_I_r12 : LL := [qi 4 1]
@[go_sem] def c_cmp_Compare_I_r13 : LL := [qi 4 0]
@[go_sem] def c_cmp_Compare_I (F : Fn) : LC := (.seq (.reg c_cmp_Compare_I_r0 [0,1]) (.seq (.reg (c_cmp_Compare_I_r1 F) [0,1,5]) (.seq (.reg (c_cmp_Compare_I_r2 F) [0,1,5,6]) (.seq (.seq (.reg c_cmp_Compare_I_r3 [0,1,6,11]) (.cond (.t 11) (.seq (.seq (.reg c_cmp_Compare_I_r4 [12]) (.cond (.t 12) (.seq (.reg c_cmp_Compare_I_r5 [4]) .ret) .skip)) (.seq (.reg c_cmp_Compare_I_r6 [4]) .ret)) .skip)) (.seq (.seq (.reg c_cmp_Compare_I_r7 [0,1,13]) (.cond (.t 13) (.seq (.reg c_cmp_Compare_I_r8 [4]) .ret) .skip)) (.seq (.seq (.reg c_cmp_Compare_I_r9 [0,1,16]) (.cond (.t 16) (.seq (.reg c_cmp_Compare_I_r10 [4]) .ret) .skip)) (.seq (.seq (.reg c_cmp_Compare_I_r11 [19]) (.cond (.t 19) (.seq (.reg c_cmp_Compare_I_r12 [4]) .ret) .skip)) (.seq (.reg c_cmp_Compare_I_r13 [4]) .ret))))))))
def h_cmp_Compare_I : Hints := hOf [] (c_cmp_Compare_I fun _ => 0)
@[go_sem] def c_slices_Compare_I_r0 : LL := [qi 4 0]
@[go_sem] def c_slices_Compare_I_r1 : LL := [qm 9 0,qz 10 9,qi 11 0]
@[go_sem] def c_slices_Compare_I_r2 : LL := [qo .lss 12 11 10]
@[go_sem] def c_slices_Compare_I_r3 : LL := [qm 13 11,qd 14 1 9 11,ql 15 1 14,qm 5 13,qm 6 15]
@[go_sem] def c_slices_Compare_I_r4 : LL := [qm 16 5,qm 17 1,qz 18 17,qo .geq 19 16 18]
@[go_sem] def c_slices_Compare_I_r5 : LL := [qi 4 1]
@[go_sem] def c_slices_Compare_I_r6 : LL := [qm 20 1,qm 21 5,qd 22 1 20 21,ql 23 1 22,qm 7 23]
@[go_sem] def c_slices_Compare_I_r7 (F : Fn) : LL := [qm 24 6,qm 25 7,qc 26 (F "cmp.Compare.I") [.t 24,.t 25],qm 8 26]
@[go_sem] def c_slices_Compare_I_r8 : LL := [qm 27 8,qk .neq 28 27 0]
@[go_sem] def c_slices_Compare_I_r9 : LL := [qm 29 8,qm 4 29]
@[go_sem] def c_slices_Compare_I_r10 : LL := [qk .add 30 11 1,qm 11 30]
def c_slices_Compare_I_b11 (F : Fn) : LC := (.seq (.reg c_slices_Compare_I_r2 [0,1,9,10,11,12]) (.seq (.cond (.t 12) .skip (.exit 0)) (.seq (.block 1 (.seq (.reg c_slices_Compare_I_r3 [0,1,5,6,9,10,11]) (.seq (.seq (.reg c_slices_Compare_I_r4 [0,1,5,6,9,10,11,19]) (.cond (.t 19) (.seq (.reg c_slices_Compare_I_r5 [4]) .ret) .skip)) (.seq (.reg c_slices_Compare_I_r6 [0,1,6,7,9,10,11]) (.seq (.reg (c_slices_Compare_I_r7 F) [0,1,8,9,10,11]) (.seq (.reg c_slices_Compare_I_r8 [0,1,8,9,10,11,28]) (.cond (.t 28) (.seq (.reg c_slices_Compare_I_r9 [4]) .ret) .skip))))))) (.reg c_slices_Compare_I_r10 [0,1,9,10,11]))))
@[go_sem] def c_slices_Compare_I_r12 : LL := [qm 31 0,qz 32 31,qm 33 1,qz 34 33,qo .lss 35 32 34]
@[go_sem] def c_slices_Compare_I_r13 : LL := [qi 4 (-1)]
@[go_sem] def c_slices_Compare_I_r14 : LL := [qi 4 0]
@[go_sem] def c_slices_Compare_I (F : Fn) : LC := (.seq (.reg c_slices_Compare_I_r0 [0,1]) (.seq (.seq (.reg c_slices_Compare_I_r1 [0,1,9,10,11]) (.block 0 (.loop [0,1,9,10,11] (c_slices_Compare_I_b11 F)))) (.seq (.seq (.reg c_slices_Compare_I_r12 [35]) (.cond (.t 35) (.seq (.reg c_slices_Compare_I_r13 [4]) .ret) .skip)) (.seq (.reg c_slices_Compare_I_r14 [4]) .ret))))
def h_slices_Compare_I : Hints := hOf [] (c_slices_Compare_I fun _ => 0)
@[go_sem] def c_slices_Clone_int3_r0 : LL := [qn 2 1]
@[go_sem] def c_slices_Clone_int3_r1 : LL := [qm 3 0,⟨some 4,.isnil false (.t 3),none⟩]
@[go_sem] def c_slices_Clone_int3_r2 : LL := [qn 2 1]
@[go_sem] def c_slices_Clone_int3_r3 : LL := [⟨some 5,.buildSl 1 24 (.lst 1 []) 0 [],none⟩,qm 6 0,qp 7 1 24 5 6,qm 2 7]
@[go_sem] def c_slices_Clone_int3 (F : Fn) : LC := (.seq (.reg c_slices_Clone_int3_r0 [0]) (.seq (.seq (.reg c_slices_Clone_int3_r1 [0,4]) (.cond (.t 4) (.seq (.reg c_slices_Clone_int3_r2 [2]) .ret) .skip)) (.seq (.reg c_slices_Clone_int3_r3 [2]) .ret)))
def h_slices_Clone_int3 : Hints := hOf [] (c_slices_Clone_int3 fun _ => 0)
@[go_sem] def c_slices_CompactFunc_int3_r0 : LL := [qn 4 1]
@[go_sem] def c_slices_CompactFunc_int3_r1 : LL := [qm 8 0,qz 9 8,qk .lss 10 9 2]
@[go_sem] def c_slices_CompactFunc_int3_r2 : LL := [qm 11 0,qm 4 11]
@[go_sem] def c_slices_CompactFunc_int3_r3 : LL := [qi 5 1]
@[go_sem] def c_slices_CompactFunc_int3_r4 : LL := [qm 12 5,qm 13 0,qz 14 13,qo .lss 15 12 14]
@[go_sem] def c_slices_CompactFunc_int3_r5 : LL := [qm 18 1,qm 19 0,qm 20 5,qd 21 1 19 20,ql 22 1 21,qm 23 0,qm 24 5,qk .sub 25 24 1,qd 26 1 23 25,ql 27 1 26,⟨some 28,.callv (.t 18) [.t 22,.t 27],none⟩]
@[go_sem] def c_slices_CompactFunc_int3_r6 : LL := [qm 29 0,qm 30 5,⟨some 31,.slc 1 (.t 29) (some (.t 30)) none,none⟩,qm 6 31]
@[go_sem] def c_slices_CompactFunc_int3_r7 : LL := [qi 7 1]
@[go_sem] def c_slices_CompactFunc_int3_r8 : LL := [qm 32 7,qm 33 6,qz 34 33,qo .lss 35 32 34]
@[go_sem] def c_slices_CompactFunc_int3_r9 : LL := [qm 38 1,qm 39 6,qm 40 7,qd 41 1 39 40,ql 42 1 41,qm 43 6,qm 44 7,qk .sub 45 44 1,qd 46 1 43 45,ql 47 1 46,⟨some 48,.callv (.t 38) [.t 42,.t 47],none⟩,qv 49 48]
@[go_sem] def c_slices_CompactFunc_int3_r10 : LL := [qm 50 0,qm 51 5,qm 52 6,qm 53 7,qd 54 1 52 53,ql 55 1 54,qd 56 1 50 51,qs 1 56 55]
@[go_sem] def c_slices_CompactFunc_int3_r11 : LL := [qm 57 5,qk .add 58 57 1,qm 5 58]
@[go_sem] def c_slices_CompactFunc_int3_r12 : LL := [qm 36 7,qk .add 37 36 1,qm 7 37]
def c_slices_CompactFunc_int3_b13 : LC := (.seq (.seq (.reg c_slices_CompactFunc_int3_r8 [0,1,5,6,7,35]) (.cond (.t 35) .skip (.exit 2))) (.seq (.block 3 (.seq (.dreg [] c_slices_CompactFunc_int3_r9 [0,1,5,6,7,49]) (.cond (.t 49) (.seq (.reg c_slices_CompactFunc_int3_r10 [0,1,5,6,7]) (.reg c_slices_CompactFunc_int3_r11 [0,1,5,6,7])) .skip))) (.reg c_slices_CompactFunc_int3_r12 [0,1,5,6,7])))
@[go_sem] def c_slices_CompactFunc_int3_r14 : LL := [qm 59 0,qm 60 5,⟨some 61,.slc 1 (.t 59) (some (.t 60)) none,none⟩,⟨none,.clr 1 (.t 61),none⟩]
@[go_sem] def c_slices_CompactFunc_int3_r15 : LL := [qm 62 0,qm 63 5,⟨some 64,.slc 1 (.t 62) none (some (.t 63)),none⟩,qm 4 64]
@[go_sem] def c_slices_CompactFunc_int3_r16 : LL := [qm 16 5,qk .add 17 16 1,qm 5 17]
def c_slices_CompactFunc_int3_b17 : LC := (.seq (.seq (.reg c_slices_CompactFunc_int3_r4 [0,1,5,15]) (.cond (.t 15) .skip (.exit 0))) (.seq (.block 1 (.seq (.dreg [] c_slices_CompactFunc_int3_r5 [0,1,5,28]) (.cond (.t 28) (.seq (.reg c_slices_CompactFunc_int3_r6 [0,1,5,6]) (.seq (.seq (.reg c_slices_CompactFunc_int3_r7 [0,1,5,6,7]) (.block 2 (.loop [0,1,5,6,7] c_slices_CompactFunc_int3_b13))) (.seq (.reg c_slices_CompactFunc_int3_r14 [0,5]) (.seq (.reg c_slices_CompactFunc_int3_r15 [4]) .ret)))) .skip))) (.reg c_slices_CompactFunc_int3_r16 [0,1,5])))
@[go_sem] def c_slices_CompactFunc_int3_r18 : LL := [qm 65 0,qm 4 65]
@[go_sem] def c_slices_CompactFunc_int3 (F : Fn) : LC := (.seq (.reg c_slices_CompactFunc_int3_r0 [0,1]) (.seq (.seq (.reg c_slices_CompactFunc_int3_r1 [0,1,10]) (.cond (.t 10) (.seq (.reg c_slices_CompactFunc_int3_r2 [4]) .ret) .skip)) (.seq (.seq (.reg c_slices_CompactFunc_int3_r3 [0,1,5]) (.block 0 (.loop [0,1,5] c_slices_CompactFunc_int3_b17))) (.seq (.reg c_slices_CompactFunc_int3_r18 [4]) .ret))))
def h_slices_CompactFunc_int3 : Hints := hn [] [(0,[0,1]),(1,[0,1,10]),(2,[4]),(3,[0,1,5]),(4,[0,1,5,15]),(5,[0,1,5]),(6,[0,1,5,28]),(7,[0,1,5,6]),(8,[0,1,5,6,7]),(9,[0,1,5,6,7,35]),(10,[0,1,5,6,7]),(11,[0,1,5,6,7,49]),(12,[0,1,5,6,7]),(13,[0,1,5,6,7]),(14,[0,5]),(15,[4]),(16,[4])] [(4,[0,1,5]),(9,[0,1,5,6,7])]
@[go_sem] def c_slices_BinarySearchFunc_int4_r0 : LL := [qi 6 0,qb 7 false]
@[go_sem] def c_slices_BinarySearchFunc_int4_r1 : LL := [qm 12 0,qz 13 12,qm 8 13]
@[go_sem] def c_slices_BinarySearchFunc_int4_r2 : LL := [qm 14 8,qi 9 0,qm 10 14]
@[go_sem] def c_slices_BinarySearchFunc_int4_r3 : LL := [qm 15 9,qm 16 10,qo .lss 17 15 16]
@[go_sem] def c_slices_BinarySearchFunc_int4_r4 : LL := [qm 18 9,qm 19 10,qo .add 20 18 19,⟨some 21,.conv .u64 (.t 20),none⟩,⟨some 22,.bin .shr (.t 21) (.k (.int .u64 (1))),none⟩,⟨some 23,.conv .i64 (.t 22),none⟩,qm 11 23]
@[go_sem] def c_slices_BinarySearchFunc_int4_r5 : LL := [qm 24 2,qm 25 0,qm 26 11,qd 27 1 25 26,ql 28 1 27,qm 29 1,⟨some 30,.callv (.t 24) [.t 28,.t 29],none⟩,qk .lss 31 30 0]
@[go_sem] def c_slices_BinarySearchFunc_int4_r6 : LL := [qm 32 11,qk .add 33 32 1,qm 9 33]
@[go_sem] def c_slices_BinarySearchFunc_int4_r7 : LL := [qm 34 11,qm 10 34]
def c_slices_BinarySearchFunc_int4_b8 : LC := (.seq (.seq (.reg c_slices_BinarySearchFunc_int4_r3 [0,1,2,8,9,10,17]) (.cond (.t 17) .skip (.exit 0))) (.block 1 (.seq (.reg c_slices_BinarySearchFunc_int4_r4 [0,1,2,8,9,10,11]) (.seq (.reg c_slices_BinarySearchFunc_int4_r5 [0,1,2,8,9,10,11,31]) (.cond (.t 31) (.reg c_slices_BinarySearchFunc_int4_r6 [0,1,2,8,9,10]) (.reg c_slices_BinarySearchFunc_int4_r7 [0,1,2,8,9,10]))))))
@[go_sem] def c_slices_BinarySearchFunc_int4_r9 : LL := [qm 35 9,qm 36 9,qm 37 8,qo .lss 38 36 37,qm 39 38,qg 39 true (qm 40 2),qg 39 true (qm 41 0),qg 39 true (qm 42 9),qg 39 true (qd 43 1 41 42),qg 39 true (ql 44 1 43),
 qg 39 true (qm 45 1),⟨some 46,.callv (.t 40) [.t 44,.t 45],some (39,true)⟩,qg 39 true (qk .eql 47 46 0),qP 48 39 47,qm 6 35,qm 7 48]
@[go_sem] def c_slices_BinarySearchFunc_int4 (F : Fn) : LC := (.seq (.reg c_slices_BinarySearchFunc_int4_r0 [0,1,2]) (.seq (.reg c_slices_BinarySearchFunc_int4_r1 [0,1,2,8]) (.seq (.reg c_slices_BinarySearchFunc_int4_r2 [0,1,2,8,9,10]) (.seq (.block 0 (.loop [0,1,2,8,9,10] c_slices_BinarySearchFunc_int4_b8)) (.seq (.reg c_slices_BinarySearchFunc_int4_r9 [6,7]) .ret)))))
def h_slices_BinarySearchFunc_int4 : Hints := hOf [] (c_slices_BinarySearchFunc_int4 fun _ => 0)
@[go_sem] def c_slices_Grow_I_r0 : LL := [qn 4 1]
@[go_sem] def c_slices_Grow_I_r1 : LL := [qm 5 1,qk .lss 6 5 0]
@[go_sem] def c_slices_Grow_I_r2 : LL := [⟨some 7,.bad,none⟩,⟨none,.bad,none⟩]
@[go_sem] def c_slices_Grow_I_r3 : LL := [qm 8 1,qm 9 0,⟨some 10,.cap (.t 9),none⟩,qm 11 0,qz 12 11,qo .sub 13 10 12,qo .sub 14 8 13,qm 1 14]
@[go_sem] def c_slices_Grow_I_r4 : LL := [qm 15 1,qk .gtr 16 15 0]
@[go_sem] def c_slices_Grow_I_r5 : LL := [qm 17 0,qm 18 0,⟨some 19,.cap (.t 18),none⟩,⟨some 20,.slc 1 (.t 17) none (some (.t 19)),none⟩,qm 21 1,⟨some 22,.appz 1 8 (.int .i64 (0)) (.t 20) (.t 21),none⟩,qm 23 0,
 qz 24 23,⟨some 25,.slc 1 (.t 22) none (some (.t 24)),none⟩,qm 0 25]
@[go_sem] def c_slices_Grow_I_r6 : LL := [qm 26 0,qm 4 26]
@[go_sem] def c_slices_Grow_I (F : Fn) : LC := (.seq (.reg c_slices_Grow_I_r0 [0,1]) (.seq (.seq (.reg c_slices_Grow_I_r1 [0,1,6]) (.cond (.t 6) (.reg c_slices_Grow_I_r2 [0,1]) .skip)) (.seq (.seq (.reg c_slices_Grow_I_r3 [0,1]) (.seq (.reg c_slices_Grow_I_r4 [0,1,16]) (.cond (.t 16) (.reg c_slices_Grow_I_r5 [0]) .skip))) (.seq (.reg c_slices_Grow_I_r6 [4]) .ret))))
def h_slices_Grow_I : Hints := hOf [] (c_slices_Grow_I fun _ => 0)
@[go_sem] def c_slices_Concat_I_r0 : LL := [qn 2 1]
@[go_sem] def c_slices_Concat_I_r1 : LL := [qi 3 0]
@[go_sem] def c_slices_Concat_I_r2 : LL := [qm 9 0,qz 10 9,qi 11 0]
@[go_sem] def c_slices_Concat_I_r3 : LL := [qo .lss 12 11 10]
@[go_sem] def c_slices_Concat_I_r4 : LL := [qd 13 1 9 11,ql 14 1 13,qm 5 14]
@[go_sem] def c_slices_Concat_I_r5 : LL := [qm 15 3,qm 16 5,qz 17 16,qo .add 18 15 17,qm 3 18]
@[go_sem] def c_slices_Concat_I_r6 : LL := [qm 19 3,qk .lss 20 19 0]
@[go_sem] def c_slices_Concat_I_r7 : LL := [⟨some 21,.bad,none⟩,⟨none,.bad,none⟩]
@[go_sem] def c_slices_Concat_I_r8 : LL := [qk .add 22 11 1,qm 11 22]
def c_slices_Concat_I_b9 : LC := (.seq (.reg c_slices_Concat_I_r3 [0,3,9,10,11,12]) (.seq (.cond (.t 12) .skip (.exit 0)) (.seq (.block 1 (.seq (.reg c_slices_Concat_I_r4 [0,3,5,9,10,11]) (.seq (.reg c_slices_Concat_I_r5 [0,3,9,10,11]) (.seq (.reg c_slices_Concat_I_r6 [0,3,9,10,11,20]) (.cond (.t 20) (.reg c_slices_Concat_I_r7 [0,3,9,10,11]) .skip))))) (.reg c_slices_Concat_I_r8 [0,3,9,10,11]))))
@[go_sem] def c_slices_Concat_I_r10 (F : Fn) : LL := [qm 23 3,qc 24 (F "slices.Grow.I") [.k (.nl 0),.t 23],qm 6 24]
@[go_sem] def c_slices_Concat_I_r11 : LL := [qm 25 0,qz 26 25,qi 27 0]
@[go_sem] def c_slices_Concat_I_r12 : LL := [qo .lss 28 27 26]
@[go_sem] def c_slices_Concat_I_r13 : LL := [qd 29 1 25 27,ql 30 1 29,qm 8 30]
@[go_sem] def c_slices_Concat_I_r14 : LL := [qm 31 6,qm 32 8,qp 33 1 8 31 32,qm 6 33]
@[go_sem] def c_slices_Concat_I_r15 : LL := [qk .add 34 27 1,qm 27 34]
def c_slices_Concat_I_b16 : LC := (.seq (.reg c_slices_Concat_I_r12 [6,25,26,27,28]) (.seq (.cond (.t 28) .skip (.exit 2)) (.seq (.block 3 (.seq (.reg c_slices_Concat_I_r13 [6,8,25,26,27]) (.reg c_slices_Concat_I_r14 [6,25,26,27]))) (.reg c_slices_Concat_I_r15 [6,25,26,27]))))
@[go_sem] def c_slices_Concat_I_r17 : LL := [qm 35 6,qm 2 35]
@[go_sem] def c_slices_Concat_I (F : Fn) : LC := (.seq (.reg c_slices_Concat_I_r0 [0]) (.seq (.reg c_slices_Concat_I_r1 [0,3]) (.seq (.seq (.reg c_slices_Concat_I_r2 [0,3,9,10,11]) (.block 0 (.loop [0,3,9,10,11] c_slices_Concat_I_b9))) (.seq (.reg (c_slices_Concat_I_r10 F) [0,6]) (.seq (.seq (.reg c_slices_Concat_I_r11 [6,25,26,27]) (.block 2 (.loop [6,25,26,27] c_slices_Concat_I_b16))) (.seq (.reg c_slices_Concat_I_r17 [2]) .ret))))))
def h_slices_Concat_I : Hints := hOf [] (c_slices_Concat_I fun _ => 0)
structure Cmp {α : Type} (c : α → α → Int) : Prop where
 neg : ∀ a b, c b a = - c a b
 eq : ∀ a b, c a b = 0 → a = b
 tr : ∀ a b d, c a b < 0 → c b d < 0 → c a d < 0
def sgn (x : Int) : Int := if x < 0 then -1 else if 0 < x then 1 else 0
def scmp : List Int → List Int → Int
 | [], [] => 0
 | [], _ :: _ => -1
 | _ :: _, [] => 1
 | a :: as, b :: bs => if a = b then scmp as bs else sgn (a - b)
def iis (l : List (List Int)) : List D := l.map fun x => .lst 1 (ints x)
theorem iis_length (l : List (List Int)) : (iis l).length = l.length := by simp [iis]
theorem iis_get {l : List (List Int)} {i : Nat} (h : i < l.length) : (iis l)[i]? = some (.lst 1 (ints (gt l (i : Int)))) := by
 rw [gt_nat h]
 simp [iis, h]
theorem iis_getI {l : List (List Int)} {j : Int} (h0 : 0 ≤ j) (h : j < l.length) : (iis l)[j.toNat]? = some (.lst 1 (ints (gt l j))) := by
 have := iis_get (l := l) (i := j.toNat) (by omega)
 rw [this, show ((j.toNat : Nat) : Int) = j by omega]
theorem iis_set {l : List (List Int)} {i : Nat} {x : List Int} : (iis l).set i (.lst 1 (ints x)) = iis (l.set i x) := by simp [iis, List.map_set]
theorem iis_app (l m : List (List Int)) : iis l ++ iis m = iis (l ++ m) := by simp [iis]
theorem iis_snoc (l : List (List Int)) (x : List Int) : iis l ++ [.lst 1 (ints x)] = iis (l ++ [x]) := by simp [iis]
theorem iis_take {l : List (List Int)} {n : Nat} : (iis l).take n = iis (l.take n) := by simp [iis, List.map_take]
theorem iis_drop {l : List (List Int)} {n : Nat} : (iis l).drop n = iis (l.drop n) := by simp [iis, List.map_drop]
theorem iis_nil : iis [] = [] := id rfl
attribute [go_sem] iis_length iis_get iis_getI iis_set iis_app iis_snoc iis_take iis_drop
def keptL (l : List (List Int)) (i : Nat) : Bool := decide (i = 0) || decide (gt l (i : Int) ≠ gt l ((i : Int) - 1))
def kpL (l : List (List Int)) (n : Nat) : List (List Int) := ((List.range n).filter (keptL l)).map fun i : Nat => gt l (i : Int)
def cptL (l : List (List Int)) : List (List Int) := kpL l l.length
def below (S : List (List Int)) (t : List Int) : Nat := (S.filter fun x => decide (scmp x t < 0)).length
section
variable (P : Program) (F : String → Nat)
def K_cmp_Compare_I : Prop := ∀ x y : Int, FC P (F "cmp.Compare.I") [.int .i64 x, .int .i64 y] (.int .i64 (if x = y then 0 else sgn (x - y))) []
def K_slices_Compare_I : Prop := ∀ a b : List Int, a.length ≤ 1000000 → b.length ≤ 1000000 → FC P (F "slices.Compare.I") [.lst 1 (ints a), .lst 1 (ints b)] (.int .i64 (scmp a b)) []
def K_slices_SortFunc_int3 : Prop := ∀ (l S : List (List Int)) (g : Nat) (c : List Int → List Int → Int), l.length ≤ 1000000 → Cmp c → S.Perm l → S.Pairwise (fun a b => c a b ≤ 0) → (∀ x ∈ l, ∀ y ∈ l, FC P g [.lst 1 (ints x), .lst 1 (ints y)] (.int .i64 (c x y)) []) → FC P (F "slices.SortFunc.int3") [.arr 1 (iis l), .clo g []] (.tup []) [(0, .arr 1 (iis S))]
def K_slices_Clone_int3 : Prop := ∀ l : List (List Int), l.length ≤ 1000000 → FC P (F "slices.Clone.int3") [.lst 1 (iis l)] (.arr 1 (iis l)) []
def K_slices_CompactFunc_int3 : Prop := ∀ (l : List (List Int)) (g : Nat), l.length ≤ 1000000 → (∀ x ∈ l, ∀ y ∈ l, FC P g [.lst 1 (ints x), .lst 1 (ints y)] (.bool (decide (x = y))) []) → FC P (F "slices.CompactFunc.int3") [.arr 1 (iis l), .clo g []] (.arr 1 (iis (cptL l))) []
def K_slices_BinarySearchFunc_int4 : Prop := ∀ (S : List (List Int)) (t : List Int) (g : Nat), S.length ≤ 1000000 → S.Pairwise (fun a b => scmp a b < 0) → (∀ x ∈ S, FC P g [.lst 1 (ints x), .lst 1 (ints t)] (.int .i64 (scmp x t)) []) → FC P (F "slices.BinarySearchFunc.int4") [.lst 1 (iis S), .lst 1 (ints t), .clo g []] (.tup [.int .i64 (below S t), .bool (decide (t ∈ S))]) []
def K_slices_Grow_I : Prop := ∀ n : Nat, n ≤ 10000000000000 → FC P (F "slices.Grow.I") [.nl 1, .int .i64 n] (.arr 1 []) []
def K_slices_Concat_I : Prop := ∀ l : List (List Int), l.length ≤ 1000000 → (∀ x ∈ l, x.length ≤ 1000000) → FC P (F "slices.Concat.I") [.lst 1 (iis l)] (.arr 1 (ints l.flatten)) []
end
section
variable {α : Type}
theorem sgn_neg (x : Int) : sgn (-x) = - sgn x := by unfold sgn; split <;> split <;> (try split) <;> (try split) <;> omega
theorem sgn_lt {x : Int} : sgn x < 0 ↔ x < 0 := by unfold sgn; split <;> (try split) <;> omega
theorem sgn_zero {x : Int} : sgn x = 0 ↔ x = 0 := by unfold sgn; split <;> (try split) <;> omega
theorem scmp_neg : ∀ a b, scmp b a = - scmp a b
 | [], [] => rfl
 | [], _ :: _ => rfl
 | _ :: _, [] => rfl
 | a :: as, b :: bs => by
  simp only [scmp]
  by_cases h : a = b
  ·subst h; simp only [if_true]; exact scmp_neg as bs
  ·rw [if_neg h, if_neg (fun e => h e.symm), ← sgn_neg]; congr 1; omega
theorem scmp_eq : ∀ a b, scmp a b = 0 → a = b
 | [], [], _ => rfl
 | [], _ :: _, h => by simp [scmp] at h
 | _ :: _, [], h => by simp [scmp] at h
 | a :: as, b :: bs, e => by
  simp only [scmp] at e
  split at e
  ·rename_i h1; rw [h1, scmp_eq as bs e]
  ·have := sgn_zero.1 e; omega
theorem scmp_self : ∀ a, scmp a a = 0
 | [] => rfl
 | a :: l => by simp only [scmp, if_true]; exact scmp_self l
theorem scmp_tr : ∀ a b d, scmp a b < 0 → scmp b d < 0 → scmp a d < 0
 | [], [], _, h, _ => by simp [scmp] at h
 | [], _ :: _, [], _, h => by simp [scmp] at h
 | [], _ :: _, _ :: _, _, _ => by simp [scmp]
 | _ :: _, [], _, h, _ => by simp [scmp] at h
 | _ :: _, _ :: _, [], _, h => by simp [scmp] at h
 | a :: as, b :: bs, d :: ds, h1, h2 => by
  simp only [scmp] at h1 h2 ⊢
  by_cases e1 : a = b
  ·subst e1
   by_cases e2 : a = d
   ·subst e2
    simp only [if_true] at h1 h2 ⊢
    exact scmp_tr as bs ds h1 h2
   ·rw [if_neg e2] at h2 ⊢; exact h2
  ·rw [if_neg e1] at h1
   by_cases e2 : b = d
   ·subst e2; rw [if_neg e1]; exact h1
   ·rw [if_neg e2] at h2
    have h1 := sgn_lt.1 h1
    have h2 := sgn_lt.1 h2
    rw [if_neg (by omega)]
    exact sgn_lt.2 (by omega)
theorem scmp_cmp : Cmp scmp := ⟨scmp_neg, scmp_eq, scmp_tr⟩
theorem Cmp.lt_le {c : α → α → Int} (hc : Cmp c) {a b d : α} (h : c a b < 0) (k : c b d ≤ 0) : c a d < 0 := by
 by_cases k0 : c b d = 0
 ·rw [← hc.eq _ _ k0]; exact h
 ·exact hc.tr a b d h (by omega)
theorem Cmp.le_lt {c : α → α → Int} (hc : Cmp c) {a b d : α} (h : c a b ≤ 0) (k : c b d < 0) : c a d < 0 := by
 by_cases h0 : c a b = 0
 ·rw [hc.eq _ _ h0]; exact k
 ·exact hc.tr a b d (by omega) k
theorem sorted_one {c : α → α → Int} (hc : Cmp c) : ∀ {a b : List α}, a.Pairwise (fun x y => c x y ≤ 0) → b.Pairwise (fun x y => c x y ≤ 0) → a.Perm b → a = b
 | [], b, _, _, h => (List.nil_perm.1 h).symm
 | x :: a, [], _, _, h => by simpa using h.length_eq
 | x :: a, y :: b, h1, h2, h => by
  rw [List.pairwise_cons] at h1 h2
  have hxy : x = y := by
   have hx : x ∈ y :: b := h.mem_iff.1 (by simp)
   have hy : y ∈ x :: a := h.mem_iff.2 (by simp)
   rcases List.mem_cons.1 hx with e | hx
   ·exact e
   ·rcases List.mem_cons.1 hy with e | hy
    ·exact e.symm
    ·have q1 := h2.1 x hx
     have q2 := h1.1 y hy
     have := hc.neg x y
     exact hc.eq _ _ (by omega)
  subst hxy
  rw [sorted_one hc h1.2 h2.2 (List.perm_cons x |>.1 h)]
theorem kpL_succ (l : List (List Int)) (n : Nat) : kpL l (n + 1) = if keptL l n = true then kpL l n ++ [gt l (n : Int)] else kpL l n := by
 unfold kpL
 rw [List.range_succ, List.filter_append, List.map_append]
 simp only [List.filter_cons, List.filter_nil]
 split <;> simp
theorem kpL_mem (l : List (List Int)) : ∀ n, n ≤ l.length → ∀ x, x ∈ kpL l n ↔ x ∈ l.take n
 | 0, _, x => by simp [kpL]
 | n + 1, h, x => by
  have ih := kpL_mem l n (by omega)
  rw [kpL_succ, take_gt (by omega)]
  split
  ·simp only [List.mem_append, ih]
  ·rename_i hk
   rw [ih, List.mem_append]
   refine ⟨.inl, fun hx => hx.elim id fun hx => ?_⟩
   simp only [List.mem_singleton] at hx
   subst hx
   simp only [keptL, Bool.or_eq_true, decide_eq_true_eq, not_or, ne_eq, Decidable.not_not] at hk
   rw [hk.2, show ((n : Int) - 1) = ((n - 1 : Nat) : Int) by omega, gt_nat (by omega)]
   rw [List.mem_take_iff_getElem]
   exact ⟨n - 1, by omega, rfl⟩
theorem cptL_mem {l : List (List Int)} {x : List Int} : x ∈ cptL l ↔ x ∈ l := by
 rw [cptL, kpL_mem l l.length (Nat.le_refl _), List.take_length]
theorem kpL_sub (l : List (List Int)) : ∀ n, n ≤ l.length → (kpL l n).Sublist (l.take n)
 | 0, _ => by simp [kpL]
 | n + 1, h => by
  rw [kpL_succ, take_gt (by omega)]
  split
  ·exact (kpL_sub l n (by omega)).append (List.Sublist.refl _)
  ·exact (kpL_sub l n (by omega)).trans (List.sublist_append_left _ _)
theorem kpL_strict {l : List (List Int)} (hs : l.Pairwise (fun a b => scmp a b ≤ 0)) : ∀ n, n ≤ l.length → (kpL l n).Pairwise (fun a b => scmp a b < 0)
 | 0, _ => by simp [kpL]
 | n + 1, h => by
  have ih := kpL_strict hs n (by omega)
  rw [kpL_succ]
  split
  ·rename_i hk
   rw [List.pairwise_append]
   refine ⟨ih, by simp, fun a ha b hb => ?_⟩
   simp only [List.mem_singleton] at hb
   subst hb
   have hm := (kpL_mem l n (by omega) a).1 ha
   rw [List.mem_take_iff_getElem] at hm
   obtain ⟨i, hi, rfl⟩ := hm
   have hin : i < n := by omega
   have hnl : n < l.length := by omega
   rw [gt_nat hnl]
   rw [List.pairwise_iff_getElem] at hs
   have h1 := hs (n - 1) n (by omega) hnl (by omega)
   have hne : l[n] ≠ l[n - 1] := by
    simp only [keptL, Bool.or_eq_true, decide_eq_true_eq] at hk
    rcases hk with hk | hk
    ·omega
    ·rw [gt_nat hnl, show ((n : Int) - 1) = ((n - 1 : Nat) : Int) by omega, gt_nat (by omega)] at hk
     exact hk
   have h2 : scmp l[n - 1] l[n] < 0 := by
    have : scmp l[n - 1] l[n] ≠ 0 := fun e => hne (scmp_eq _ _ e).symm
    omega
   by_cases e : i = n - 1
   ·subst e; exact h2
   ·exact scmp_cmp.le_lt (hs i (n - 1) (by omega) (by omega) (by omega)) h2
  ·exact ih
theorem cptL_strict {l : List (List Int)} (hs : l.Pairwise (fun a b => scmp a b ≤ 0)) : (cptL l).Pairwise (fun a b => scmp a b < 0) := kpL_strict hs _ (Nat.le_refl _)
theorem cptL_len (l : List (List Int)) : (cptL l).length ≤ l.length := by
 have := (kpL_sub l l.length (Nat.le_refl _)).length_le
 rw [List.take_length] at this
 exact this
theorem below_split {S : List (List Int)} (hs : S.Pairwise (fun a b => scmp a b < 0)) (t : List Int) : ∀ i, i < S.length → (scmp (gt S (i : Int)) t < 0 ↔ i < below S t) := by
 induction S with
 | nil => intro i h; simp at h
 | cons a S ih =>
  rw [List.pairwise_cons] at hs
  intro i h
  by_cases ha : scmp a t < 0
  ·have hb : below (a :: S) t = below S t + 1 := by simp [below, List.filter_cons, ha]
   cases i with
   | zero => rw [gt_nat h, hb]; simpa using ha
   | succ i =>
    have := ih hs.2 i (by simpa using h)
    rw [gt_nat (by simpa using h)] at this
    rw [gt_nat h, hb]
    simp only [List.getElem_cons_succ, Nat.add_lt_add_iff_right]
    exact this
  ·have hb : below (a :: S) t = 0 := by
    simp only [below, List.length_eq_zero_iff, List.filter_eq_nil_iff, decide_eq_true_eq]
    intro x hx
    rcases List.mem_cons.1 hx with rfl | hx
    ·exact ha
    ·intro hxt
     exact ha (scmp_tr _ _ _ (hs.1 x hx) hxt)
   rw [hb]
   refine ⟨fun hlt => ?_, fun h => by omega⟩
   exfalso
   rw [gt_nat h] at hlt
   cases i with
   | zero => exact ha (by simpa using hlt)
   | succ i =>
    simp only [List.getElem_cons_succ] at hlt
    exact ha (scmp_tr _ _ _ (hs.1 _ (List.getElem_mem _)) hlt)
theorem below_le (S : List (List Int)) (t : List Int) : below S t ≤ S.length := List.length_filter_le _ _
end
section
variable {P : Program} {F : String → Nat} {α : Type}
theorem w_cmp_Compare_I (hn : K_cmp_isNaN_I P F) (x y : Int) : W P (c_cmp_Compare_I F) (Done [.t 4] [] (.int .i64 (if x = y then 0 else sgn (x - y))) []) (init [.int .i64 x, .int .i64 y]) := by
 refine W_of ?_
 simp (disch := omega) only [go_sem, ↓reduceIte]
 refine call_by (hn x) ?_
 simp (disch := omega) only [go_sem, ↓reduceIte]
 refine call_by (hn y) ?_
 rcases Int.lt_trichotomy x y with h | h | h
 ·have d1 : decide (x < y) = true := decide_eq_true h
  simp (disch := omega) only [go_sem, ↓reduceIte, d1]
  rw [if_neg (by omega), sgn, if_pos (by omega)]
 ·subst h
  have d1 : decide (x < x) = false := decide_eq_false (by omega)
  simp (disch := omega) only [go_sem, ↓reduceIte, d1]
  try rw [if_pos rfl]
 ·have d1 : decide (x < y) = false := decide_eq_false (by omega)
  have d2 : decide (y < x) = true := decide_eq_true h
  simp (disch := omega) only [go_sem, ↓reduceIte, d1, d2]
  rw [if_neg (by omega), sgn, if_neg (by omega), if_pos (by omega)]
theorem scmp_nil {b : List Int} : scmp [] b = if b.length = 0 then 0 else -1 := by cases b <;> simp [scmp]
theorem w_slices_Compare_I (hc : K_cmp_Compare_I P F) (a b : List Int) (h1 : a.length ≤ 1000000) (h2 : b.length ≤ 1000000) : W P (c_slices_Compare_I F) (Done [.t 4] [] (.int .i64 (scmp a b)) []) (init [.lst 1 (ints a), .lst 1 (ints b)]) := by
 refine W_of ?_
 simp (disch := omega) only [go_sem, ↓reduceIte]
 refine W_loop (fun i : Nat => ⟨[(0, .lst 1 (ints a)), (1, .lst 1 (ints b)), (9, .lst 1 (ints a)), (10, .int .i64 a.length), (11, .int .i64 i)], [], 0⟩) (fun i => i ≤ a.length ∧ i ≤ b.length ∧ scmp a b = scmp (a.drop i) (b.drop i)) (fun i => a.length - i) 0 ?_ ?_ ?_
 ·simp (disch := omega) only [go_sem, ↓reduceIte]
  rfl
 ·simp
 ·intro i hi
  by_cases c : i < a.length
  ·have d1 : decide ((i : Int) < a.length) = true := decide_eq_true (by omega)
   by_cases e : i < b.length
   ·have d2 : decide ((b.length : Int) ≤ i) = false := decide_eq_false (by omega)
    have st : scmp (a.drop i) (b.drop i) = if gt a i = gt b i then scmp (a.drop (i + 1)) (b.drop (i + 1)) else sgn (gt a i - gt b i) := by rw [drop_gt c, drop_gt e]; rfl
    have r1 := hc (gt a i) (gt b i)
    by_cases f : gt a i = gt b i
    ·rw [if_pos f] at r1 st
     simp (disch := omega) only [go_sem, ↓reduceIte, c_slices_Compare_I_b11, d1, d2]
     refine call_by r1 ?_
     have d3 : decide ((0 : Int) = 0) = true := rfl
     simp (disch := omega) only [go_sem, ↓reduceIte, d3]
     exact ⟨i + 1, by simp, ⟨by omega, by omega, by rw [hi.2.2, st]⟩, by omega⟩
    ·rw [if_neg f] at r1 st
     have d3 : decide (sgn (gt a i - gt b i) = 0) = false := decide_eq_false (by unfold sgn; split <;> (try split) <;> omega)
     simp (disch := omega) only [go_sem, ↓reduceIte, c_slices_Compare_I_b11, d1, d2]
     refine call_by r1 ?_
     generalize sgn (gt a i - gt b i) = z at *
     simp (disch := omega) only [go_sem, ↓reduceIte, d3]
     rw [hi.2.2, st]
   ·have d2 : decide ((b.length : Int) ≤ i) = true := decide_eq_true (by omega)
    simp (disch := omega) only [go_sem, ↓reduceIte, c_slices_Compare_I_b11, d1, d2]
    rw [hi.2.2, drop_gt c, List.drop_of_length_le (l := b) (by omega)]
    rfl
  ·have d1 : decide ((i : Int) < a.length) = false := decide_eq_false (by omega)
   obtain rfl : i = a.length := by omega
   have hs : scmp a b = if (b.length : Nat) = a.length then 0 else -1 := by
    rw [hi.2.2, List.drop_length, scmp_nil, List.length_drop]
    by_cases e : b.length = a.length
    ·rw [if_pos (by omega), if_pos e]
    ·rw [if_neg (by omega), if_neg e]
   by_cases e : a.length < b.length
   ·have d2 : decide ((a.length : Int) < b.length) = true := decide_eq_true (by omega)
    rw [if_neg (by omega)] at hs
    simp (disch := omega) only [go_sem, ↓reduceIte, c_slices_Compare_I_b11, d1, d2]
    rw [hs]
   ·have d2 : decide ((a.length : Int) < b.length) = false := decide_eq_false (by omega)
    rw [if_pos (by omega)] at hs
    simp (disch := omega) only [go_sem, ↓reduceIte, c_slices_Compare_I_b11, d1, d2]
    rw [hs]
theorem w_slices_Clone_int3 (l : List (List Int)) (hl : l.length ≤ 1000000) : W P (c_slices_Clone_int3 F) (Done [.t 2] [] (.arr 1 (iis l)) []) (init [.lst 1 (iis l)]) := by
 refine W_of ?_
 simp (disch := omega) only [go_sem, ↓reduceIte]
 refine nil_by (fun h => ?_) (fun _ => ?_)
 ·have : l = [] := by simpa [iis] using h
  subst this
  simp (disch := omega) only [go_sem, ↓reduceIte, iis_nil]
 ·simp (disch := omega) only [go_sem, ↓reduceIte]
theorem w_slices_CompactFunc_int3 (l : List (List Int)) (g : Nat) (hl : l.length ≤ 1000000) (hg : ∀ x ∈ l, ∀ y ∈ l, FC P g [.lst 1 (ints x), .lst 1 (ints y)] (.bool (decide (x = y))) []) : W P (c_slices_CompactFunc_int3 F) (Done [.t 4] [] (.arr 1 (iis (cptL l))) []) (init [.arr 1 (iis l), .clo g []]) := by
 refine W_of ?_
 simp (disch := omega) only [go_sem, ↓reduceIte]
 refine bran_dec (fun c => ?_) (fun c => ?_)
 ·have : cptL l = l := by
   match l, c with
   | [], _ => rfl
   | [x], _ => simp [cptL, kpL, keptL, List.range_succ, gt]
   | x :: y :: l, c => simp at c; omega
  simp (disch := omega) only [go_sem, ↓reduceIte]
  rw [this]
 ·simp (disch := omega) only [go_sem, ↓reduceIte]
  refine W_loop (fun k : Nat => ⟨[(0, .sl 0 0 l.length), (1, .clo g []), (5, .int .i64 k)], [(0, .arr 1 (iis l))], 1⟩) (fun k => 1 ≤ k ∧ k ≤ l.length ∧ kpL l k = l.take k) (fun k => l.length - k) 1 ?_ ?_ ?_
  ·simp (disch := omega) only [go_sem, ↓reduceIte]
   rfl
  ·refine ⟨by omega, by omega, ?_⟩
   rw [kpL_succ, if_pos (by simp [keptL]), take_gt (by omega)]
   rfl
  ·rintro k ⟨h1, h2, h3⟩
   have hs := kpL_succ l k
   simp (disch := omega) only [go_sem, ↓reduceIte, c_slices_CompactFunc_int3_b17]
   refine bran_dec (fun d => ?_) (fun d => ?_)
   ·have rg := hg (gt l (k : Int)) (gt_mem (by omega) (by omega)) (gt l ((k : Int) - 1)) (gt_mem (by omega) (by omega))
    simp (disch := omega) only [go_sem, ↓reduceIte]
    refine call_by rg ?_
    simp (disch := omega) only [go_sem, ↓reduceIte]
    refine bran_dec (fun e => ?_) (fun e => ?_)
    ·rw [if_neg (by simp [keptL, e]; omega)] at hs
     simp (disch := omega) only [go_sem, ↓reduceIte]
     refine W_loop (fun s : Nat × Nat × List (List Int) => ⟨[(0, .sl 0 0 l.length), (1, .clo g []), (5, .int .i64 s.2.1), (6, .sl 0 k (l.length - k)), (7, .int .i64 s.1)], [(0, .arr 1 (iis s.2.2))], 1⟩)
      (fun s => 1 ≤ s.1 ∧ k + s.1 ≤ l.length ∧ s.2.1 + 1 ≤ k + s.1 ∧ s.2.2.length = l.length ∧ s.2.2.take s.2.1 = kpL l (k + s.1) ∧ s.2.2.drop (k + s.1 - 1) = l.drop (k + s.1 - 1)) (fun s => l.length - s.1) (1, k, l) ?_ ?_ ?_
     ·simp (disch := omega) only [go_sem, ↓reduceIte]
      rfl
     ·exact ⟨by simp, by simp only; omega, by simp, rfl, by simp only; rw [hs, h3], rfl⟩
     ·rintro ⟨j, i, xs⟩ ⟨g1, g2, g3, g4, g5, g6⟩
      simp only at g1 g2 g3 g4 g5 g6
      have hs2 := kpL_succ l (k + j)
      have gat : ∀ m : Nat, k + j - 1 ≤ m → m < l.length → gt xs m = gt l m := fun m hm1 hm2 => by
       have := congrArg (fun l : List (List Int) => l[m - (k + j - 1)]?) g6
       simp only [List.getElem?_drop] at this
       rw [show k + j - 1 + (m - (k + j - 1)) = m by omega, List.getElem?_eq_getElem (by omega), List.getElem?_eq_getElem (by omega)] at this
       rw [gt_nat (by omega), gt_nat (by omega)]
       simpa using this
      simp (disch := omega) only [go_sem, ↓reduceIte, c_slices_CompactFunc_int3_b13, g4]
      refine bran_dec (fun d => ?_) (fun d => ?_)
      ·have e1 := gat (k + j) (by omega) (by omega)
       have e2 : gt xs ((k + ((j : Int) - 1).toNat : Nat) : Int) = gt l (((k + j : Nat) : Int) - 1) := by
        rw [show k + ((j : Int) - 1).toNat = k + j - 1 by omega, gat (k + j - 1) (by omega) (by omega)]
        congr 1
        omega
       have hd : xs.drop (k + j) = l.drop (k + j) := by
        have := congrArg (fun l : List (List Int) => l.drop 1) g6
        simp only [List.drop_drop] at this
        rw [show k + j - 1 + 1 = k + j by omega] at this
        exact this
       have rg := hg (gt l ((k + j : Nat) : Int)) (gt_mem (by omega) (by omega)) (gt l (((k + j : Nat) : Int) - 1)) (gt_mem (by omega) (by omega))
       simp (disch := omega) only [go_sem, ↓reduceIte, g4, e1, e2]
       refine call_by rg ?_
       simp (disch := omega) only [go_sem, ↓reduceIte]
       refine bran_ndec (fun f => ?_) (fun f => ?_)
       ·rw [if_pos (by unfold keptL; rw [Bool.or_eq_true]; exact .inr (decide_eq_true f))] at hs2
        simp (disch := omega) only [go_sem, ↓reduceIte, g4, e1]
        refine ⟨(j + 1, i + 1, xs.set i (gt l ((k + j : Nat) : Int))), by simp, ⟨by simp only; omega, by simp only; omega, by simp only; omega, by simp [g4], ?_, ?_⟩, by simp only; omega⟩
        ·simp only
         rw [← Nat.add_assoc, hs2, ← g5, List.take_succ_eq_append_getElem (by simp; omega), List.take_set_of_le (Nat.le_refl _)]
         simp
        ·simp only
         rw [show k + (j + 1) - 1 = k + j by omega, List.drop_set_of_lt (by omega), hd]
       ·rw [if_neg (by unfold keptL; simp only [Bool.or_eq_true, decide_eq_true_eq, not_or, ne_eq, Decidable.not_not]; exact ⟨by omega, f⟩)] at hs2
        simp (disch := omega) only [go_sem, ↓reduceIte, g4]
        refine ⟨(j + 1, i, xs), by simp, ⟨by simp only; omega, by simp only; omega, by simp only; omega, g4, ?_, ?_⟩, by simp only; omega⟩
        ·simp only
         rw [← Nat.add_assoc, hs2, ← g5]
        ·simp only
         rw [show k + (j + 1) - 1 = k + j by omega, hd]
      ·have hi : (xs.take i).length = i := by simp; omega
       have hkj : k + j = l.length := by omega
       simp (disch := omega) only [go_sem, ↓reduceIte, g4, hi, Nat.sub_zero]
       rw [g5, hkj, cptL]
    ·rw [if_pos (by simp [keptL, e])] at hs
     simp (disch := omega) only [go_sem, ↓reduceIte]
     exact ⟨k + 1, by simp, ⟨by omega, by omega, by rw [hs, h3, take_gt (by omega)]⟩, by omega⟩
   ·obtain rfl : k = l.length := by omega
    simp (disch := omega) only [go_sem, ↓reduceIte]
    rw [cptL, h3, List.take_length]
end
@[go_sem] def c_iso_colour_r0 : LL := [qn 2 1,qi 3 0]
@[go_sem] def c_iso_colour_r1 (F : Fn) : LL := [qm 10 0,qc 11 (F "slices.Clone.int3") [.t 10],qm 4 11]
@[go_sem] def c_iso_colour_r2 (F : Fn) : LL := [qm 12 4,⟨some 13,.call (F "slices.SortFunc.int3") [.t 12,.k (.clo (F "slices.Compare.I") [])] [.mu,.rd],none⟩]
@[go_sem] def c_iso_colour_r3 (F : Fn) : LL := [qm 14 4,⟨some 15,.call (F "slices.CompactFunc.int3") [.t 14,.k (.clo (F "slices.Equal.I") [])] [.ow,.rd],none⟩,qm 4 15]
@[go_sem] def c_iso_colour_r4 : LL := [qn 5 1]
@[go_sem] def c_iso_colour_r5 : LL := [qm 16 0,qz 17 16,qi 18 0]
@[go_sem] def c_iso_colour_r6 : LL := [qo .lss 19 18 17]
@[go_sem] def c_iso_colour_r7 : LL := [qd 20 1 16 18,ql 21 1 20,qm 7 21]
@[go_sem] def c_iso_colour_r8 (F : Fn) : LL := [qm 23 4,qm 24 7,⟨some 25,.call (F "slices.BinarySearchFunc.int4") [.t 23,.t 24,.k (.clo (F "slices.Compare.I") [])] [],none⟩,qm 22 25,qx 26 22 0,qx 27 22 1,qm 8 26,qm 9 27]
@[go_sem] def c_iso_colour_r9 : LL := [qm 28 5,qm 29 8,⟨some 30,.buildSl 1 8 (.int .i64 (0)) 1 [(0,.t 29)],none⟩,qp 31 1 8 28 30,qm 5 31]
@[go_sem] def c_iso_colour_r10 : LL := [qk .add 32 18 1,qm 18 32]
def c_iso_colour_b11 (F : Fn) : LC := (.seq (.reg c_iso_colour_r6 [4,5,16,17,18,19]) (.seq (.cond (.t 19) .skip (.exit 0)) (.seq (.block 1 (.seq (.reg c_iso_colour_r7 [4,5,7,16,17,18]) (.seq (.reg (c_iso_colour_r8 F) [4,5,8,16,17,18]) (.reg c_iso_colour_r9 [4,5,16,17,18])))) (.reg c_iso_colour_r10 [4,5,16,17,18]))))
@[go_sem] def c_iso_colour_r12 : LL := [qm 33 5,qm 34 4,qz 35 34,qm 2 33,qm 3 35]
@[go_sem] def c_iso_colour (F : Fn) : LC := (.seq (.reg c_iso_colour_r0 [0]) (.seq (.reg (c_iso_colour_r1 F) [0,4]) (.seq (.reg (c_iso_colour_r2 F) [0,4]) (.seq (.reg (c_iso_colour_r3 F) [0,4]) (.seq (.reg c_iso_colour_r4 [0,4,5]) (.seq (.seq (.reg c_iso_colour_r5 [4,5,16,17,18]) (.block 0 (.loop [4,5,16,17,18] (c_iso_colour_b11 F)))) (.seq (.reg c_iso_colour_r12 [2,3]) .ret)))))))
def h_iso_colour : Hints := hOf [] (c_iso_colour fun _ => 0)
def insL (l : List (List Int)) (x : List Int) : List (List Int) := match l with
 | [] => [x]
 | y :: l => if scmp x y < 0 then x :: y :: l else y :: insL l x
def sortL : List (List Int) → List (List Int)
 | [] => []
 | x :: l => insL (sortL l) x
def dstL (l : List (List Int)) : List (List Int) := cptL (sortL l)
def colL (l : List (List Int)) : List Int := l.map fun s => (below (dstL l) s : Int)
section
variable (P : Program) (F : String → Nat)
def K_iso_colour : Prop := ∀ l : List (List Int), l.length ≤ 1000000 → (∀ x ∈ l, x.length ≤ 1000000) → FC P (F "iso.colour") [.lst 1 (iis l)] (.tup [.arr 1 (ints (colL l)), .int .i64 (dstL l).length]) []
end
section
variable {α : Type}
theorem insL_perm : ∀ (l : List (List Int)) (x : List Int), (insL l x).Perm (x :: l)
 | [], x => .refl _
 | y :: l, x => by
  simp only [insL]
  split
  ·exact .refl _
  ·exact ((insL_perm l x).cons y).trans (.swap x y l)
theorem insL_sorted : ∀ {l : List (List Int)} {x : List Int}, l.Pairwise (fun a b => scmp a b ≤ 0) → (insL l x).Pairwise (fun a b => scmp a b ≤ 0)
 | [], x, _ => by simp [insL]
 | y :: l, x, h => by
  rw [List.pairwise_cons] at h
  simp only [insL]
  split
  ·rename_i hx
   rw [List.pairwise_cons, List.pairwise_cons]
   refine ⟨fun z hz => ?_, h⟩
   rcases List.mem_cons.1 hz with rfl | hz
   ·omega
   ·have := scmp_cmp.lt_le hx (h.1 z hz); omega
  ·rename_i hx
   rw [List.pairwise_cons]
   refine ⟨fun z hz => ?_, insL_sorted h.2⟩
   have hz := (insL_perm l x).mem_iff.1 hz
   rcases List.mem_cons.1 hz with rfl | hz
   ·have := scmp_neg y z; omega
   ·exact h.1 z hz
theorem sortL_perm : ∀ l : List (List Int), (sortL l).Perm l
 | [] => .refl _
 | x :: l => (insL_perm _ x).trans ((sortL_perm l).cons x)
theorem sortL_sorted : ∀ l : List (List Int), (sortL l).Pairwise (fun a b => scmp a b ≤ 0)
 | [] => .nil
 | x :: l => insL_sorted (sortL_sorted l)
theorem dstL_mem {l : List (List Int)} {x : List Int} : x ∈ dstL l ↔ x ∈ l := by
 rw [dstL, cptL_mem, (sortL_perm l).mem_iff]
theorem dstL_strict (l : List (List Int)) : (dstL l).Pairwise (fun a b => scmp a b < 0) := cptL_strict (sortL_sorted l)
theorem dstL_len (l : List (List Int)) : (dstL l).length ≤ l.length := by
 have := cptL_len (sortL l)
 rw [(sortL_perm l).length_eq] at this
 exact this
theorem colL_length (l : List (List Int)) : (colL l).length = l.length := by simp [colL]
end
section
variable {P : Program} {F : String → Nat} {α : Type}
theorem FC.nl {P : Program} {f a b : Nat} {args : List D} {r : D} {outs : List (Nat × D)} (h : FC P f (.nl a :: args) r outs) : FC P f (.nl b :: args) r outs := by
 unfold FC at *
 simp only [DRs, DR] at *
 exact h
theorem half_nat (a b : Nat) : ((a + b : Nat) : Int).fdiv (2 ^ (min (Int.toNat 1) 64)) = ((a + b) / 2 : Nat) := by
 simp only [Int.toNat_one]
 rw [show min 1 64 = 1 from rfl, Int.pow_one, Int.fdiv_eq_ediv_of_nonneg _ (by omega)]
 omega
theorem w_slices_BinarySearchFunc_int4 (S : List (List Int)) (t : List Int) (g : Nat) (hl : S.length ≤ 1000000) (hs : S.Pairwise (fun a b => scmp a b < 0)) (hg : ∀ x ∈ S, FC P g [.lst 1 (ints x), .lst 1 (ints t)] (.int .i64 (scmp x t)) []) :
  W P (c_slices_BinarySearchFunc_int4 F) (Done [.t 6, .t 7] [] (.tup [.int .i64 (below S t), .bool (decide (t ∈ S))]) []) (init [.lst 1 (iis S), .lst 1 (ints t), .clo g []]) := by
 refine W_of ?_
 have hb := below_split hs t
 have hle := below_le S t
 simp (disch := omega) only [go_sem, ↓reduceIte]
 refine W_loop (fun s : Nat × Nat => ⟨[(0, .lst 1 (iis S)), (1, .lst 1 (ints t)), (2, .clo g []), (8, .int .i64 S.length), (9, .int .i64 s.1), (10, .int .i64 s.2)], [], 0⟩) (fun s => s.1 ≤ below S t ∧ below S t ≤ s.2 ∧ s.2 ≤ S.length) (fun s => s.2 - s.1) (0, S.length) ?_ ?_ ?_
 ·simp (disch := omega) only [go_sem, ↓reduceIte]
  rfl
 ·exact ⟨by simp, hle, Nat.le_refl _⟩
 ·rintro ⟨i, j⟩ ⟨h1, h2, h3⟩
  simp only at h1 h2 h3
  simp (disch := omega) only [go_sem, ↓reduceIte, c_slices_BinarySearchFunc_int4_b8]
  refine bran_dec (fun c => ?_) (fun c => ?_)
  ·have e1 : IntKind.u64.wrap ((i : Int) + j) = ((i + j : Nat) : Int) := by
    have : IntKind.u64.wrap ((i : Int) + j) = ((i : Int) + j) % 18446744073709551616 := rfl
    rw [this]; omega
   have e2 := half_nat i j
   have e0 : ((1 : Int) < 0) = False := by simp
   obtain ⟨m, hm⟩ : ∃ m, m = (i + j) / 2 := ⟨_, rfl⟩
   rw [← hm] at e2
   rw [Int.toNat_one] at e2
   have m1 : i ≤ m := by omega
   have m2 : m < j := by omega
   have rg := hg _ (gt_mem (l := S) (j := (m : Int)) (by omega) (by omega))
   have hbm := hb m (by omega)
   generalize scmp (gt S (m : Int)) t = z at *
   clear hm
   simp (disch := omega) only [go_sem, ↓reduceIte, e1, e2, e0]
   refine call_by rg ?_
   simp (disch := omega) only [go_sem, ↓reduceIte]
   refine bran_dec (fun d => ?_) (fun d => ?_)
   ·have := hbm.1 d
    simp (disch := omega) only [go_sem, ↓reduceIte]
    exact ⟨(m + 1, j), by simp, ⟨by simp only; omega, h2, h3⟩, by simp only; omega⟩
   ·have : ¬ m < below S t := fun h => d (hbm.2 h)
    simp (disch := omega) only [go_sem, ↓reduceIte]
    exact ⟨(i, m), by simp, ⟨h1, by simp only; omega, by simp only; omega⟩, by simp only; omega⟩
  ·obtain rfl : i = below S t := by omega
   have hmem : (t ∈ S ↔ below S t < S.length ∧ scmp (gt S (below S t : Int)) t = 0) := by
    constructor
    ·intro ht
     obtain ⟨k, hk, rfl⟩ := List.mem_iff_getElem.1 ht
     have hk2 : ¬ k < below S S[k] := fun h => by
      have := (hb k hk).2 h
      rw [gt_nat hk, scmp_self] at this
      omega
     have hb2 : ¬ below S S[k] < k := fun h => by
      have h3 := hb (below S S[k]) (by omega)
      have h4 : ¬ scmp (gt S (below S S[k] : Int)) S[k] < 0 := fun h => by have := h3.1 h; omega
      rw [gt_nat (by omega)] at h4
      rw [List.pairwise_iff_getElem] at hs
      exact h4 (hs _ _ (by omega) hk h)
     have e : below S S[k] = k := by omega
     rw [e, gt_nat hk]
     exact ⟨hk, scmp_self _⟩
    ·rintro ⟨h, e⟩
     rw [gt_nat h] at e
     rw [← scmp_eq _ _ e]
     exact List.getElem_mem _
   simp (disch := omega) only [go_sem, ↓reduceIte]
   refine bran_dec (fun d => ?_) (fun d => ?_)
   ·have rg := hg _ (gt_mem (l := S) (j := (below S t : Int)) (by omega) (by omega))
    have hz : decide (t ∈ S) = decide (scmp (gt S (below S t : Int)) t = 0) := by
     rw [decide_eq_decide, hmem]
     exact ⟨fun h => h.2, fun h => ⟨by omega, h⟩⟩
    rw [hz]
    generalize scmp (gt S (below S t : Int)) t = z at *
    have d1 : decide ((below S t : Int) < S.length) = true := decide_eq_true d
    simp (disch := omega) only [go_sem, ↓reduceIte, d1]
    refine call_by rg ?_
    simp (disch := omega) only [go_sem, ↓reduceIte]
   ·have hz : decide (t ∈ S) = false := decide_eq_false fun h => d (by have := (hmem.1 h).1; omega)
    have d1 : decide ((below S t : Int) < S.length) = false := decide_eq_false d
    rw [hz]
    simp (disch := omega) only [go_sem, ↓reduceIte, d1]
theorem w_slices_Grow_I (n : Nat) (hn : n ≤ 10000000000000) : W P (c_slices_Grow_I F) (Done [.t 4] [] (.arr 1 []) []) (init [.nl 1, .int .i64 n]) := by
 refine W_of ?_
 simp (disch := omega) only [go_sem, ↓reduceIte]
 refine bran_dec (fun c => ?_) (fun c => ?_)
 ·omega
 ·simp (disch := omega) only [go_sem, ↓reduceIte]
  refine bran_dec (fun c => ?_) (fun c => ?_)
  ·simp (disch := omega) only [go_sem, ↓reduceIte]
   rw [if_neg (by omega)]
   rfl
  ·simp (disch := omega) only [go_sem, ↓reduceIte]
theorem flat_take {l : List (List Int)} {i : Nat} (h : i < l.length) : (l.take (i + 1)).flatten = (l.take i).flatten ++ gt l (i : Int) := by
 rw [take_gt h, List.flatten_append]
 simp
theorem flat_len {l : List (List Int)} {n : Nat} (h : ∀ x ∈ l, x.length ≤ n) : l.flatten.length ≤ l.length * n := by
 induction l with
 | nil => simp
 | cons a l ih =>
  have h1 := h a (by simp)
  have h2 := ih fun x hx => h x (by simp [hx])
  simp only [List.flatten_cons, List.length_append, List.length_cons]
  rw [Nat.add_mul]; omega
theorem w_slices_Concat_I (hg : K_slices_Grow_I P F) (l : List (List Int)) (hl : l.length ≤ 1000000) (hx : ∀ x ∈ l, x.length ≤ 1000000) : W P (c_slices_Concat_I F) (Done [.t 2] [] (.arr 1 (ints l.flatten)) []) (init [.lst 1 (iis l)]) := by
 refine W_of ?_
 have hb : ∀ i, i ≤ l.length → (l.take i).flatten.length ≤ 1000000000000 := fun i hi => by
  have h1 := flat_len (l := l.take i) (n := 1000000) fun x h => hx x (List.mem_of_mem_take h)
  have h2 : (l.take i).length ≤ 1000000 := by simp; omega
  have := Nat.mul_le_mul_right 1000000 h2
  omega
 have hx1 : ∀ i : Nat, i < l.length → (gt l (i : Int)).length ≤ 1000000 := fun i hi => hx _ (gt_mem (by omega) (by omega))
 simp (disch := omega) only [go_sem, ↓reduceIte]
 refine W_loop (fun i : Nat => ⟨[(0, .lst 1 (iis l)), (3, .int .i64 (l.take i).flatten.length), (9, .lst 1 (iis l)), (10, .int .i64 l.length), (11, .int .i64 i)], [], 0⟩) (fun i => i ≤ l.length) (fun i => l.length - i) 0 ?_ ?_ ?_
 ·simp (disch := omega) only [go_sem, ↓reduceIte]
  rfl
 ·omega
 ·intro i hi
  have hbi := hb i hi
  simp (disch := omega) only [go_sem, ↓reduceIte, c_slices_Concat_I_b9]
  refine bran_dec (fun c => ?_) (fun c => ?_)
  ·have h1 := hx1 i (by omega)
   have h2 := flat_take (l := l) (i := i) (by omega)
   have h3 : (l.take (i + 1)).flatten.length = (l.take i).flatten.length + (gt l (i : Int)).length := by rw [h2, List.length_append]
   generalize (l.take i).flatten.length = n at *
   simp (disch := omega) only [go_sem, ↓reduceIte]
   refine bran_dec (fun c => by omega) (fun c => ?_)
   simp (disch := omega) only [go_sem, ↓reduceIte]
   exact ⟨i + 1, by simp [h3], by omega, by omega⟩
  ·obtain rfl : i = l.length := by omega
   have r := FC.nl (b := 0) (hg (l.take l.length).flatten.length (by omega))
   generalize (l.take l.length).flatten.length = n at *
   simp (disch := omega) only [go_sem, ↓reduceIte]
   refine call_by r ?_
   simp (disch := omega) only [go_sem, ↓reduceIte]
   refine W_loop (fun i : Nat => ⟨[(6, .sl 0 0 (l.take i).flatten.length), (25, .lst 1 (iis l)), (26, .int .i64 l.length), (27, .int .i64 i)], [(0, .arr 1 (ints (l.take i).flatten))], 1⟩) (fun i => i ≤ l.length) (fun i => l.length - i) 0 ?_ ?_ ?_
   ·simp (disch := omega) only [go_sem, ↓reduceIte]
    rfl
   ·omega
   ·intro i hi
    have hbi := hb i hi
    simp (disch := omega) only [go_sem, ↓reduceIte, c_slices_Concat_I_b16]
    refine bran_dec (fun c => ?_) (fun c => ?_)
    ·have h1 := hx1 i (by omega)
     have h2 := flat_take (l := l) (i := i) (by omega)
     simp (disch := omega) only [go_sem, ↓reduceIte]
     exact ⟨i + 1, by simp [h2], by omega, by omega⟩
    ·obtain rfl : i = l.length := by omega
     simp (disch := omega) only [go_sem, ↓reduceIte]
theorem w_iso_colour (hcl : K_slices_Clone_int3 P F) (hso : K_slices_SortFunc_int3 P F) (hco : K_slices_CompactFunc_int3 P F) (hbs : K_slices_BinarySearchFunc_int4 P F) (hcm : K_slices_Compare_I P F) (heq : K_slices_Equal_I P F)
  (l : List (List Int)) (hl : l.length ≤ 1000000) (hx : ∀ x ∈ l, x.length ≤ 1000000) : W P (c_iso_colour F) (Done [.t 2, .t 3] [] (.tup [.arr 1 (ints (colL l)), .int .i64 (dstL l).length]) []) (init [.lst 1 (iis l)]) := by
 refine W_of ?_
 have hsp := sortL_perm l
 have hsl : (sortL l).length = l.length := hsp.length_eq
 have r1 := hcl l hl
 have r2 := hso l (sortL l) (F "slices.Compare.I") scmp hl scmp_cmp hsp (sortL_sorted l) fun x h1 y h2 => hcm x y (hx x h1) (hx y h2)
 have r3 := hco (sortL l) (F "slices.Equal.I") (by omega) fun x h1 y h2 => heq x y (by have := hx x (hsp.mem_iff.1 h1); unfold maxL; omega)
 have hdl := dstL_len l
 have hsx : ∀ x ∈ dstL l, x.length ≤ 1000000 := fun x h => hx x (dstL_mem.1 h)
 have r4 : ∀ t ∈ l, FC P (F "slices.BinarySearchFunc.int4") [.lst 1 (iis (dstL l)), .lst 1 (ints t), .clo (F "slices.Compare.I") []] (.tup [.int .i64 (below (dstL l) t), .bool (decide (t ∈ dstL l))]) [] := fun t ht =>
  hbs (dstL l) t (F "slices.Compare.I") (by omega) (dstL_strict l) fun x h => hcm x t (hsx x h) (hx t ht)
 have hbl : ∀ t, below (dstL l) t ≤ 1000000 := fun t => by have := below_le (dstL l) t; omega
 simp (disch := omega) only [go_sem, ↓reduceIte]
 refine call_fz r1 ?_
 simp (disch := omega) only [go_sem, ↓reduceIte]
 refine call_fz r2 ?_
 rw [show cptL (sortL l) = dstL l from rfl] at r3
 have hc : colL l = l.map fun s => (below (dstL l) s : Int) := rfl
 generalize dstL l = S at *
 simp (disch := omega) only [go_sem, ↓reduceIte, hsl]
 refine call_fz r3 ?_
 simp (disch := omega) only [go_sem, ↓reduceIte]
 refine W_loop (fun i : Nat => ⟨[(4, .sl 0 0 S.length), (5, .sl 1 0 i), (16, .lst 1 (iis l)), (17, .int .i64 l.length), (18, .int .i64 i)], [(0, .arr 1 (iis S)), (1, .arr 1 (ints ((colL l).take i)))], 2⟩) (fun i => i ≤ l.length) (fun i => l.length - i) 0 ?_ ?_ ?_
 ·simp (disch := omega) only [go_sem, ↓reduceIte]
  rfl
 ·omega
 ·intro i hi
  have hcl : (colL l).length = l.length := by rw [hc]; simp
  simp (disch := omega) only [go_sem, ↓reduceIte, c_iso_colour_b11]
  refine bran_dec (fun c => ?_) (fun c => ?_)
  ·have hm := gt_mem (l := l) (j := (i : Int)) (by omega) (by omega)
   have hb := hbl (gt l (i : Int))
   have ht : (colL l).take (i + 1) = (colL l).take i ++ [(below S (gt l (i : Int)) : Int)] := by
    rw [take_gt (by omega)]
    congr 2
    rw [gt_nat (by omega), gt_nat (by omega)]
    simp only [hc, List.getElem_map]
   have hti : ((colL l).take i).length = i := by simp; omega
   simp (disch := omega) only [go_sem, ↓reduceIte]
   refine call_by (r4 _ hm) ?_
   generalize below S (gt l (i : Int)) = b at *
   simp (disch := omega) only [go_sem, ↓reduceIte, hti]
   exact ⟨i + 1, by simp [ht], by omega, by omega⟩
  ·obtain rfl : i = l.length := by omega
   have hti : (colL l).take l.length = colL l := List.take_of_length_le (by omega)
   rw [hti]
   simp (disch := omega) only [go_sem, ↓reduceIte, hcl]
end
@[go_sem] def c_iso_join_r0 : LL := [qa 2 [.nl 1,.nl 3]]
@[go_sem] def c_iso_join_r1 : LL := [qa 3 [.nl 1,.nl 3]]
@[go_sem] def c_iso_join_r2 : LL := [qm 9 0,qz 10 9,qi 11 0]
@[go_sem] def c_iso_join_r3 : LL := [qo .lss 12 11 10]
@[go_sem] def c_iso_join_r4 : LL := [qd 13 2 9 11,qL 14 2 13,qa 5 [.nl 1,.nl 3],qs 2 5 14]
@[go_sem] def c_iso_join_r5 : LL := [qf 15 0 3,ql 16 1 15,qz 17 16,qm 6 17]
@[go_sem] def c_iso_join_r6 : LL := [qf 18 0 3,ql 19 1 18,qf 20 0 5,ql 21 1 20,qp 22 1 8 19 21,qf 23 0 3,qs 1 23 22]
@[go_sem] def c_iso_join_r7 : LL := [qf 24 1 5,ql 25 1 24,qz 26 25,qi 27 0]
@[go_sem] def c_iso_join_r8 : LL := [qo .lss 28 27 26]
@[go_sem] def c_iso_join_r9 : LL := [qd 29 3 25 27,qL 30 3 29,qa 8 [.int .i64 (0),.int .i64 (0),.int .i64 (0)],qs 3 8 30]
@[go_sem] def c_iso_join_r10 : LL := [qf 31 1 3,ql 32 1 31,qf 33 0 8,ql 34 1 33,qf 35 1 8,ql 36 1 35,qm 37 6,qo .add 38 36 37,qf 39 2 8,ql 40 1 39,qm 41 6,qo .add 42 40 41,
 qu 43 [.int .i64 (0),.int .i64 (0),.int .i64 (0)] [(0,1,.t 34),(1,1,.t 38),(2,1,.t 42)],
 ⟨some 44,.buildSl 3 24 (.agg [.int .i64 (0),.int .i64 (0),.int .i64 (0)]) 1 [(0,.t 43)],none⟩,qp 45 3 24 32 44,qf 46 1 3,qs 1 46 45]
@[go_sem] def c_iso_join_r11 : LL := [qk .add 47 27 1,qm 27 47]
def c_iso_join_b12 : LC := (.seq (.reg c_iso_join_r8 [2,3,6,9,10,11,25,26,27,28]) (.seq (.cond (.t 28) .skip (.exit 2)) (.seq (.block 3 (.seq (.reg c_iso_join_r9 [2,3,6,8,9,10,11,25,26,27]) (.reg c_iso_join_r10 [2,3,6,9,10,11,25,26,27]))) (.reg c_iso_join_r11 [2,3,6,9,10,11,25,26,27]))))
@[go_sem] def c_iso_join_r13 : LL := [qk .add 48 11 1,qm 11 48]
def c_iso_join_b14 : LC := (.seq (.reg c_iso_join_r3 [2,3,9,10,11,12]) (.seq (.cond (.t 12) .skip (.exit 0)) (.seq (.block 1 (.seq (.reg c_iso_join_r4 [2,3,5,9,10,11]) (.seq (.reg c_iso_join_r5 [2,3,5,6,9,10,11]) (.seq (.reg c_iso_join_r6 [2,3,5,6,9,10,11]) (.seq (.reg c_iso_join_r7 [2,3,6,9,10,11,25,26,27]) (.block 2 (.loop [2,3,6,9,10,11,25,26,27] c_iso_join_b12))))))) (.reg c_iso_join_r13 [2,3,9,10,11]))))
@[go_sem] def c_iso_join_r15 : LL := [qL 49 2 3,qs 2 2 49]
@[go_sem] def c_iso_join (F : Fn) : LC := (.seq (.reg c_iso_join_r0 [0,2]) (.seq (.reg c_iso_join_r1 [0,2,3]) (.seq (.seq (.reg c_iso_join_r2 [2,3,9,10,11]) (.block 0 (.loop [2,3,9,10,11] c_iso_join_b14))) (.seq (.reg c_iso_join_r15 [2]) .ret))))
def h_iso_join : Hints := hOf [] (c_iso_join fun _ => 0)
@[go_sem] def c_iso_joined_first_r0 : LL := [qB 1 0,qn 2 1]
@[go_sem] def c_iso_joined_first_r1 : LL := [qn 3 1]
@[go_sem] def c_iso_joined_first_r2 : LL := [qf 6 0 1,ql 7 1 6,qz 8 7,qi 9 0]
@[go_sem] def c_iso_joined_first_r3 : LL := [qo .lss 10 9 8]
@[go_sem] def c_iso_joined_first_r4 : LL := [qd 11 1 7 9,ql 12 1 11,qm 5 12]
@[go_sem] def c_iso_joined_first_r5 : LL := [qm 13 3,qm 14 5,⟨some 15,.buildSl 1 8 (.int .i64 (0)) 1 [(0,.t 14)],none⟩,⟨some 16,.buildSl 1 24 (.lst 1 []) 1 [(0,.t 15)],none⟩,qp 17 1 24 13 16,qm 3 17]
@[go_sem] def c_iso_joined_first_r6 : LL := [qk .add 18 9 1,qm 9 18]
def c_iso_joined_first_b7 : LC := (.seq (.reg c_iso_joined_first_r3 [3,7,8,9,10]) (.seq (.cond (.t 10) .skip (.exit 0)) (.seq (.block 1 (.seq (.reg c_iso_joined_first_r4 [3,5,7,8,9]) (.reg c_iso_joined_first_r5 [3,7,8,9]))) (.reg c_iso_joined_first_r6 [3,7,8,9]))))
@[go_sem] def c_iso_joined_first_r8 : LL := [qm 19 3,qm 2 19]
@[go_sem] def c_iso_joined_first (F : Fn) : LC := (.seq (.reg c_iso_joined_first_r0 [1]) (.seq (.reg c_iso_joined_first_r1 [1,3]) (.seq (.seq (.reg c_iso_joined_first_r2 [3,7,8,9]) (.block 0 (.loop [3,7,8,9] c_iso_joined_first_b7))) (.seq (.reg c_iso_joined_first_r8 [2]) .ret))))
def h_iso_joined_first : Hints := hOf [] (c_iso_joined_first fun _ => 0)
@[go_sem] def c_iso_joined_next_r0 : LL := [qB 2 0,qn 4 1]
@[go_sem] def c_iso_joined_next_r1 : LL := [qf 11 0 2,ql 12 1 11,qz 13 12,⟨some 14,.mkn 1 24 (.t 13),none⟩,qm 5 14]
@[go_sem] def c_iso_joined_next_r2 : LL := [qf 15 1 2,ql 16 1 15,qz 17 16,qi 18 0]
@[go_sem] def c_iso_joined_next_r3 : LL := [qo .lss 19 18 17]
@[go_sem] def c_iso_joined_next_r4 : LL := [qd 20 3 16 18,qL 21 3 20,qa 7 [.int .i64 (0),.int .i64 (0),.int .i64 (0)],qs 3 7 21]
@[go_sem] def c_iso_joined_next_r5 : LL := [qm 22 5,qf 23 1 7,ql 24 1 23,qm 25 5,qf 26 1 7,ql 27 1 26,qd 28 1 25 27,⟨some 29,.tk (.t 28),none⟩,qf 30 0 7,ql 31 1 30,qm 32 1,qf 33 2 7,ql 34 1 33,qd 35 1 32 34,ql 36 1 35,
 ⟨some 37,.buildSl 1 8 (.int .i64 (0)) 3 [(0,.k (.int .i64 (0))),(1,.t 31),(2,.t 36)],none⟩,⟨some 38,.buildSl 1 24 (.lst 1 []) 1 [(0,.t 37)],none⟩,qp 39 1 24 29 38,
 qd 40 1 22 24,⟨none,.pu (.t 40) (.t 39),none⟩]
@[go_sem] def c_iso_joined_next_r6 : LL := [qm 41 5,qf 42 2 7,ql 43 1 42,qm 44 5,qf 45 2 7,ql 46 1 45,qd 47 1 44 46,⟨some 48,.tk (.t 47),none⟩,qf 49 0 7,ql 50 1 49,qm 51 1,qf 52 1 7,ql 53 1 52,qd 54 1 51 53,ql 55 1 54,
 ⟨some 56,.buildSl 1 8 (.int .i64 (0)) 3 [(0,.k (.int .i64 (1))),(1,.t 50),(2,.t 55)],none⟩,⟨some 57,.buildSl 1 24 (.lst 1 []) 1 [(0,.t 56)],none⟩,qp 58 1 24 48 57,
 qd 59 1 41 43,⟨none,.pu (.t 59) (.t 58),none⟩]
@[go_sem] def c_iso_joined_next_r7 : LL := [qk .add 60 18 1,qm 18 60]
def c_iso_joined_next_b8 : LC := (.seq (.reg c_iso_joined_next_r3 [1,5,16,17,18,19]) (.seq (.cond (.t 19) .skip (.exit 0)) (.seq (.block 1 (.seq (.reg c_iso_joined_next_r4 [1,5,7,16,17,18]) (.seq (.dreg [(2,none,[],true),(5,none,[],true),(6,none,[],true),(7,none,[2],true),(9,(some 256),[7],false),(12,(some 2048),[7],false),(13,(some 7168),[7],false),(14,(some 15360),[7],false),(15,(some 32512),[2,5,6,7],false),(16,(some 65280),[2,5,6,7],false),(17,none,[2],false)] c_iso_joined_next_r5 [1,5,7,16,17,18]) (.dreg [(2,none,[],true),(5,none,[],true),(6,none,[],true),(7,none,[2],true),(9,(some 256),[7],false),(12,(some 2048),[7],false),(13,(some 7168),[7],false),(14,(some 15360),[7],false),(15,(some 32512),[2,5,6,7],false),(16,(some 65280),[2,5,6,7],false),(17,none,[2],false)] c_iso_joined_next_r6 [1,5,16,17,18])))) (.reg c_iso_joined_next_r7 [1,5,16,17,18]))))
@[go_sem] def c_iso_joined_next_r9 : LL := [qn 8 1]
@[go_sem] def c_iso_joined_next_r10 : LL := [qm 61 5,qz 62 61,qi 63 0]
@[go_sem] def c_iso_joined_next_r11 : LL := [qo .lss 64 63 62]
@[go_sem] def c_iso_joined_next_r12 : LL := [qm 65 63,qd 66 1 61 63,⟨some 67,.tk (.t 66),none⟩,qm 9 65,qm 10 67]
@[go_sem] def c_iso_joined_next_r13 (F : Fn) : LL := [qm 68 10,⟨some 69,.call (F "slices.SortFunc.int3") [.t 68,.k (.clo (F "slices.Compare.I") [])] [.mu,.rd],none⟩]
@[go_sem] def c_iso_joined_next_r14 (F : Fn) : LL := [qm 70 8,qm 71 1,qm 72 9,qd 73 1 71 72,ql 74 1 73,⟨some 75,.buildSl 1 8 (.int .i64 (0)) 1 [(0,.t 74)],none⟩,qm 76 10,qc 77 (F "slices.Concat.I") [.t 76],
 ⟨some 78,.buildSl 1 24 (.lst 1 []) 2 [(0,.t 75),(1,.t 77)],none⟩,qc 79 (F "slices.Concat.I") [.t 78],⟨some 80,.buildSl 1 24 (.lst 1 []) 1 [(0,.t 79)],none⟩,qp 81 1 24 70 80,qm 8 81]
@[go_sem] def c_iso_joined_next_r15 : LL := [qk .add 82 63 1,qm 63 82]
def c_iso_joined_next_b16 (F : Fn) : LC := (.seq (.reg c_iso_joined_next_r11 [1,8,61,62,63,64]) (.seq (.cond (.t 64) .skip (.exit 2)) (.seq (.block 3 (.seq (.reg c_iso_joined_next_r12 [1,8,9,10,61,62,63]) (.seq (.reg (c_iso_joined_next_r13 F) [1,8,9,10,61,62,63]) (.dreg [(3,none,[],true),(4,none,[],true),(5,none,[],true),(7,(some 64),[3,4,5],false)] (c_iso_joined_next_r14 F) [1,8,61,62,63])))) (.reg c_iso_joined_next_r15 [1,8,61,62,63]))))
@[go_sem] def c_iso_joined_next_r17 : LL := [qm 83 8,qm 4 83]
@[go_sem] def c_iso_joined_next (F : Fn) : LC := (.seq (.reg c_iso_joined_next_r0 [1,2]) (.seq (.reg c_iso_joined_next_r1 [1,2,5]) (.seq (.seq (.reg c_iso_joined_next_r2 [1,5,16,17,18]) (.block 0 (.loop [1,5,16,17,18] c_iso_joined_next_b8))) (.seq (.reg c_iso_joined_next_r9 [1,5,8]) (.seq (.seq (.reg c_iso_joined_next_r10 [1,8,61,62,63]) (.block 2 (.loop [1,8,61,62,63] (c_iso_joined_next_b16 F)))) (.seq (.reg c_iso_joined_next_r17 [4]) .ret))))))
def h_iso_joined_next : Hints := hOf [] (c_iso_joined_next fun _ => 0)
def trE (c : List Int) (i : Nat) (x : E) : List (List Int) := (if x.f = i then [[0, x.t, gt c x.o]] else []) ++ (if x.o = i then [[1, x.t, gt c x.f]] else [])
def trL (es : List E) (c : List Int) (i : Nat) : List (List Int) := es.flatMap (trE c i)
def sgnO (es : List E) (c : List Int) (i : Nat) : List Int := gt c (i : Int) :: (sortL (trL es c i)).flatten
def nextL (g : G) (c : List Int) : List (List Int) := (List.range g.n.length).map (sgnO g.e c)
def frstL (g : G) : List (List Int) := g.n.map fun x => [x]
def shJ (k : Nat) (x : E) : E := ⟨x.t, x.f + k, x.o + k⟩
def join2 (a g : G) : G := ⟨a.n ++ g.n, a.e ++ g.e.map (shJ a.n.length)⟩
def joinG (l : List G) : G := l.foldl join2 ⟨[], []⟩
def InG (g : G) : Prop := g.n.length ≤ 100 ∧ g.e.length ≤ 200 ∧ ∀ x ∈ g.e, 0 ≤ x.f ∧ x.f < g.n.length ∧ 0 ≤ x.o ∧ x.o < g.n.length
def nstL (n : Nat) (f : Nat → List D) : List (Option (List D)) := (List.range n).map fun i => some (f i)
def gDs (l : List G) : List D := l.map gD
section
variable (P : Program) (F : String → Nat)
def K_iso_join : Prop := ∀ l : List G, l.length ≤ 2 → (∀ g ∈ l, validG g = 0) → FC P (F "iso.join") [.lst 2 (gDs l)] (gA (joinG l)) []
def K_iso_joined_first : Prop := ∀ g : G, g.n.length ≤ 100 → FC P (F "iso.joined.first") [gD g] (.arr 1 (iis (frstL g))) []
def K_iso_joined_next : Prop := ∀ (g : G) (c : List Int), InG g → c.length = g.n.length → FC P (F "iso.joined.next") [gD g, .lst 1 (ints c)] (.arr 1 (iis (nextL g c))) []
end
section
variable {α : Type}
theorem nstL_length {n : Nat} {f : Nat → List D} : (nstL n f).length = n := by simp [nstL]
attribute [go_sem] nstL_length
theorem nstL_get {n : Nat} {f : Nat → List D} {i : Nat} (h : i < n) : (nstL n f)[i]? = some (some (f i)) := by simp [nstL, h]
theorem nstL_upd {n : Nat} {f : Nat → List D} {i : Nat} {x : List D} (h : i < n) : ((nstL n f).set i none).set i (some x) = nstL n fun j => if j = i then x else f j := by
 rw [List.set_set]
 refine List.ext_getElem (by simp [nstL]) fun j h1 h2 => ?_
 rw [List.getElem_set]
 simp only [nstL, List.getElem_map, List.getElem_range]
 split
 ·rename_i e; subst e; simp
 ·rename_i e; rw [if_neg (fun h => e h.symm)]
theorem iis_snoc3 (l : List (List Int)) (a b c : Int) : iis l ++ [.lst 1 [.int .i64 a, .int .i64 b, .int .i64 c]] = iis (l ++ [[a, b, c]]) := by simp [iis, ints]
theorem trL_len (es : List E) (c : List Int) (i : Nat) : (trL es c i).length ≤ 2 * es.length := by
 induction es with
 | nil => simp [trL]
 | cons x es ih =>
  have : (trE c i x).length ≤ 2 := by unfold trE; split <;> split <;> simp
  simp only [trL, List.flatMap_cons, List.length_append, List.length_cons] at ih ⊢
  omega
theorem trL_take {es : List E} {c : List Int} {i k : Nat} (h : k < es.length) : trL (es.take (k + 1)) c i = trL (es.take k) c i ++ trE c i (gt es (k : Int)) := by
 rw [take_gt h, trL, List.flatMap_append]
 simp [trL]
theorem trL_mem {es : List E} {c : List Int} {i : Nat} : ∀ x ∈ trL es c i, x.length = 3 := by
 intro x hx
 obtain ⟨e, _, he⟩ := List.mem_flatMap.1 hx
 unfold trE at he
 rcases List.mem_append.1 he with he | he <;> (split at he <;> simp at he <;> simp [he])
theorem nstL_rep {n : Nat} : List.replicate n (some ([] : List D)) = nstL n fun _ => [] := by
 refine List.ext_getElem (by simp [nstL]) fun j h1 h2 => ?_
 simp [nstL]
def nstM (n : Nat) (f : Nat → List D) (j : Nat) : List (Option (List D)) := (List.range n).map fun i => if i < j then none else some (f i)
theorem nstM_zero {n : Nat} {f : Nat → List D} : nstL n f = nstM n f 0 := by simp [nstL, nstM]
theorem nstM_get {n : Nat} {f : Nat → List D} {j : Nat} (h : j < n) : (nstM n f j)[j]? = some (some (f j)) := by simp [nstM, h]
theorem nstM_set {n : Nat} {f : Nat → List D} {j : Nat} : (nstM n f j).set j none = nstM n f (j + 1) := by
 refine List.ext_getElem (by simp [nstM]) fun i h1 h2 => ?_
 rw [List.getElem_set]
 simp only [nstM, List.getElem_map, List.getElem_range]
 split
 ·rename_i e; subst e; simp
 ·rename_i e
  by_cases hi : i < j
  ·rw [if_pos hi, if_pos (by omega)]
  ·rw [if_neg hi, if_neg (by omega)]
theorem sgn_len {es : List E} {c : List Int} {i : Nat} (h : es.length ≤ 200) : (∀ x ∈ sortL (trL es c i), x.length ≤ 1000000) ∧ (sortL (trL es c i)).length ≤ 400 ∧ (sortL (trL es c i)).flatten.length ≤ 1200 := by
 have h1 := trL_len es c i
 have hp := sortL_perm (trL es c i)
 have h2 : ∀ x ∈ sortL (trL es c i), x.length ≤ 3 := fun x hx => by rw [trL_mem x (hp.mem_iff.1 hx)]; omega
 have h3 := hp.length_eq
 have h4 := flat_len h2
 refine ⟨fun x hx => by have := h2 x hx; omega, by omega, ?_⟩
 have : (sortL (trL es c i)).length * 3 ≤ 400 * 3 := Nat.mul_le_mul_right 3 (by omega)
 omega
theorem nextL_length (g : G) (c : List Int) : (nextL g c).length = g.n.length := by simp [nextL]
theorem nstL_congr {n : Nat} {f g : Nat → List D} (h : ∀ i, i < n → f i = g i) : nstL n f = nstL n g := by
 unfold nstL
 refine List.map_congr_left fun i hi => ?_
 rw [h i (by simpa using hi)]
end
section
variable {P : Program} {F : String → Nat} {α : Type}
theorem w_iso_joined_next (hso : K_slices_SortFunc_int3 P F) (hcm : K_slices_Compare_I P F) (hcc : K_slices_Concat_I P F) (g : G) (c : List Int) (hi : InG g) (hc : c.length = g.n.length) : W P (c_iso_joined_next F) (Done [.t 4] [] (.arr 1 (iis (nextL g c))) []) (init [gD g, .lst 1 (ints c)]) := by
 obtain ⟨ns, es⟩ := g
 obtain ⟨i1, i2, i3⟩ := hi
 simp only at i1 i2 i3 hc
 refine W_of ?_
 simp only [gD]
 simp (disch := omega) only [go_sem, ↓reduceIte, nstL_rep]
 refine W_loop (fun k : Nat => ⟨[(1, .lst 1 (ints c)), (5, .sl 0 0 ns.length), (16, .lst 3 (eds es)), (17, .int .i64 es.length), (18, .int .i64 k)], [(0, .nst 1 (nstL ns.length fun i => iis (trL (es.take k) c i)))], 1⟩) (fun k => k ≤ es.length) (fun k => es.length - k) 0 ?_ ?_ ?_
 ·simp (disch := omega) only [go_sem, ↓reduceIte, nstL_rep]
  rfl
 ·omega
 ·intro k hk
  simp (disch := omega) only [go_sem, ↓reduceIte, c_iso_joined_next_b8]
  refine bran_dec (fun d => ?_) (fun d => ?_)
  ·have hm := i3 _ (gt_mem (l := es) (j := (k : Int)) (by omega) (by omega))
   have ht := take_gt (l := es) (i := k) (by omega)
   obtain ⟨⟨t, f, o⟩, hx⟩ : ∃ x, gt es (k : Int) = x := ⟨_, rfl⟩
   rw [hx] at hm ht
   simp only at hm
   obtain ⟨m1, m2, m3, m4⟩ := hm
   obtain ⟨f, rfl⟩ := Int.eq_ofNat_of_zero_le m1
   obtain ⟨o, rfl⟩ := Int.eq_ofNat_of_zero_le m3
   have hl1 := trL_len (es.take k) c f
   have hl2 := trL_len (es.take k) c o
   have hl3 : (es.take k).length ≤ 200 := by simp; omega
   have g1 := nstL_get (n := ns.length) (f := fun i => iis (trL (es.take k) c i)) (i := f) (by omega)
   obtain ⟨A, hA⟩ : ∃ A : List (List Int), A = if o = f then trL (es.take k) c f ++ [[0, t, gt c (o : Int)]] else trL (es.take k) c o := ⟨_, rfl⟩
   have hAl : A.length ≤ 401 := by rw [hA]; split <;> (try simp) <;> omega
   have g2 : (nstL ns.length fun j => if j = f then iis (trL (es.take k) c f ++ [[0, t, gt c (o : Int)]]) else iis (trL (es.take k) c j))[o]? = some (some (iis A)) := by
    rw [nstL_get (by omega), hA]
    split <;> rfl
   simp (disch := omega) only [go_sem, ↓reduceIte, hx, g1, iis_snoc3, nstL_upd, g2]
   refine ⟨k + 1, ?_, by omega, by omega⟩
   congr 4
   refine nstL_congr fun j hj => ?_
   rw [trL_take (by omega), hx]
   unfold trE
   simp only
   by_cases e1 : j = o
   ·subst e1
    rw [if_pos rfl, hA]
    by_cases e2 : j = f
    ·subst e2; simp
    ·rw [if_neg e2, if_neg (by omega)]; simp
   ·rw [if_neg e1]
    by_cases e2 : j = f
    ·subst e2
     rw [if_pos rfl, if_pos rfl, if_neg (by omega)]; simp
    ·rw [if_neg e2, if_neg (by omega), if_neg (by omega)]; simp
  ·obtain rfl : k = es.length := by omega
   rw [List.take_length]
   have hnl : (nextL ⟨ns, es⟩ c).length = ns.length := nextL_length _ _
   have hng : ∀ j : Nat, j < ns.length → gt (nextL ⟨ns, es⟩ c) (j : Int) = gt c (j : Int) :: (sortL (trL es c j)).flatten := fun j hj => by
    rw [gt_nat (by omega)]
    simp [nextL, sgnO]
   generalize nextL ⟨ns, es⟩ c = R at *
   simp (disch := omega) only [go_sem, ↓reduceIte, nstM_zero]
   refine W_loop (fun j : Nat => ⟨[(1, .lst 1 (ints c)), (8, .sl 0 0 j), (61, .sl 1 0 ns.length), (62, .int .i64 ns.length), (63, .int .i64 j)], [(0, .arr 1 (iis (R.take j))), (1, .nst 1 (nstM ns.length (fun i => iis (trL es c i)) j))], 2⟩) (fun j => j ≤ ns.length) (fun j => ns.length - j) 0 ?_ ?_ ?_
   ·simp (disch := omega) only [go_sem, ↓reduceIte, nstM_zero]
    rfl
   ·omega
   ·intro j hj
    simp (disch := omega) only [go_sem, ↓reduceIte, c_iso_joined_next_b16]
    refine bran_dec (fun d => ?_) (fun d => ?_)
    ·have hjl : j < ns.length := by omega
     have g1 := nstM_get (f := fun i => iis (trL es c i)) hjl
     have hp := sortL_perm (trL es c j)
     have hle := hp.length_eq
     have htl := trL_len es c j
     have hty : ∀ x ∈ trL es c j, x.length ≤ 1000000 := fun x hx => by rw [trL_mem x hx]; omega
     have r1 := hso (trL es c j) (sortL (trL es c j)) (F "slices.Compare.I") scmp (by omega) scmp_cmp hp (sortL_sorted _) fun x h1 y h2 => hcm x y (hty x h1) (hty y h2)
     obtain ⟨s1, s2, s3⟩ := sgn_len (c := c) (i := j) i2
     have r2 := hcc (sortL (trL es c j)) (by omega) s1
     have r3 : FC P (F "slices.Concat.I") [.lst 1 [.lst 1 [.int .i64 (gt c (j : Int))], .lst 1 (ints (sortL (trL es c j)).flatten)]] (.arr 1 (ints (gt c (j : Int) :: (sortL (trL es c j)).flatten))) [] := by
      have := hcc [[gt c (j : Int)], (sortL (trL es c j)).flatten] (by simp) (by
       intro x hx
       simp only [List.mem_cons, List.not_mem_nil, or_false] at hx
       rcases hx with rfl | rfl
       ·simp
       ·omega)
      simpa [iis, ints] using this
     have hR : R.take (j + 1) = R.take j ++ [gt c (j : Int) :: (sortL (trL es c j)).flatten] := by rw [take_gt (by omega), hng j hjl]
     have hRl : (R.take j).length = j := by simp; omega
     generalize sortL (trL es c j) = S at *
     generalize S.flatten = fl at *
     simp (disch := omega) only [go_sem, ↓reduceIte, g1, nstM_set]
     refine call_fz r1 ?_
     simp (disch := omega) only [go_sem, ↓reduceIte, hle]
     refine call_by r2 ?_
     simp (disch := omega) only [go_sem, ↓reduceIte]
     refine call_by r3 ?_
     simp (disch := omega) only [go_sem, ↓reduceIte, hRl]
     exact ⟨j + 1, by simp [hR], by omega, by omega⟩
    ·obtain rfl : j = ns.length := by omega
     have hti : R.take ns.length = R := List.take_of_length_le (by omega)
     rw [hti]
     simp (disch := omega) only [go_sem, ↓reduceIte, hnl]
theorem gDs_length {l : List G} : (gDs l).length = l.length := by simp [gDs]
theorem gDs_get {l : List G} {i : Nat} (h : i < l.length) : (gDs l)[i]? = some (.agg [.lst 1 (ints (gt l (i : Int)).n), .lst 3 (eds (gt l (i : Int)).e)]) := by
 rw [gt_nat h]
 simp [gDs, h, gD]
attribute [go_sem] gDs_length gDs_get
theorem w_iso_join (l : List G) (hl : l.length ≤ 2) (hv : ∀ g ∈ l, validG g = 0) : W P (c_iso_join F) (Done [.c 2 true 2] [] (gA (joinG l)) []) (init [.lst 2 (gDs l)]) := by
 refine W_of ?_
 have hb : ∀ i, i ≤ l.length → (joinG (l.take i)).n.length ≤ 40 * i ∧ (joinG (l.take i)).e.length ≤ 80 * i := by
  intro i
  induction i with
  | zero => intro _; simp [joinG]
  | succ i ih =>
   intro h
   obtain ⟨h1, h2⟩ := ih (by omega)
   obtain ⟨v1, v2, _⟩ := valid_spec (hv _ (gt_mem (l := l) (j := (i : Int)) (by omega) (by omega)))
   rw [take_gt (by omega), joinG, List.foldl_append]
   simp only [List.foldl_cons, List.foldl_nil]
   rw [show List.foldl join2 ⟨[], []⟩ (l.take i) = joinG (l.take i) from rfl]
   simp only [join2, List.length_append, List.length_map]
   omega
 simp (disch := omega) only [go_sem, ↓reduceIte]
 refine W_loop (fun i : Nat => ⟨[(2, .pt 2 0), (3, .pt 5 0), (9, .lst 2 (gDs l)), (10, .int .i64 l.length), (11, .int .i64 i)],
   [(0, .arr 1 (ints [])), (1, .arr 3 (eds [])), (2, .box [.sl 0 0 0, .sl 1 0 0]), (3, .arr 1 (ints (joinG (l.take i)).n)), (4, .arr 3 (eds (joinG (l.take i)).e)), (5, .box [.sl 3 0 (joinG (l.take i)).n.length, .sl 4 0 (joinG (l.take i)).e.length])], 6⟩) (fun i => i ≤ l.length) (fun i => l.length - i) 0 ?_ ?_ ?_
 ·simp (disch := omega) only [go_sem, ↓reduceIte]
  rfl
 ·omega
 ·intro i hi
  simp (disch := omega) only [go_sem, ↓reduceIte, c_iso_join_b14]
  refine bran_dec (fun d => ?_) (fun d => ?_)
  ·have hj : joinG (l.take (i + 1)) = join2 (joinG (l.take i)) (gt l (i : Int)) := by
    rw [take_gt (by omega), joinG, List.foldl_append]
    rfl
   obtain ⟨b1, b2⟩ := hb i (by omega)
   have hv1 := hv _ (gt_mem (l := l) (j := (i : Int)) (by omega) (by omega))
   obtain ⟨⟨ns, es⟩, hx⟩ : ∃ x, gt l (i : Int) = x := ⟨_, rfl⟩
   rw [hx] at hv1 hj
   obtain ⟨v1, v2, _, v4⟩ := valid_spec hv1
   simp only at v1 v2 v4
   generalize joinG (l.take i) = a at *
   obtain ⟨an, ae⟩ := a
   simp only at b1 b2
   simp (disch := omega) only [go_sem, ↓reduceIte, hx]
   refine W_loop (fun k : Nat => ⟨[(2, .pt 2 0), (3, .pt 5 0), (6, .int .i64 an.length), (9, .lst 2 (gDs l)), (10, .int .i64 l.length), (11, .int .i64 i), (25, .lst 3 (eds es)), (26, .int .i64 es.length), (27, .int .i64 k)],
    [(0, .arr 1 (ints [])), (1, .arr 3 (eds [])), (2, .box [.sl 0 0 0, .sl 1 0 0]), (3, .arr 1 (ints (an ++ ns))), (4, .arr 3 (eds (ae ++ (es.take k).map (shJ an.length)))), (5, .box [.sl 3 0 (an.length + ns.length), .sl 4 0 (ae.length + k)])], 6⟩) (fun k => k ≤ es.length) (fun k => es.length - k) 0 ?_ ?_ ?_
   ·simp (disch := omega) only [go_sem, ↓reduceIte]
    simp
   ·omega
   ·intro k hk
    simp (disch := omega) only [go_sem, ↓reduceIte, c_iso_join_b12]
    refine bran_dec (fun d => ?_) (fun d => ?_)
    ·have hm := v4 _ (gt_mem (l := es) (j := (k : Int)) (by omega) (by omega))
     have ht := take_gt (l := es) (i := k) (by omega)
     obtain ⟨⟨t, f, o⟩, hy⟩ : ∃ x, gt es (k : Int) = x := ⟨_, rfl⟩
     rw [hy] at hm ht
     simp only [fitsE, Bool.and_eq_true, decide_eq_true_eq] at hm
     have hl : (ae ++ (es.take k).map (shJ an.length)).length = ae.length + k := by simp; omega
     simp (disch := omega) only [go_sem, ↓reduceIte, hy, hl]
     refine ⟨k + 1, ?_, by omega, by omega⟩
     simp [ht, shJ, Nat.add_assoc]
    ·obtain rfl : k = es.length := by omega
     simp (disch := omega) only [go_sem, ↓reduceIte]
     refine ⟨i + 1, ?_, by omega, by omega⟩
     rw [hj]
     simp [join2]
  ·obtain rfl : i = l.length := by omega
   rw [List.take_length]
   generalize joinG l = a at *
   simp (disch := omega) only [go_sem, ↓reduceIte]
   rfl
theorem w_iso_joined_first (g : G) (hg : g.n.length ≤ 100) : W P (c_iso_joined_first F) (Done [.t 2] [] (.arr 1 (iis (frstL g))) []) (init [gD g]) := by
 obtain ⟨ns, es⟩ := g
 refine W_of ?_
 simp only [gD]
 have hn : ns.length ≤ 100 := hg
 clear hg
 have hf : (frstL ⟨ns, es⟩).length = ns.length := by simp [frstL]
 have hg : ∀ i : Nat, i < ns.length → gt (frstL ⟨ns, es⟩) (i : Int) = [gt ns (i : Int)] := fun i hi => by
  rw [gt_nat (by omega), gt_nat hi]
  simp [frstL]
 generalize frstL ⟨ns, es⟩ = R at *
 simp (disch := omega) only [go_sem, ↓reduceIte]
 refine W_loop (fun i : Nat => ⟨[(3, .sl 0 0 i), (7, .lst 1 (ints ns)), (8, .int .i64 ns.length), (9, .int .i64 i)], [(0, .arr 1 (iis (R.take i)))], 1⟩) (fun i => i ≤ ns.length) (fun i => ns.length - i) 0 ?_ ?_ ?_
 ·simp (disch := omega) only [go_sem, ↓reduceIte]
  rfl
 ·omega
 ·intro i hi
  simp (disch := omega) only [go_sem, ↓reduceIte, c_iso_joined_first_b7]
  refine bran_dec (fun d => ?_) (fun d => ?_)
  ·have ht : R.take (i + 1) = R.take i ++ [[gt ns (i : Int)]] := by rw [take_gt (by omega), hg i (by omega)]
   have hRl : (R.take i).length = i := by simp; omega
   have e1 : ∀ (l : List (List Int)) (x : Int), iis l ++ [.lst 1 [.int .i64 x]] = iis (l ++ [[x]]) := fun l x => by simp [iis, ints]
   simp (disch := omega) only [go_sem, ↓reduceIte, hRl, e1]
   exact ⟨i + 1, by simp [ht], by omega, by omega⟩
  ·obtain rfl : i = ns.length := by omega
   have hti : R.take ns.length = R := List.take_of_length_le (by omega)
   rw [hti]
   simp (disch := omega) only [go_sem, ↓reduceIte, hf]
end
def colA (l S : List (List Int)) : List Int := l.map fun s => (below S s : Int)
section
variable (P : Program) (F : String → Nat)
end
section
variable {α : Type}
end
section
variable {P : Program} {F : String → Nat} {α : Type}
end
@[go_sem] def c_iso_joined_stable_r0 : LL := [qB 1 0,qn 2 1]
@[go_sem] def c_iso_joined_stable_r1 (F : Fn) : LL := [qL 8 2 1,qc 9 (F "iso.joined.first") [.t 8],qc 10 (F "iso.colour") [.t 9],qm 7 10,qx 11 7 0,qx 12 7 1,qm 3 11,qm 4 12]
@[go_sem] def c_iso_joined_stable_r2 (F : Fn) : LL := [qL 14 2 1,qm 15 3,qc 16 (F "iso.joined.next") [.t 14,.t 15],qc 17 (F "iso.colour") [.t 16],qm 13 17,qx 18 13 0,qx 19 13 1,qm 5 18,qm 6 19]
@[go_sem] def c_iso_joined_stable_r3 : LL := [qm 20 6,qm 21 4,qo .eql 22 20 21]
@[go_sem] def c_iso_joined_stable_r4 : LL := [qm 23 3,qm 2 23]
@[go_sem] def c_iso_joined_stable_r5 : LL := [qm 24 5,qm 25 6,qm 3 24,qm 4 25]
def c_iso_joined_stable_b6 (F : Fn) : LC := (.block 1 (.seq (.reg (c_iso_joined_stable_r2 F) [1,3,4,5,6]) (.seq (.seq (.reg c_iso_joined_stable_r3 [1,3,5,6,22]) (.cond (.t 22) (.seq (.reg c_iso_joined_stable_r4 [2]) .ret) .skip)) (.reg c_iso_joined_stable_r5 [1,3,4]))))
@[go_sem] def c_iso_joined_stable (F : Fn) : LC := (.seq (.reg c_iso_joined_stable_r0 [1]) (.seq (.reg (c_iso_joined_stable_r1 F) [1,3,4]) (.block 0 (.loop [1,3,4] (c_iso_joined_stable_b6 F)))))
def h_iso_joined_stable : Hints := hOf [] (c_iso_joined_stable fun _ => 0)
@[go_sem] def c_iso_Refine_r0 : LL := [qB 1 0,qn 2 1,qi 3 0]
@[go_sem] def c_iso_Refine_r1 (F : Fn) : LL := [qL 5 2 1,qc 6 (F "graph.Valid") [.t 5],qm 4 6]
@[go_sem] def c_iso_Refine_r2 : LL := [qm 7 4,qk .neq 8 7 0]
@[go_sem] def c_iso_Refine_r3 : LL := [qm 9 4,qn 2 1,qm 3 9]
@[go_sem] def c_iso_Refine_r4 (F : Fn) : LL := [qL 10 2 1,⟨some 11,.buildSl 2 48 (.agg [.lst 1 [],.lst 3 []]) 1 [(0,.t 10)],none⟩,qc 12 (F "iso.join") [.t 11],qc 13 (F "iso.joined.stable") [.t 12],qm 2 13,qi 3 0]
@[go_sem] def c_iso_Refine (F : Fn) : LC := (.seq (.reg c_iso_Refine_r0 [1]) (.seq (.seq (.reg (c_iso_Refine_r1 F) [1,4]) (.seq (.reg c_iso_Refine_r2 [1,4,8]) (.cond (.t 8) (.seq (.reg c_iso_Refine_r3 [2,3]) .ret) .skip))) (.seq (.reg (c_iso_Refine_r4 F) [2,3]) .ret)))
def h_iso_Refine : Hints := hOf [] (c_iso_Refine fun _ => 0)
@[go_sem] def c_iso_both_r0 : LL := [qB 2 0,qB 3 1,qi 4 0]
@[go_sem] def c_iso_both_r1 (F : Fn) : LL := [qL 6 2 2,qc 7 (F "graph.Valid") [.t 6],qm 5 7]
@[go_sem] def c_iso_both_r2 : LL := [qm 8 5,qk .neq 9 8 0]
@[go_sem] def c_iso_both_r3 : LL := [qm 10 5,qm 4 10]
@[go_sem] def c_iso_both_r4 (F : Fn) : LL := [qL 11 2 3,qc 12 (F "graph.Valid") [.t 11],qm 4 12]
@[go_sem] def c_iso_both (F : Fn) : LC := (.seq (.reg c_iso_both_r0 [2,3]) (.seq (.seq (.reg (c_iso_both_r1 F) [3,5]) (.seq (.reg c_iso_both_r2 [3,5,9]) (.cond (.t 9) (.seq (.reg c_iso_both_r3 [4]) .ret) .skip))) (.seq (.reg (c_iso_both_r4 F) [4]) .ret)))
def h_iso_both : Hints := hOf [] (c_iso_both fun _ => 0)
@[go_sem] def c_iso_shaped_r0 : LL := [qB 2 0,qB 3 1,qb 4 false]
@[go_sem] def c_iso_shaped_r1 : LL := [qf 5 0 2,ql 6 1 5,qz 7 6,qf 8 0 3,ql 9 1 8,qz 10 9,qo .eql 11 7 10,qm 12 11,qg 12 true (qf 13 1 2),qg 12 true (ql 14 1 13),qg 12 true (qz 15 14),qg 12 true (qf 16 1 3),
 qg 12 true (ql 17 1 16),qg 12 true (qz 18 17),qg 12 true (qo .eql 19 15 18),qP 20 12 19,qm 4 20]
@[go_sem] def c_iso_shaped (F : Fn) : LC := (.seq (.reg c_iso_shaped_r0 [2,3]) (.seq (.reg c_iso_shaped_r1 [4]) .ret))
def h_iso_shaped : Hints := hOf [] (c_iso_shaped fun _ => 0)
def ndL (l : List (List Int)) : Nat := (dstL l).length
def stb (g : G) : Nat → List (List Int) → List Int
 | 0, s => colL s
 | k + 1, s => if ndL (nextL g (colL s)) = ndL s then colL s else stb g k (nextL g (colL s))
def stabL (g : G) : List Int := stb g (g.n.length + 1) (frstL g)
def refD (g : G) : D := if validG g = 0 then .tup [.lst 1 (ints (stabL g)), .int .i64 0] else .tup [.arr 1 [], .int .i64 (validG g)]
def bothE (a b : G) : Int := if validG a = 0 then validG b else validG a
section
variable (P : Program) (F : String → Nat)
def K_iso_joined_stable : Prop := ∀ g : G, InG g → FC P (F "iso.joined.stable") [gD g] (.lst 1 (ints (stabL g))) []
def K_iso_Refine : Prop := ∀ g : G, FC P (F "iso.Refine") [gD g] (refD g) []
def K_iso_both : Prop := ∀ a b : G, FC P (F "iso.both") [gD a, gD b] (.int .i64 (bothE a b)) []
def K_iso_shaped : Prop := ∀ a b : G, FC P (F "iso.shaped") [gD a, gD b] (.bool (decide (a.n.length = b.n.length) && decide (a.e.length = b.e.length))) []
end
section
variable {α : Type}
theorem ndL_le (l : List (List Int)) : ndL l ≤ l.length := dstL_len l
theorem dstL_nodup (l : List (List Int)) : (dstL l).Nodup := (dstL_strict l).imp fun {a b} h e => by subst e; rw [scmp_self] at h; omega
theorem below_lt {S : List (List Int)} {x y : List Int} (hx : x ∈ S) (h : scmp x y < 0) : below S x < below S y := by
 have hsub : ∀ z, z ∈ x :: S.filter (fun z => decide (scmp z x < 0)) → z ∈ x :: S := fun z hz => by
  rcases List.mem_cons.1 hz with rfl | hz
  ·simp
  ·exact List.mem_cons_of_mem _ (List.mem_filter.1 hz).1
 unfold below
 have h1 : ∀ z ∈ S, decide (scmp z x < 0) = true → decide (scmp z y < 0) = true := fun z _ hz => by
  simp only [decide_eq_true_eq] at *
  exact scmp_tr _ _ _ hz h
 induction S with
 | nil => cases hx
 | cons a S ih =>
  simp only [List.filter_cons]
  rcases List.mem_cons.1 hx with rfl | hx
  ·rw [if_neg (by simp [scmp_self]), if_pos (by simpa using h)]
   have : (S.filter fun z => decide (scmp z x < 0)).length ≤ (S.filter fun z => decide (scmp z y < 0)).length := by
    rw [← List.countP_eq_length_filter, ← List.countP_eq_length_filter]
    exact List.countP_mono_left fun z hz hzx => h1 z (by simp [hz]) hzx
   simp only [List.length_cons]
   omega
  ·have ih := ih hx (fun z hz => by
    rcases List.mem_cons.1 hz with rfl | hz
    ·simp
    ·exact List.mem_cons_of_mem _ (List.mem_filter.1 hz).1) fun z hz => h1 z (by simp [hz])
   by_cases ha : scmp a x < 0
   ·have hay : scmp a y < 0 := scmp_tr _ _ _ ha h
    rw [if_pos (by simpa using ha), if_pos (by simpa using hay)]
    simp only [List.length_cons]
    omega
   ·rw [if_neg (by simpa using ha)]
    split
    ·simp only [List.length_cons]; omega
    ·exact ih
theorem below_inj {S : List (List Int)} {x y : List Int} (hx : x ∈ S) (hy : y ∈ S) (h : below S x = below S y) : x = y := by
 have h1 : ¬ scmp x y < 0 := fun k => by have := below_lt hx k; omega
 have h2 : ¬ scmp y x < 0 := fun k => by have := below_lt hy k; omega
 have := scmp_neg x y
 exact scmp_eq _ _ (by omega)
theorem colL_gt {l : List (List Int)} {i : Nat} (h : i < l.length) : gt (colL l) (i : Int) = (below (dstL l) (gt l (i : Int)) : Int) := by
 rw [gt_nat (by simp [colL]; omega), gt_nat h]
 simp [colL]
theorem nextL_gt {g : G} {c : List Int} {i : Nat} (h : i < g.n.length) : gt (nextL g c) (i : Int) = sgnO g.e c i := by
 rw [gt_nat (by simp [nextL]; omega)]
 simp [nextL]
theorem frstL_length (g : G) : (frstL g).length = g.n.length := by simp [frstL]
theorem ndL_next {g : G} {s : List (List Int)} (hs : s.length = g.n.length) : ndL s ≤ ndL (nextL g (colL s)) := by
 have hnd : ((dstL s).map fun x => (below (dstL s) x : Int)).Nodup := by
  rw [List.nodup_iff_pairwise_ne, List.pairwise_map]
  have := dstL_nodup s
  rw [List.nodup_iff_pairwise_ne] at this
  refine List.Pairwise.imp_of_mem (fun {x y} hx hy hne e => hne (below_inj hx hy (by omega))) this
 have hsub : ((dstL s).map fun x => (below (dstL s) x : Int)) ⊆ (dstL (nextL g (colL s))).map fun l => l.headD 0 := by
  intro v hv
  obtain ⟨x, hx, rfl⟩ := List.mem_map.1 hv
  obtain ⟨i, hi, rfl⟩ := List.mem_iff_getElem.1 (dstL_mem.1 hx)
  refine List.mem_map.2 ⟨gt (nextL g (colL s)) (i : Int), dstL_mem.2 (gt_mem (by omega) (by rw [nextL_length]; omega)), ?_⟩
  rw [nextL_gt (by omega)]
  simp only [sgnO, List.headD_cons]
  rw [colL_gt hi, gt_nat hi]
 have := List.Nodup.length_le_of_subset hnd hsub
 simpa [ndL] using this
theorem InG.of_valid {g : G} (h : validG g = 0) : InG g := by
 obtain ⟨h1, h2, _, h4⟩ := valid_spec h
 refine ⟨by omega, by omega, fun x hx => ?_⟩
 have := h4 x hx
 simp only [fitsE, Bool.and_eq_true, decide_eq_true_eq] at this
 omega
theorem joinG_one (g : G) : joinG [g] = g := by
 obtain ⟨n, e⟩ := g
 simp only [joinG, List.foldl_cons, List.foldl_nil, join2, List.nil_append, List.length_nil, G.mk.injEq, true_and]
 have : shJ 0 = id := by
  funext x
  obtain ⟨t, f, o⟩ := x
  simp [shJ]
 rw [this, List.map_id]
theorem sgnO_len {es : List E} {c : List Int} {i : Nat} (h : es.length ≤ 200) : (sgnO es c i).length ≤ 1000000 := by
 obtain ⟨_, _, s3⟩ := sgn_len (c := c) (i := i) h
 simp only [sgnO, List.length_cons]
 omega
theorem nextL_len {g : G} {c : List Int} (h : g.e.length ≤ 200) : ∀ x ∈ nextL g c, x.length ≤ 1000000 := fun x hx => by
 obtain ⟨i, _, rfl⟩ := List.mem_map.1 hx
 exact sgnO_len h
theorem frstL_len (g : G) : ∀ x ∈ frstL g, x.length ≤ 1000000 := fun x hx => by
 obtain ⟨i, _, rfl⟩ := List.mem_map.1 hx
 simp
end
section
variable {P : Program} {F : String → Nat} {α : Type}
theorem w_iso_joined_stable (hf : K_iso_joined_first P F) (hc : K_iso_colour P F) (hn : K_iso_joined_next P F) (g : G) (hi : InG g) : W P (c_iso_joined_stable F) (DoneF [.t 2] [] (.lst 1 (ints (stabL g))) []) (init [gD g]) := by
 have r1 := hf g hi.1
 have r2 := hc (frstL g) (by have := hi.1; rw [frstL_length]; omega) (frstL_len g)
 have rn := fun c h => hn g c hi h
 have rc := fun s (h1 : s.length = g.n.length) (h2 : ∀ x ∈ s, x.length ≤ 1000000) => hc s (by have := hi.1; omega) h2
 have hst : stabL g = stb g (g.n.length + 1) (frstL g) := rfl
 have hlen := fun c => nextL_len (g := g) (c := c) hi.2.1
 have hfl := frstL_length g
 have hfx := frstL_len g
 have hnl := nextL_length g
 have hmono := fun s => ndL_next (g := g) (s := s)
 generalize stabL g = R at *
 generalize hN : g.n.length = N at *
 have hN2 := hi.1
 simp only [gD] at *
 refine W_ofF ?_
 simp (disch := omega) only [go_sem, ↓reduceIte]
 refine call_fz r1 ?_
 simp (disch := omega) only [go_sem, ↓reduceIte]
 refine call_by r2 ?_
 simp (disch := omega) only [go_sem, ↓reduceIte, colL_length]
 refine W_loop (fun s : List (List Int) => ⟨[(1, .pt 0 0), (3, .sl 1 0 (colL s).length), (4, .int .i64 (dstL s).length)], [(0, .box [.lst 1 (ints g.n), .lst 3 (eds g.e)]), (1, .arr 1 (ints (colL s)))], 2⟩)
  (fun s => s.length = N ∧ (∀ x ∈ s, x.length ≤ 1000000) ∧ ∃ k, R = stb g k s ∧ N < k + ndL s) (fun s => N - ndL s) (frstL g) ?_ ?_ ?_
 ·simp (disch := omega) only [go_sem, ↓reduceIte, colL_length]
 ·exact ⟨hfl, hfx, N + 1, hst, by omega⟩
 ·rintro s ⟨h1, h2, k, h3, h4⟩
  have hcl := colL_length s
  have q1 := rn (colL s) (by omega)
  have q2 := rc (nextL g (colL s)) (by rw [hnl]) (hlen (colL s))
  have hm := hmono s (by omega)
  have hle := ndL_le s
  have hle2 := ndL_le (nextL g (colL s))
  rw [hnl] at hle2
  obtain ⟨k, rfl⟩ : ∃ j, k = j + 1 := ⟨k - 1, by omega⟩
  rw [stb] at h3
  have hcl2 := colL_length (nextL g (colL s))
  rw [hnl] at hcl2
  have hnx := hnl (colL s)
  have hx2 := hlen (colL s)
  unfold ndL at *
  simp (disch := omega) only [go_sem, ↓reduceIte, c_iso_joined_stable_b6, hcl, h1]
  refine call_fz q1 ?_
  simp (disch := omega) only [go_sem, ↓reduceIte]
  refine call_by q2 ?_
  simp (disch := omega) only [go_sem, ↓reduceIte]
  refine bran_dec (fun d => ?_) (fun d => ?_)
  ·rw [if_pos (by omega)] at h3
   simp (disch := omega) only [go_sem, ↓reduceIte, hcl, h1]
   rw [h3]
  ·rw [if_neg (by omega)] at h3
   simp (disch := omega) only [go_sem, ↓reduceIte, hcl2]
   exact ⟨nextL g (colL s), by simp [hcl2], ⟨by omega, hx2, k, h3, by omega⟩, by omega⟩
theorem w_iso_Refine (hv : K_graph_Valid P F) (hj : K_iso_join P F) (hs : K_iso_joined_stable P F) (g : G) : W P (c_iso_Refine F) (DoneF [.t 2, .t 3] [] (refD g) []) (init [gD g]) := by
 have r1 := hv g
 have r2 := fun h : validG g = 0 => hj [g] (by simp) (by simpa using h)
 have r3 := fun h : validG g = 0 => hs g (InG.of_valid h)
 rw [joinG_one] at r2
 unfold refD
 generalize validG g = v at *
 generalize stabL g = R at *
 simp only [gDs, List.map_cons, List.map_nil, gD, gA] at *
 refine W_ofF ?_
 simp (disch := omega) only [go_sem, ↓reduceIte]
 refine call_by r1 ?_
 simp (disch := omega) only [go_sem, ↓reduceIte]
 refine bran_ndec (fun d => ?_) (fun d => ?_)
 ·rw [if_neg d]
  simp (disch := omega) only [go_sem, ↓reduceIte]
 ·subst d
  rw [if_pos rfl]
  simp (disch := omega) only [go_sem, ↓reduceIte]
  refine call_by (r2 rfl) ?_
  simp (disch := omega) only [go_sem, ↓reduceIte]
  refine call_fz (r3 rfl) ?_
  simp (disch := omega) only [go_sem, ↓reduceIte]
theorem w_iso_both (hv : K_graph_Valid P F) (a b : G) : W P (c_iso_both F) (Done [.t 4] [] (.int .i64 (bothE a b)) []) (init [gD a, gD b]) := by
 have r1 := hv a
 have r2 := hv b
 unfold bothE
 generalize validG a = v at *
 generalize validG b = u at *
 simp only [gD] at *
 refine W_of ?_
 simp (disch := omega) only [go_sem, ↓reduceIte]
 refine call_by r1 ?_
 simp (disch := omega) only [go_sem, ↓reduceIte]
 refine bran_ndec (fun d => ?_) (fun d => ?_)
 ·rw [if_neg d]
  simp (disch := omega) only [go_sem, ↓reduceIte]
 ·rw [if_pos d]
  simp (disch := omega) only [go_sem, ↓reduceIte]
  refine call_by r2 ?_
  simp (disch := omega) only [go_sem, ↓reduceIte]
theorem w_iso_shaped (a b : G) : W P (c_iso_shaped F) (Done [.t 4] [] (.bool (decide (a.n.length = b.n.length) && decide (a.e.length = b.e.length))) []) (init [gD a, gD b]) := by
 simp only [gD] at *
 refine W_of ?_
 have e1 : decide ((a.n.length : Int) = b.n.length) = decide (a.n.length = b.n.length) := by rw [decide_eq_decide]; omega
 have e2 : decide ((a.e.length : Int) = b.e.length) = decide (a.e.length = b.e.length) := by rw [decide_eq_decide]; omega
 by_cases c : a.n.length = b.n.length
 ·rw [decide_eq_true c] at *
  simp (disch := omega) only [go_sem, ↓reduceIte, e1, e2]
 ·rw [decide_eq_false c] at *
  simp (disch := omega) only [go_sem, ↓reduceIte, e1, e2]
end
@[go_sem] def c_iso_rounds_r0 : LL := [qB 3 0,qB 4 1]
@[go_sem] def c_iso_rounds_r1 (F : Fn) : LL := [qL 11 2 3,qL 12 2 4,⟨some 13,.buildSl 2 48 (.agg [.lst 1 [],.lst 3 []]) 2 [(0,.t 11),(1,.t 12)],none⟩,qc 14 (F "iso.join") [.t 13],qa 6 [.nl 1,.nl 3],qs 2 6 14]
@[go_sem] def c_iso_rounds_r2 (F : Fn) : LL := [qL 15 2 6,qc 16 (F "iso.joined.first") [.t 15],qm 7 16]
@[go_sem] def c_iso_rounds_r3 : LL := [qi 8 0]
@[go_sem] def c_iso_rounds_r4 : LL := [qm 17 8,qk .leq 18 17 40]
@[go_sem] def c_iso_rounds_r5 : LL := [qm 21 2,qm 22 8,qm 23 7,⟨some 24,.callm (.t 21) [.t 22,.t 23],none⟩]
@[go_sem] def c_iso_rounds_r6 (F : Fn) : LL := [qm 26 7,qc 27 (F "iso.colour") [.t 26],qm 25 27,qx 28 25 0,qx 29 25 1,qm 9 28,qm 10 29]
@[go_sem] def c_iso_rounds_r7 (F : Fn) : LL := [qL 30 2 6,qm 31 9,qc 32 (F "iso.joined.next") [.t 30,.t 31],qm 7 32]
@[go_sem] def c_iso_rounds_r8 : LL := [qm 19 8,qk .add 20 19 1,qm 8 20]
def c_iso_rounds_b9 (F : Fn) : LC := (.seq (.seq (.reg c_iso_rounds_r4 [2,6,7,8,18]) (.cond (.t 18) .skip (.exit 0))) (.seq (.block 1 (.seq (.seq (.reg c_iso_rounds_r5 [2,6,7,8,24]) (.cond (.t 24) .ret .skip)) (.seq (.reg (c_iso_rounds_r6 F) [2,6,8,9]) (.reg (c_iso_rounds_r7 F) [2,6,7,8])))) (.reg c_iso_rounds_r8 [2,6,7,8])))
@[go_sem] def c_iso_rounds (F : Fn) : LC := (.seq (.reg c_iso_rounds_r0 [2,3,4]) (.seq (.reg (c_iso_rounds_r1 F) [2,6]) (.seq (.reg (c_iso_rounds_r2 F) [2,6,7]) (.seq (.reg c_iso_rounds_r3 [2,6,7,8]) (.block 0 (.loop [2,6,7,8] (c_iso_rounds_b9 F)))))))
def h_iso_rounds : Hints := hn [2] [(0,[2,3,4]),(1,[2,6]),(2,[2,6,7]),(3,[2,6,7,8]),(4,[2,6,7,8,18]),(5,[2,6,7,8]),(6,[2,6,7,8,24]),(7,[2,6,8,9]),(8,[2,6,7,8])] [(4,[2,6,7,8])]
@[go_sem] def c_iso_count_r0 : LL := [qi 6 0,qi 7 0]
@[go_sem] def c_iso_count_r1 : LL := [qi 8 0,qi 9 0]
@[go_sem] def c_iso_count_r2 : LL := [qm 12 0,qz 13 12,qi 14 0]
@[go_sem] def c_iso_count_r3 : LL := [qo .lss 15 14 13]
@[go_sem] def c_iso_count_r4 : LL := [qm 16 14,qd 17 1 12 14,ql 18 1 17,qm 10 16,qm 11 18]
@[go_sem] def c_iso_count_r5 (F : Fn) : LL := [qm 22 11,qm 23 2,qc 24 (F "slices.Equal.I") [.t 22,.t 23],qv 25 24,qm 21 25]
@[go_sem] def c_iso_count_r6 : LL := [qm 27 10,qm 28 1,qo .lss 29 27 28,qm 26 29]
@[go_sem] def c_iso_count_r7 : LL := [qm 30 8,qk .add 31 30 1,qm 8 31]
@[go_sem] def c_iso_count_r8 : LL := [qm 19 9,qk .add 20 19 1,qm 9 20]
@[go_sem] def c_iso_count_r9 : LL := [qk .add 32 14 1,qm 14 32]
def c_iso_count_b10 (F : Fn) : LC := (.seq (.reg c_iso_count_r3 [1,2,8,9,12,13,14,15]) (.seq (.cond (.t 15) .skip (.exit 0)) (.seq (.block 1 (.seq (.reg c_iso_count_r4 [1,2,8,9,10,11,12,13,14]) (.block 2 (.seq (.reg (c_iso_count_r5 F) [1,2,8,9,10,12,13,14,21]) (.cond (.t 21) .skip (.seq (.reg c_iso_count_r6 [1,2,8,9,12,13,14,26]) (.cond (.t 26) (.reg c_iso_count_r7 [1,2,8,9,12,13,14]) (.reg c_iso_count_r8 [1,2,8,9,12,13,14])))))))) (.reg c_iso_count_r9 [1,2,8,9,12,13,14]))))
@[go_sem] def c_iso_count_r11 : LL := [qm 33 8,qm 34 9,qm 6 33,qm 7 34]
@[go_sem] def c_iso_count (F : Fn) : LC := (.seq (.reg c_iso_count_r0 [0,1,2]) (.seq (.reg c_iso_count_r1 [0,1,2,8,9]) (.seq (.seq (.reg c_iso_count_r2 [1,2,8,9,12,13,14]) (.block 0 (.loop [1,2,8,9,12,13,14] (c_iso_count_b10 F)))) (.seq (.reg c_iso_count_r11 [6,7]) .ret))))
def h_iso_count : Hints := hn [] [(0,[0,1,2]),(1,[0,1,2,8,9]),(2,[1,2,8,9,12,13,14]),(3,[1,2,8,9,12,13,14,15]),(4,[1,2,8,9,10,11,12,13,14]),(5,[1,2,8,9,12,13,14]),(6,[1,2,8,9,10,12,13,14,21]),(7,[1,2,8,9,12,13,14,26]),(8,[1,2,8,9,12,13,14]),(9,[1,2,8,9,12,13,14]),(10,[6,7])] [(3,[1,2,8,9,12,13,14])]
@[go_sem] def c_iso_Reason_1_r0 : LL := [qb 7 false]
@[go_sem] def c_iso_Reason_1_r1 (F : Fn) : LL := [qm 13 1,qc 14 (F "slices.Clone.int3") [.t 13],qm 8 14]
@[go_sem] def c_iso_Reason_1_r2 (F : Fn) : LL := [qm 15 8,⟨some 16,.call (F "slices.SortFunc.int3") [.t 15,.k (.clo (F "slices.Compare.I") [])] [.mu,.rd],none⟩]
@[go_sem] def c_iso_Reason_1_r3 : LL := [qm 17 8,qz 18 17,qi 19 0]
@[go_sem] def c_iso_Reason_1_r4 : LL := [qo .lss 20 19 18]
@[go_sem] def c_iso_Reason_1_r5 : LL := [qd 21 1 17 19,ql 22 1 21,qm 10 22]
@[go_sem] def c_iso_Reason_1_r6 (F : Fn) : LL := [qm 24 1,qf 25 0 2,ql 26 1 25,qz 27 26,qm 28 10,qc 29 (F "iso.count") [.t 24,.t 27,.t 28],qm 23 29,qx 30 23 0,qx 31 23 1,qm 11 30,qm 12 31]
@[go_sem] def c_iso_Reason_1_r7 : LL := [qm 32 11,qm 33 12,qo .neq 34 32 33]
@[go_sem] def c_iso_Reason_1_r8 (F : Fn) : LL := [qm 35 0,qm 36 10,qc 37 (F "slices.Clone.I") [.t 36],qm 38 11,qm 39 12,qu 40 [.int .i64 (0),.nl 1,.int .i64 (0),.int .i64 (0)] [(0,1,.t 35),(1,1,.t 37),(2,1,.t 38),(3,1,.t 39)],
 qs 4 3 40,⟨none,.store 1 (.t 4) (.k (.bool true)),none⟩]
@[go_sem] def c_iso_Reason_1_r9 : LL := [qb 7 true]
@[go_sem] def c_iso_Reason_1_r10 : LL := [qk .add 41 19 1,qm 19 41]
def c_iso_Reason_1_b11 (F : Fn) : LC := (.seq (.reg c_iso_Reason_1_r4 [0,1,2,3,4,17,18,19,20]) (.seq (.cond (.t 20) .skip (.exit 0)) (.seq (.block 1 (.seq (.reg c_iso_Reason_1_r5 [0,1,2,3,4,10,17,18,19]) (.seq (.reg (c_iso_Reason_1_r6 F) [0,1,2,3,4,10,11,12,17,18,19]) (.seq (.reg c_iso_Reason_1_r7 [0,1,2,3,4,10,11,12,17,18,19,34]) (.cond (.t 34) (.seq (.reg (c_iso_Reason_1_r8 F) [2,3,4]) (.seq (.reg c_iso_Reason_1_r9 [2,3,4,7]) .ret)) .skip))))) (.reg c_iso_Reason_1_r10 [0,1,2,3,4,17,18,19]))))
@[go_sem] def c_iso_Reason_1_r12 : LL := [qb 7 false]
@[go_sem] def c_iso_Reason_1 (F : Fn) : LC := (.seq (.reg c_iso_Reason_1_r0 [0,1,2,3,4]) (.seq (.reg (c_iso_Reason_1_r1 F) [0,1,2,3,4,8]) (.seq (.reg (c_iso_Reason_1_r2 F) [0,1,2,3,4,8]) (.seq (.seq (.reg c_iso_Reason_1_r3 [0,1,2,3,4,17,18,19]) (.block 0 (.loop [0,1,2,3,4,17,18,19] (c_iso_Reason_1_b11 F)))) (.seq (.reg c_iso_Reason_1_r12 [2,3,4,7]) .ret)))))
def h_iso_Reason_1 : Hints := hOf [2, 3, 4] (c_iso_Reason_1 fun _ => 0)
def sgR (g : G) : Nat → List (List Int)
 | 0 => frstL g
 | r + 1 => nextL g (colL (sgR g r))
def runR {σ : Type} (f : σ → Nat → σ × Bool) : Nat → σ → Nat → σ
 | 0, s, _ => s
 | k + 1, s, r => if (f s r).2 then (f s r).1 else runR f k (f s r).1 (r + 1)
def plainC : D → Bool
 | .int .. | .bool _ | .lst .. => true
 | _ => false
def cntL (l : List (List Int)) (x : List Int) : Nat := (l.filter fun y => decide (y = x)).length
section
variable (P : Program) (F : String → Nat)
def K_iso_rounds : Prop := ∀ (σ : Type) (c1 c2 c3 : σ → List D) (f : σ → Nat → σ × Bool) (g : Nat) (a b : G), validG a = 0 → validG b = 0 → (∀ s, (c1 s).all plainC = true ∧ (c2 s).all plainC = true ∧ (c3 s).all plainC = true) →
 (∀ s (r : Nat), r ≤ 40 → FC P g [.int .i64 r, .lst 1 (iis (sgR (joinG [a, b]) r)), .box (c1 s), .box (c2 s), .box (c3 s)] (.bool (f s r).2) [(2, .box (c1 (f s r).1)), (3, .box (c2 (f s r).1)), (4, .box (c3 (f s r).1))]) →
 ∀ s : σ, FC P (F "iso.rounds") [gD a, gD b, .clb g [.box (c1 s), .box (c2 s), .box (c3 s)]] (.tup []) [(2, .clb g [.box (c1 (runR f 41 s 0)), .box (c2 (runR f 41 s 0)), .box (c3 (runR f 41 s 0))])]
def K_iso_count : Prop := ∀ (l : List (List Int)) (k : Nat) (x : List Int), l.length ≤ 1000000 → (∀ y ∈ l, y.length ≤ 1000000) → FC P (F "iso.count") [.lst 1 (iis l), .int .i64 k, .lst 1 (ints x)] (.tup [.int .i64 (cntL (l.take k) x), .int .i64 (cntL (l.drop k) x)]) []
end
section
variable {α : Type}
theorem pl_adopt : ∀ {c : List D} {n : Nat}, c.all plainC = true → adopts adopt0 n c = (c, [], n)
 | [], n, _ => rfl
 | d :: c, n, h => by
  simp only [List.all_cons, Bool.and_eq_true] at h
  have h0 : adopt0 n d = (d, [], n) := by cases d <;> first | rfl | (simp [plainC] at h)
  simp only [adopts, h0, pl_adopt (n := n) h.2, List.nil_append]
theorem pl_expel : ∀ {c : List D} {hp : List (Nat × Ent)}, c.all plainC = true → expels expel0 hp c = some (c, hp)
 | [], hp, _ => rfl
 | d :: c, hp, h => by
  simp only [List.all_cons, Bool.and_eq_true] at h
  have h0 : expel0 hp d = some (d, hp) := by cases d <;> first | rfl | (simp [plainC] at h)
  simp only [expels, h0, pl_expel (hp := hp) h.2]
theorem pl_expelP : ∀ {c : List D} {hp : List (Nat × Ent)}, c.all plainC = true → expels expelP hp c = some (c, hp)
 | [], hp, _ => rfl
 | d :: c, hp, h => by
  simp only [List.all_cons, Bool.and_eq_true] at h
  have h0 : expelP hp d = some (d, hp) := by cases d <;> first | rfl | (simp [plainC] at h)
  simp only [expels, h0, pl_expelP (hp := hp) h.2]
theorem pl_ren : ∀ {c : List D} {hp : List (Nat × Ent)} {n : NS}, c.all plainC = true → renL (ren0 hp) n c = (c, n)
 | [], hp, n, _ => rfl
 | d :: c, hp, n, h => by
  simp only [List.all_cons, Bool.and_eq_true] at h
  have h0 : ren0 hp n d = (d, n) := by cases d <;> first | rfl | (simp [plainC] at h)
  simp only [renL, h0, pl_ren (hp := hp) (n := n) h.2]
theorem pl_ok {c : List D} (h : c.all plainC = true) : c.all okA0 = true := by
 rw [List.all_eq_true] at *
 intro d hd
 have := h d hd
 cases d <;> first | rfl | (simp [plainC] at this)
theorem InG.join {a b : G} (ha : validG a = 0) (hb : validG b = 0) : InG (joinG [a, b]) ∧ (joinG [a, b]).n.length = a.n.length + b.n.length := by
 have h1 := InG.of_valid ha
 have h2 := InG.of_valid hb
 obtain ⟨v1, v2, _⟩ := valid_spec ha
 obtain ⟨u1, u2, _⟩ := valid_spec hb
 have e : joinG [a, b] = join2 a b := by
  have := joinG_one a
  simp only [joinG, List.foldl_cons, List.foldl_nil] at this ⊢
  rw [this]
 rw [e]
 refine ⟨⟨by simp [join2]; omega, by simp [join2]; omega, fun x hx => ?_⟩, by simp [join2]⟩
 simp only [join2, List.length_append]
 rcases List.mem_append.1 hx with hx | hx
 ·have := h1.2.2 x hx; omega
 ·obtain ⟨y, hy, rfl⟩ := List.mem_map.1 hx
  have := h2.2.2 y hy
  simp only [shJ]
  omega
theorem sgR_length (g : G) : ∀ r, (sgR g r).length = g.n.length
 | 0 => frstL_length g
 | r + 1 => nextL_length g _
theorem sgR_len {g : G} (h : g.e.length ≤ 200) : ∀ r, ∀ x ∈ sgR g r, x.length ≤ 1000000
 | 0 => frstL_len g
 | r + 1 => nextL_len h
end
section
variable {P : Program} {F : String → Nat} {α : Type}
theorem w_iso_rounds (hj : K_iso_join P F) (hf : K_iso_joined_first P F) (hc : K_iso_colour P F) (hn : K_iso_joined_next P F) (σ : Type) (c1 c2 c3 : σ → List D) (f : σ → Nat → σ × Bool) (g : Nat) (a b : G) (va : validG a = 0) (vb : validG b = 0)
  (hp : ∀ s, (c1 s).all plainC = true ∧ (c2 s).all plainC = true ∧ (c3 s).all plainC = true)
  (hg : ∀ s (r : Nat), r ≤ 40 → FC P g [.int .i64 r, .lst 1 (iis (sgR (joinG [a, b]) r)), .box (c1 s), .box (c2 s), .box (c3 s)] (.bool (f s r).2) [(2, .box (c1 (f s r).1)), (3, .box (c2 (f s r).1)), (4, .box (c3 (f s r).1))]) (s : σ) :
  W P (c_iso_rounds F) (Done [] [2] (.tup []) [(2, .clb g [.box (c1 (runR f 41 s 0)), .box (c2 (runR f 41 s 0)), .box (c3 (runR f 41 s 0))])]) (init [gD a, gD b, .clb g [.box (c1 s), .box (c2 s), .box (c3 s)]]) := by
 have r1 := hj [a, b] (by simp) (by simp [va, vb])
 obtain ⟨hi, _⟩ := InG.join va vb
 have r2 := hf _ hi.1
 have hsl := sgR_length (joinG [a, b])
 have hsx := sgR_len (g := joinG [a, b]) hi.2.1
 have hsc := fun r => hc (sgR (joinG [a, b]) r) (by have := hi.1; rw [hsl]; omega) (hsx r)
 have hsn := fun r => hn (joinG [a, b]) (colL (sgR (joinG [a, b]) r)) hi (by rw [colL_length, hsl])
 have hs0 : frstL (joinG [a, b]) = sgR (joinG [a, b]) 0 := rfl
 have hss : ∀ r, nextL (joinG [a, b]) (colL (sgR (joinG [a, b]) r)) = sgR (joinG [a, b]) (r + 1) := fun _ => rfl
 rw [hs0] at r2
 simp only [hss] at hsn
 have hN := hi.1
 clear hs0 hss hi hc hn hf hj
 simp only [gDs, List.map_cons, List.map_nil, gD, gA] at *
 generalize joinG [a, b] = J at *
 have ad : ∀ s n, adopts adopt0 n (c1 s) = (c1 s, [], n) ∧ adopts adopt0 n (c2 s) = (c2 s, [], n) ∧ adopts adopt0 n (c3 s) = (c3 s, [], n) := fun s n => ⟨pl_adopt (hp s).1, pl_adopt (hp s).2.1, pl_adopt (hp s).2.2⟩
 have ex : ∀ s hp', expels expel0 hp' (c1 s) = some (c1 s, hp') ∧ expels expel0 hp' (c2 s) = some (c2 s, hp') ∧ expels expel0 hp' (c3 s) = some (c3 s, hp') := fun s _ => ⟨pl_expel (hp s).1, pl_expel (hp s).2.1, pl_expel (hp s).2.2⟩
 have ep : ∀ s hp', expels expelP hp' (c1 s) = some (c1 s, hp') ∧ expels expelP hp' (c2 s) = some (c2 s, hp') ∧ expels expelP hp' (c3 s) = some (c3 s, hp') := fun s _ => ⟨pl_expelP (hp s).1, pl_expelP (hp s).2.1, pl_expelP (hp s).2.2⟩
 have rn : ∀ s hp' n, renL (ren0 hp') n (c1 s) = (c1 s, n) ∧ renL (ren0 hp') n (c2 s) = (c2 s, n) ∧ renL (ren0 hp') n (c3 s) = (c3 s, n) := fun s _ _ => ⟨pl_ren (hp s).1, pl_ren (hp s).2.1, pl_ren (hp s).2.2⟩
 have ok : ∀ s, (c1 s).all okA0 = true ∧ (c2 s).all okA0 = true ∧ (c3 s).all okA0 = true := fun s => ⟨pl_ok (hp s).1, pl_ok (hp s).2.1, pl_ok (hp s).2.2⟩
 refine W_of ?_
 simp (disch := omega) only [go_sem, ↓reduceIte, ad]
 refine call_by r1 ?_
 simp (disch := omega) only [go_sem, ↓reduceIte, ad]
 refine call_fz r2 ?_
 simp (disch := omega) only [go_sem, ↓reduceIte]
 generalize hU : runR f 41 s 0 = U
 refine W_loop (fun p : Nat × σ => ⟨[(2, .clo g [.pt 0 0, .pt 1 0, .pt 2 0]), (6, .pt 5 0), (7, .sl 6 0 (sgR J p.1).length), (8, .int .i64 p.1)],
   [(0, .box (c1 p.2)), (1, .box (c2 p.2)), (2, .box (c3 p.2)), (3, .imm 1 (ints J.n)), (4, .imm 3 (eds J.e)), (5, .box [.sl 3 0 J.n.length, .sl 4 0 J.e.length]), (6, .arr 1 (iis (sgR J p.1)))], 7⟩) (fun p => p.1 ≤ 41 ∧ U = runR f (41 - p.1) p.2 p.1) (fun p => 41 - p.1) (0, s) ?_ ?_ ?_
 ·simp (disch := omega) only [go_sem, ↓reduceIte, rn]
  rfl
 ·exact ⟨by simp, hU.symm⟩
 ·rintro ⟨r, t⟩ ⟨h1, h2⟩
  simp only at h1 h2
  simp (disch := omega) only [go_sem, ↓reduceIte, c_iso_rounds_b9]
  refine bran_dec (fun d => ?_) (fun d => ?_)
  ·have q := hg t r (by omega)
   have qc := hsc r
   have qn := hsn r
   rw [show 41 - r = (40 - r) + 1 by omega, runR] at h2
   cases hb : (f t r).2 with
   | true =>
    rw [hb, if_pos rfl] at h2
    rw [hb] at q
    simp (disch := omega) only [go_sem, ↓reduceIte, ad, ex, ep, ok]
    refine call_fz q ?_
    rw [← h2] at *
    simp (disch := omega) only [go_sem, ↓reduceIte, ad, ex, ep, ok, rn]
   | false =>
    rw [hb, if_neg (by simp)] at h2
    rw [hb] at q
    generalize (f t r).1 = u at *
    simp (disch := omega) only [go_sem, ↓reduceIte, ad, ex, ep, ok]
    refine call_fz q ?_
    simp (disch := omega) only [go_sem, ↓reduceIte, ad, ex, ep, ok, rn]
    refine call_by qc ?_
    simp (disch := omega) only [go_sem, ↓reduceIte, ad, ex, ep, ok, rn]
    refine call_fz qn ?_
    simp (disch := omega) only [go_sem, ↓reduceIte, ad, ex, ep, ok, rn]
    refine ⟨(r + 1, u), by simp, ⟨by simp only; omega, ?_⟩, by simp only; omega⟩
    rw [h2]
    simp only
    congr 1
    omega
  ·obtain rfl : r = 41 := by omega
   rw [Nat.sub_self, runR] at h2
   rw [h2]
   simp (disch := omega) only [go_sem, ↓reduceIte, ad, ex, ep, ok]
theorem pl_okA0 {c : List D} (h : c.all plainC = true) : okB (.box c) = true := by
 show c.all okA0 = true
 rw [List.all_eq_true] at *
 intro d hd
 have := h d hd
 cases d <;> first | rfl | (simp [plainC] at this)
theorem rounds_ok {a b : G} {g : Nat} {c1 c2 c3 : List D} (h : c1.all plainC = true ∧ c2.all plainC = true ∧ c3.all plainC = true) : [gD a, gD b, .clb g [.box c1, .box c2, .box c3]].all okA1 = true := by
 have : okA1 (.clb g [.box c1, .box c2, .box c3]) = true := by
  show [D.box c1, .box c2, .box c3].all okB = true
  simp only [List.all_cons, List.all_nil, pl_okA0 h.1, pl_okA0 h.2.1, pl_okA0 h.2.2, Bool.and_true]
 simp only [List.all_cons, List.all_nil, this, Bool.and_true]
 rfl
end
end Go.Am
