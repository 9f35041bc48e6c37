/- Complements make pushouts; the law ComplementPushout. -/
import Derived.Test.YtoeomfoohdheoaaSpJ
import Derived.Test.YtoeomfoohdheoaaSoH
namespace Go.Am
open Go
set_option linter.unusedVariables false
set_option linter.unusedSimpArgs false
attribute [local irreducible] W
/- l12.ComplementPushout -/
def c_l12_ComplementPushout_r0 (F : String → Nat) : List LI := [⟨some 3, .bx (.t 0), none⟩,
  ⟨some 6, .mov (.k (.bool false)), none⟩]
def c_l12_ComplementPushout_r1 (F : String → Nat) : List LI := [⟨some 21, .call (F "l12.awake") [] [], none⟩,
  ⟨some 22, .not (.t 21), none⟩]
def c_l12_ComplementPushout_r2 (F : String → Nat) : List LI := [⟨some 6, .mov (.k (.bool false)), none⟩]
def c_l12_ComplementPushout_r3 (F : String → Nat) : List LI := [⟨some 23, .load true 2 (.t 3), none⟩,
  ⟨some 24, .mov (.t 1), none⟩,
  ⟨some 25, .mov (.t 2), none⟩,
  ⟨some 26, .call (F "l12.made") [.t 23, .t 24, .t 25] [], none⟩,
  ⟨some 7, .alloc [.nl 1, .nl 3, .nl 1, .nl 3, .nl 1, .nl 1, .nl 1, .nl 1], none⟩,
  ⟨none, .store 8 (.t 7) (.t 26), none⟩]
def c_l12_ComplementPushout_r4 (F : String → Nat) : List LI := [⟨some 28, .fad 0 (.t 7), none⟩,
  ⟨some 29, .load true 2 (.t 28), none⟩,
  ⟨some 30, .fad 2 (.t 7), none⟩,
  ⟨some 31, .load true 2 (.t 30), none⟩,
  ⟨some 32, .fad 4 (.t 7), none⟩,
  ⟨some 33, .load true 2 (.t 32), none⟩,
  ⟨some 34, .fad 6 (.t 7), none⟩,
  ⟨some 35, .load true 2 (.t 34), none⟩,
  ⟨some 36, .call (F "complement.Of") [.t 29, .t 31, .t 33, .t 35] [], none⟩,
  ⟨some 27, .mov (.t 36), none⟩,
  ⟨some 37, .ext (.t 27) 0, none⟩,
  ⟨some 38, .ext (.t 27) 1, none⟩,
  ⟨some 8, .alloc [.nl 1, .nl 1], none⟩,
  ⟨none, .store 2 (.t 8) (.t 37), none⟩,
  ⟨some 9, .mov (.t 38), none⟩]
def c_l12_ComplementPushout_r5 (F : String → Nat) : List LI := [⟨some 39, .mov (.t 9), none⟩,
  ⟨some 40, .bin .neq (.t 39) (.k (.int .i64 (0))), none⟩]
def c_l12_ComplementPushout_r6 (F : String → Nat) : List LI := [⟨some 41, .mov (.t 9), none⟩,
  ⟨some 42, .bin .eql (.t 41) (.k (.int .i64 (15))), none⟩,
  ⟨some 43, .mov (.t 42), none⟩,
  ⟨some 44, .mov (.t 9), some (43, false)⟩,
  ⟨some 45, .bin .eql (.t 44) (.k (.int .i64 (14))), some (43, false)⟩,
  ⟨some 46, .pick (.t 43) (.k (.bool true)) (.t 45), none⟩,
  ⟨some 6, .mov (.t 46), none⟩]
def c_l12_ComplementPushout_r7 (F : String → Nat) : List LI := [⟨some 48, .fad 0 (.t 7), none⟩,
  ⟨some 49, .load true 2 (.t 48), none⟩,
  ⟨some 50, .fad 4 (.t 7), none⟩,
  ⟨some 51, .load true 2 (.t 50), none⟩,
  ⟨some 52, .call (F "subgraph.Extract") [.t 49, .t 51] [], none⟩,
  ⟨some 47, .mov (.t 52), none⟩,
  ⟨some 53, .ext (.t 47) 0, none⟩,
  ⟨some 54, .ext (.t 47) 1, none⟩,
  ⟨some 55, .ext (.t 47) 2, none⟩,
  ⟨some 10, .alloc [.nl 1, .nl 3], none⟩,
  ⟨some 11, .alloc [.nl 1, .nl 1], none⟩,
  ⟨none, .store 2 (.t 10) (.t 53), none⟩,
  ⟨none, .store 2 (.t 11) (.t 54), none⟩,
  ⟨some 12, .mov (.t 55), none⟩]
def c_l12_ComplementPushout_r8 (F : String → Nat) : List LI := [⟨some 57, .fad 2 (.t 7), none⟩,
  ⟨some 58, .load true 2 (.t 57), none⟩,
  ⟨some 59, .load true 2 (.t 8), none⟩,
  ⟨some 60, .call (F "subgraph.Extract") [.t 58, .t 59] [], none⟩,
  ⟨some 56, .mov (.t 60), none⟩,
  ⟨some 61, .ext (.t 56) 0, none⟩,
  ⟨some 62, .ext (.t 56) 1, none⟩,
  ⟨some 63, .ext (.t 56) 2, none⟩,
  ⟨some 13, .alloc [.nl 1, .nl 3], none⟩,
  ⟨some 14, .alloc [.nl 1, .nl 1], none⟩,
  ⟨none, .store 2 (.t 13) (.t 61), none⟩,
  ⟨none, .store 2 (.t 14) (.t 62), none⟩,
  ⟨some 15, .mov (.t 63), none⟩]
def c_l12_ComplementPushout_r9 (F : String → Nat) : List LI := [⟨some 64, .mov (.t 12), none⟩,
  ⟨some 65, .bin .neq (.t 64) (.k (.int .i64 (0))), none⟩,
  ⟨some 66, .mov (.t 65), none⟩,
  ⟨some 67, .mov (.t 15), some (66, false)⟩,
  ⟨some 68, .bin .neq (.t 67) (.k (.int .i64 (0))), some (66, false)⟩,
  ⟨some 69, .pick (.t 66) (.k (.bool true)) (.t 68), none⟩]
def c_l12_ComplementPushout_r10 (F : String → Nat) : List LI := [⟨some 6, .mov (.k (.bool false)), none⟩]
def c_l12_ComplementPushout_r11 (F : String → Nat) : List LI := [⟨some 70, .build [.nl 1, .nl 1] [], none⟩,
  ⟨some 16, .alloc [.nl 1, .nl 1], none⟩,
  ⟨none, .store 2 (.t 16) (.t 70), none⟩]
def c_l12_ComplementPushout_r12 (F : String → Nat) : List LI := [⟨some 71, .fad 4 (.t 7), none⟩,
  ⟨some 72, .fad 0 (.t 71), none⟩,
  ⟨some 73, .load false 1 (.t 72), none⟩,
  ⟨some 74, .len (.t 73), none⟩,
  ⟨some 75, .mov (.k (.int .i64 (0))), none⟩]
def c_l12_ComplementPushout_r13 (F : String → Nat) : List LI := [⟨some 76, .bin .lss (.t 75) (.t 74), none⟩]
def c_l12_ComplementPushout_r14 (F : String → Nat) : List LI := [⟨some 77, .iad 1 (.t 73) (.t 75), none⟩,
  ⟨some 78, .load false 1 (.t 77), none⟩,
  ⟨some 18, .mov (.t 78), none⟩]
def c_l12_ComplementPushout_r15 (F : String → Nat) : List LI := [⟨some 79, .fad 0 (.t 16), none⟩,
  ⟨some 80, .load false 1 (.t 79), none⟩,
  ⟨some 81, .fad 0 (.t 8), none⟩,
  ⟨some 82, .load false 1 (.t 81), none⟩,
  ⟨some 83, .fad 6 (.t 7), none⟩,
  ⟨some 84, .fad 0 (.t 83), none⟩,
  ⟨some 85, .load false 1 (.t 84), none⟩,
  ⟨some 86, .mov (.t 18), none⟩,
  ⟨some 87, .iad 1 (.t 85) (.t 86), none⟩,
  ⟨some 88, .load false 1 (.t 87), none⟩,
  ⟨some 89, .call (F "slices.Index.I") [.t 82, .t 88] [], none⟩,
  ⟨some 90, .buildSl 1 8 (.int .i64 (0)) 1 [(0, .t 89)], none⟩,
  ⟨some 91, .app 1 8 (.t 80) (.t 90), none⟩,
  ⟨some 92, .fad 0 (.t 16), none⟩,
  ⟨none, .store 1 (.t 92) (.t 91), none⟩]
def c_l12_ComplementPushout_r16 (F : String → Nat) : List LI := [⟨some 93, .bin .add (.t 75) (.k (.int .i64 (1))), none⟩,
  ⟨some 75, .mov (.t 93), none⟩]
def c_l12_ComplementPushout_b17 (F : String → Nat) : LC := (.seq (.reg (c_l12_ComplementPushout_r13 F) [7, 8, 10, 11, 13, 14, 16, 73, 74, 75, 76]) (.seq (.cond (.t 76) .skip (.exit 0)) (.seq (.block 1 (.seq (.reg (c_l12_ComplementPushout_r14 F) [7, 8, 10, 11, 13, 14, 16, 18, 73, 74, 75]) (.dreg [(1, none, [], true), (10, none, [1], false), (11, none, [1], false)] (c_l12_ComplementPushout_r15 F) [7, 8, 10, 11, 13, 14, 16, 73, 74, 75]))) (.reg (c_l12_ComplementPushout_r16 F) [7, 8, 10, 11, 13, 14, 16, 73, 74, 75]))))
def c_l12_ComplementPushout_r18 (F : String → Nat) : List LI := [⟨some 94, .fad 4 (.t 7), none⟩,
  ⟨some 95, .fad 1 (.t 94), none⟩,
  ⟨some 96, .load false 1 (.t 95), none⟩,
  ⟨some 97, .len (.t 96), none⟩,
  ⟨some 98, .mov (.k (.int .i64 (0))), none⟩]
def c_l12_ComplementPushout_r19 (F : String → Nat) : List LI := [⟨some 99, .bin .lss (.t 98) (.t 97), none⟩]
def c_l12_ComplementPushout_r20 (F : String → Nat) : List LI := [⟨some 100, .iad 1 (.t 96) (.t 98), none⟩,
  ⟨some 101, .load false 1 (.t 100), none⟩,
  ⟨some 20, .mov (.t 101), none⟩]
def c_l12_ComplementPushout_r21 (F : String → Nat) : List LI := [⟨some 102, .fad 1 (.t 16), none⟩,
  ⟨some 103, .load false 1 (.t 102), none⟩,
  ⟨some 104, .fad 1 (.t 8), none⟩,
  ⟨some 105, .load false 1 (.t 104), none⟩,
  ⟨some 106, .fad 6 (.t 7), none⟩,
  ⟨some 107, .fad 1 (.t 106), none⟩,
  ⟨some 108, .load false 1 (.t 107), none⟩,
  ⟨some 109, .mov (.t 20), none⟩,
  ⟨some 110, .iad 1 (.t 108) (.t 109), none⟩,
  ⟨some 111, .load false 1 (.t 110), none⟩,
  ⟨some 112, .call (F "slices.Index.I") [.t 105, .t 111] [], none⟩,
  ⟨some 113, .buildSl 1 8 (.int .i64 (0)) 1 [(0, .t 112)], none⟩,
  ⟨some 114, .app 1 8 (.t 103) (.t 113), none⟩,
  ⟨some 115, .fad 1 (.t 16), none⟩,
  ⟨none, .store 1 (.t 115) (.t 114), none⟩]
def c_l12_ComplementPushout_r22 (F : String → Nat) : List LI := [⟨some 116, .bin .add (.t 98) (.k (.int .i64 (1))), none⟩,
  ⟨some 98, .mov (.t 116), none⟩]
def c_l12_ComplementPushout_b23 (F : String → Nat) : LC := (.seq (.reg (c_l12_ComplementPushout_r19 F) [7, 8, 10, 11, 13, 14, 16, 96, 97, 98, 99]) (.seq (.cond (.t 99) .skip (.exit 2)) (.seq (.block 3 (.seq (.reg (c_l12_ComplementPushout_r20 F) [7, 8, 10, 11, 13, 14, 16, 20, 96, 97, 98]) (.dreg [(1, none, [], true), (10, none, [1], false), (11, none, [1], false)] (c_l12_ComplementPushout_r21 F) [7, 8, 10, 11, 13, 14, 16, 96, 97, 98]))) (.reg (c_l12_ComplementPushout_r22 F) [7, 8, 10, 11, 13, 14, 16, 96, 97, 98]))))
def c_l12_ComplementPushout_r24 (F : String → Nat) : List LI := [⟨some 117, .load true 2 (.t 10), none⟩,
  ⟨some 118, .fad 0 (.t 7), none⟩,
  ⟨some 119, .load true 2 (.t 118), none⟩,
  ⟨some 120, .load true 2 (.t 13), none⟩,
  ⟨some 121, .load true 2 (.t 11), none⟩,
  ⟨some 122, .load true 2 (.t 16), none⟩,
  ⟨some 123, .build [.nl 1, .nl 3, .nl 1, .nl 3, .nl 1, .nl 3, .nl 1, .nl 1, .nl 1, .nl 1] [(0, 2, .t 117), (2, 2, .t 119), (4, 2, .t 120), (6, 2, .t 121), (8, 2, .t 122)], none⟩,
  ⟨some 124, .fad 2 (.t 7), none⟩,
  ⟨some 125, .load true 2 (.t 124), none⟩,
  ⟨some 126, .fad 6 (.t 7), none⟩,
  ⟨some 127, .load true 2 (.t 126), none⟩,
  ⟨some 128, .load true 2 (.t 14), none⟩,
  ⟨some 129, .call (F "pushout.Check") [.t 123, .t 125, .t 127, .t 128] [], none⟩,
  ⟨some 6, .mov (.t 129), none⟩]
def c_l12_ComplementPushout (F : String → Nat) : LC := (.seq (.reg (c_l12_ComplementPushout_r0 F) [1, 2, 3]) (.seq (.seq (.reg (c_l12_ComplementPushout_r1 F) [1, 2, 3, 22]) (.cond (.t 22) (.seq (.reg (c_l12_ComplementPushout_r2 F) [6]) .ret) .skip)) (.seq (.reg (c_l12_ComplementPushout_r3 F) [7]) (.seq (.reg (c_l12_ComplementPushout_r4 F) [7, 8, 9]) (.seq (.seq (.reg (c_l12_ComplementPushout_r5 F) [7, 8, 9, 40]) (.cond (.t 40) (.seq (.reg (c_l12_ComplementPushout_r6 F) [6]) .ret) .skip)) (.seq (.reg (c_l12_ComplementPushout_r7 F) [7, 8, 10, 11, 12]) (.seq (.reg (c_l12_ComplementPushout_r8 F) [7, 8, 10, 11, 12, 13, 14, 15]) (.seq (.seq (.reg (c_l12_ComplementPushout_r9 F) [7, 8, 10, 11, 13, 14, 69]) (.cond (.t 69) (.seq (.reg (c_l12_ComplementPushout_r10 F) [6]) .ret) .skip)) (.seq (.reg (c_l12_ComplementPushout_r11 F) [7, 8, 10, 11, 13, 14, 16]) (.seq (.seq (.reg (c_l12_ComplementPushout_r12 F) [7, 8, 10, 11, 13, 14, 16, 73, 74, 75]) (.block 0 (.loop [7, 8, 10, 11, 13, 14, 16, 73, 74, 75] (c_l12_ComplementPushout_b17 F)))) (.seq (.seq (.reg (c_l12_ComplementPushout_r18 F) [7, 8, 10, 11, 13, 14, 16, 96, 97, 98]) (.block 2 (.loop [7, 8, 10, 11, 13, 14, 16, 96, 97, 98] (c_l12_ComplementPushout_b23 F)))) (.seq (.reg (c_l12_ComplementPushout_r24 F) [6]) .ret))))))))))))
def h_l12_ComplementPushout : Hints := ⟨[], fun _ => [], tab [(0, [1, 2, 3]), (1, [1, 2, 3, 22]), (2, [6]), (3, [7]), (4, [7, 8, 9]), (5, [7, 8, 9, 40]), (6, [6]), (7, [7, 8, 10, 11, 12]), (8, [7, 8, 10, 11, 12, 13, 14, 15]), (9, [7, 8, 10, 11, 13, 14, 69]), (10, [6]), (11, [7, 8, 10, 11, 13, 14, 16]), (12, [7, 8, 10, 11, 13, 14, 16, 73, 74, 75]), (13, [7, 8, 10, 11, 13, 14, 16, 73, 74, 75, 76]), (14, [7, 8, 10, 11, 13, 14, 16, 18, 73, 74, 75]), (15, [7, 8, 10, 11, 13, 14, 16, 73, 74, 75]), (16, [7, 8, 10, 11, 13, 14, 16, 73, 74, 75]), (17, [7, 8, 10, 11, 13, 14, 16, 96, 97, 98]), (18, [7, 8, 10, 11, 13, 14, 16, 96, 97, 98, 99]), (19, [7, 8, 10, 11, 13, 14, 16, 20, 96, 97, 98]), (20, [7, 8, 10, 11, 13, 14, 16, 96, 97, 98]), (21, [7, 8, 10, 11, 13, 14, 16, 96, 97, 98]), (22, [6])], tab [(13, [7, 8, 10, 11, 13, 14, 16, 73, 74, 75]), (18, [7, 8, 10, 11, 13, 14, 16, 96, 97, 98])]⟩

attribute [go_sem] c_l12_ComplementPushout_r0 c_l12_ComplementPushout_r1 c_l12_ComplementPushout_r2 c_l12_ComplementPushout_r3 c_l12_ComplementPushout_r4 c_l12_ComplementPushout_r5 c_l12_ComplementPushout_r6 c_l12_ComplementPushout_r7 c_l12_ComplementPushout_r8 c_l12_ComplementPushout_r9 c_l12_ComplementPushout_r10 c_l12_ComplementPushout_r11 c_l12_ComplementPushout_r12 c_l12_ComplementPushout_r13 c_l12_ComplementPushout_r14 c_l12_ComplementPushout_r15 c_l12_ComplementPushout_r16 c_l12_ComplementPushout_r18 c_l12_ComplementPushout_r19 c_l12_ComplementPushout_r20 c_l12_ComplementPushout_r21 c_l12_ComplementPushout_r22 c_l12_ComplementPushout_r24 c_l12_ComplementPushout
def toL (im kn pl : List Int) : List Int := kn.map fun n => idx (fun y => decide (gt im n = y)) pl 0
def cxTo (x : Cx) (p : Mo) : Mo := ⟨toL x.m.n x.k.n p.n, toL x.m.e x.k.e p.e⟩
def cxSp (x : Cx) (p : Mo) : Sp := ⟨exG x.l x.k, x.l, exG x.g p, x.k, cxTo x p⟩
section
variable (P : Program) (F : String → Nat)
def K_l12_ComplementPushout : Prop := ∀ (d : Dr) (c : List Int) (s : Int), d.ok → d.n.length ≤ maxL → d.e.length ≤ maxL → c.length ≤ 2000000 → (∀ v ∈ c, Byte v) → FC P (F "l12.ComplementPushout") [drD d, .lst 1 (u8s c), .int .u64 s] (.bool true) []
end
section
theorem toL_len (im kn pl : List Int) : (toL im kn pl).length = kn.length := by simp [toL]
theorem toL_gt {im kn pl : List Int} {a : Nat} (h : a < kn.length) : gt (toL im kn pl) a = idx (fun y => decide (gt im (gt kn a) = y)) pl 0 := by
  rw [gt_nat (by rw [toL_len]; exact h), gt_nat h]
  simp [toL]
theorem toL_step {im kn pl : List Int} {i : Nat} (h : i < kn.length) : toL im (kn.take (i + 1)) pl = toL im (kn.take i) pl ++ [idx (fun y => decide (gt im (gt kn i) = y)) pl 0] := by
  rw [take_gt h]; simp [toL]
theorem intN {x : Int} {n : Nat} (h : 0 ≤ x ∧ x < n) : ∃ k : Nat, k < n ∧ x = k := ⟨x.toNat, by omega, by omega⟩
theorem rest_asc (n : Nat) (gone : List Int) : (restL n gone).Pairwise (· < ·) := sel_pair _ _
theorem rest_mem {n j : Nat} {gone : List Int} : (j : Int) ∈ restL n gone ↔ j < n ∧ ¬ (j : Int) ∈ gone := by
  rw [restL, sel_memN]; simp
theorem rest_kept {im kn : List Int} {n : Nat} (hid : idL im kn = []) (hb : ∀ i : Nat, i < im.length → 0 ≤ gt im i ∧ gt im i < n) (hk : AscL kn im.length) {i : Nat} (hi : i < im.length) (h : gt im i ∈ restL n (goneL im kn)) : (i : Int) ∈ kn := by
  obtain ⟨j, h2, h3⟩ := intN (hb i hi)
  rw [h3] at h
  refine Decidable.byContradiction fun hn => (rest_mem.1 h).2 ?_
  exact goneL_mem.2 ⟨i, hi, hn, h3⟩
section
variable {im kn : List Int} {n : Nat} (hid : idL im kn = []) (hb : ∀ i : Nat, i < im.length → 0 ≤ gt im i ∧ gt im i < n) (hk : AscL kn im.length)
include hid hb hk
/-- What is kept stays in the rest. -/
theorem kept_rest {i : Nat} (hi : (i : Int) ∈ kn) : gt im i ∈ restL n (goneL im kn) := by
  have h1 := hk.b _ hi
  obtain ⟨j, h2, h3⟩ := intN (hb i (by omega))
  rw [h3]
  refine rest_mem.2 ⟨h2, fun hg => ?_⟩
  obtain ⟨a, a1, a2, a3⟩ := goneL_mem.1 hg
  rcases Nat.lt_trichotomy a i with c | c | c
  · exact a2 (idL_nil hid c (by omega) (by rw [a3, h3])).1
  · subst c; exact a2 hi
  · exact a2 (idL_nil hid c a1 (by rw [a3, h3])).2
theorem to_at {a : Nat} (ha : a < kn.length) : ∃ t : Nat, t < (restL n (goneL im kn)).length ∧ gt (toL im kn (restL n (goneL im kn))) a = t ∧ (cntB (restL n (goneL im kn)) (gt im (gt kn a)) : Int) = t ∧ gt (restL n (goneL im kn)) t = gt im (gt kn a) := by
  have hm := gt_mem (l := kn) (j := (a : Int)) (by omega) (by omega)
  obtain ⟨i, h1, h2⟩ := intN (hk.b _ hm)
  rw [h2] at hm
  have hr := kept_rest hid hb hk hm
  obtain ⟨t, t1, t2, t3⟩ := cntB_in (rest_asc _ _) hr
  refine ⟨t, t1, ?_, by rw [h2, t2], by rw [h2, t3]⟩
  rw [toL_gt ha, h2, idx_asc (rest_asc _ _) hr, t2]
theorem cl_facts {P K : List Int} (hc : ∀ a : Nat, a < kn.length → gt P (gt kn a) = gt K (gt (toL im kn (restL n (goneL im kn))) a)) :
    (∀ i j : Nat, i < im.length → j < im.length → gt im i = gt im j → gt P i = gt P j) ∧
    (∀ i j : Nat, i < im.length → j < (restL n (goneL im kn)).length → gt im i = gt (restL n (goneL im kn)) j → gt P i = gt K j) ∧
    (∀ i j : Nat, i < (restL n (goneL im kn)).length → j < (restL n (goneL im kn)).length → gt (restL n (goneL im kn)) i = gt (restL n (goneL im kn)) j → gt K i = gt K j) ∧
    (∀ j : Nat, j < n → (∃ i : Nat, i < im.length ∧ gt im i = j) ∨ ∃ i : Nat, i < (restL n (goneL im kn)).length ∧ gt (restL n (goneL im kn)) i = j) := by
  have key : ∀ i j : Nat, i < im.length → j < (restL n (goneL im kn)).length → gt im i = gt (restL n (goneL im kn)) j → gt P i = gt K j := fun i j hi hj e => by
    have hm := rest_kept hid hb hk hi (by rw [e]; exact gt_mem (by omega) (by omega))
    obtain ⟨a, a1, a2⟩ := mem_gt hm
    obtain ⟨t, t1, t2, t3, t4⟩ := to_at hid hb hk a1
    have := hc a a1
    rw [t2, a2] at this
    rw [this, asc_inj (rest_asc _ _) t1 hj (by rw [t4, a2, e])]
  refine ⟨fun i j hi hj e => ?_, key, fun i j hi hj e => ?_, fun j hj => ?_⟩
  · by_cases c : i = j
    · rw [c]
    · have hm : (i : Int) ∈ kn := by
        rcases Nat.lt_or_gt_of_ne c with c | c
        · exact (idL_nil hid c hj e).1
        · exact (idL_nil hid c hi e.symm).2
      have hr := kept_rest hid hb hk hm
      obtain ⟨t, t1, t2⟩ := mem_gt hr
      rw [key i t hi t1 t2.symm, key j t hj t1 (by rw [← e, t2])]
  · rw [asc_inj (rest_asc _ _) hi hj e]
  · by_cases c : (j : Int) ∈ goneL im kn
    · obtain ⟨i, h1, _, h3⟩ := goneL_mem.1 c
      exact .inl ⟨i, h1, h3⟩
    · exact .inr (mem_gt (rest_mem.2 ⟨hj, c⟩))
end
def cxP (x : Cx) : Mo := ⟨restL x.g.n.length (goneL x.m.n x.k.n), restL x.g.e.length (goneL x.m.e x.k.e)⟩
theorem cxP_ok {x : Cx} (he : cxE x = 0) (z1 : idL x.m.n x.k.n = []) (z2 : idL x.m.e x.k.e = []) (z3 : cxDan x = []) : PK x.g (cxP x) := by
  obtain ⟨hm, hk⟩ := cx_len he
  have bn : ∀ i : Nat, i < x.m.n.length → 0 ≤ gt x.m.n i ∧ gt x.m.n i < x.g.n.length := fun i hi => (hm.nd i (by rw [← hm.ln]; exact hi)).1
  have be : ∀ i : Nat, i < x.m.e.length → 0 ≤ gt x.m.e i ∧ gt x.m.e i < x.g.e.length := fun i hi => (hm.ed i (by rw [← hm.le]; exact hi)).1
  have kn : AscL x.k.n x.m.n.length := by rw [hm.ln]; exact hk.n
  refine ⟨hm.vb, sel_asc _ _, sel_asc _ _, fun e hx => ?_⟩
  obtain ⟨j, hj, _, rfl⟩ := sel_mem.1 hx
  have hng := (rest_mem.1 hx).2
  obtain ⟨_, f1, f2⟩ := edge_fits hm.vb (i := (j : Int)) (by omega)
  by_cases c : (j : Int) ∈ x.m.e
  · obtain ⟨i, i1, i2⟩ := mem_gt c
    have hik : (i : Int) ∈ x.k.e := Decidable.byContradiction fun hn => hng (goneL_mem.2 ⟨i, i1, hn, i2⟩)
    obtain ⟨_, _, q1, q2⟩ := hm.ed i (by rw [← hm.le]; exact i1)
    rw [i2] at q1 q2
    have hd := hk.d _ hik
    obtain ⟨a, a1, a2⟩ := gtI (hk.n.b _ hd.1)
    obtain ⟨b, b1, b2⟩ := gtI (hk.n.b _ hd.2)
    have r1 := kept_rest z1 bn kn (i := a) (by rw [← a2]; exact hd.1)
    have r2 := kept_rest z1 bn kn (i := b) (by rw [← b2]; exact hd.2)
    rw [← q1, ← q2, a2, b2]
    exact ⟨r1, r2⟩
  · obtain ⟨a, a1, a2⟩ := gtI f1
    obtain ⟨b, b1, b2⟩ := gtI f2
    have hno : ¬ ((gt x.g.e j).f ∈ goneL x.m.n x.k.n ∨ (gt x.g.e j).o ∈ goneL x.m.n x.k.n) := fun h => by
      have : (j : Int) ∈ cxDan x := danL_mem.2 ⟨j, hj, danE_iff.2 ⟨c, h⟩, rfl⟩
      rw [z3] at this
      simp at this
    rw [a2, b2] at hno ⊢
    exact ⟨rest_mem.2 ⟨a1, fun h => hno (.inl h)⟩, rest_mem.2 ⟨b1, fun h => hno (.inr h)⟩⟩
section
variable {x : Cx} (he : cxE x = 0) (z1 : idL x.m.n x.k.n = []) (z2 : idL x.m.e x.k.e = []) (z3 : cxDan x = [])
include he z1 z2 z3
theorem cxTo_ok : MOk (exG x.l x.k) (exG x.g (cxP x)) (cxTo x (cxP x)) := by
  obtain ⟨hm, hk⟩ := cx_len he
  have hp := cxP_ok he z1 z2 z3
  have bn : ∀ i : Nat, i < x.m.n.length → 0 ≤ gt x.m.n i ∧ gt x.m.n i < x.g.n.length := fun i hi => (hm.nd i (by rw [← hm.ln]; exact hi)).1
  have be : ∀ i : Nat, i < x.m.e.length → 0 ≤ gt x.m.e i ∧ gt x.m.e i < x.g.e.length := fun i hi => (hm.ed i (by rw [← hm.le]; exact hi)).1
  have kn : AscL x.k.n x.m.n.length := by rw [hm.ln]; exact hk.n
  have ke : AscL x.k.e x.m.e.length := by rw [hm.le]; exact hk.e
  have la : (exG x.l x.k).n.length = x.k.n.length := thr_len _ _
  have lb : (exG x.l x.k).e.length = x.k.e.length := exL_len _ _ _
  have lc : (exG x.g (cxP x)).n.length = (cxP x).n.length := thr_len _ _
  have ld : (exG x.g (cxP x)).e.length = (cxP x).e.length := exL_len _ _ _
  refine ⟨(ex_ok hk).va, (ex_ok hp).va, by rw [la]; exact toL_len _ _ _, by rw [lb]; exact toL_len _ _ _, fun i hi => ?_, fun i hi => ?_⟩
  · rw [la] at hi
    obtain ⟨t, t1, t2, t3, t4⟩ := to_at z1 bn kn hi
    obtain ⟨b, b1, b2⟩ := gtI (hk.n.b _ (gt_mem (l := x.k.n) (j := (i : Int)) (by omega) (by omega)))
    have hn := (hm.nd b b1).2
    have e1 : gt (cxTo x (cxP x)).n i = t := t2
    rw [e1, lc]
    refine ⟨⟨by omega, by have : t < (cxP x).n.length := t1; omega⟩, ?_⟩
    simp only [exG]
    have e2 : gt (cxP x).n t = gt x.m.n (gt x.k.n i) := t4
    rw [thr_gt (show t < (cxP x).n.length from t1), thr_gt hi, e2, b2, hn]
  · rw [lb] at hi
    obtain ⟨t, t1, t2, t3, t4⟩ := to_at z2 be ke hi
    have hme := gt_mem (l := x.k.e) (j := (i : Int)) (by omega) (by omega)
    obtain ⟨b, b1, b2⟩ := gtI (hk.e.b _ hme)
    obtain ⟨_, h2, h3, h4⟩ := hm.ed b b1
    have hd := hk.d _ hme
    rw [b2] at hd
    have e1 : gt (cxTo x (cxP x)).e i = t := t2
    have e2 : gt (cxP x).e t = gt x.m.e (gt x.k.e i) := t4
    rw [e1, ld]
    refine ⟨⟨by omega, by have : t < (cxP x).e.length := t1; omega⟩, ?_⟩
    obtain ⟨a, a1, a2, a3⟩ := cntB_in hk.n.p hd.1
    obtain ⟨o, o1, o2, o3⟩ := cntB_in hk.n.p hd.2
    obtain ⟨ta, _, ta2, ta3, _⟩ := to_at z1 bn kn a1
    obtain ⟨tb, _, tb2, tb3, _⟩ := to_at z1 bn kn o1
    have ga : gt (cxTo x (cxP x)).n a = ta := ta2
    have gb : gt (cxTo x (cxP x)).n o = tb := tb2
    have ca : (cntB (cxP x).n (gt x.m.n (gt x.k.n a)) : Int) = ta := ta3
    have cb : (cntB (cxP x).n (gt x.m.n (gt x.k.n o)) : Int) = tb := tb3
    simp only [exG]
    rw [exL_gt (show t < (cxP x).e.length from t1), exL_gt hi, e2, b2]
    simp only
    rw [a2, o2, ga, gb, ← h3, ← h4, ← ca, ← cb, a3, o3]
    exact ⟨h2, rfl, rfl⟩
theorem cx_push (hL : x.l.n.length + x.g.n.length ≤ 40) (hE : x.l.e.length + x.g.e.length ≤ 80) : chkP (cxSp x (cxP x)) x.g x.m (cxP x) = true := by
  obtain ⟨hm, hk⟩ := cx_len he
  have hp := cxP_ok he z1 z2 z3
  have ht := cxTo_ok he z1 z2 z3
  have bn : ∀ i : Nat, i < x.m.n.length → 0 ≤ gt x.m.n i ∧ gt x.m.n i < x.g.n.length := fun i hi => (hm.nd i (by rw [← hm.ln]; exact hi)).1
  have be : ∀ i : Nat, i < x.m.e.length → 0 ≤ gt x.m.e i ∧ gt x.m.e i < x.g.e.length := fun i hi => (hm.ed i (by rw [← hm.le]; exact hi)).1
  have kn : AscL x.k.n x.m.n.length := by rw [hm.ln]; exact hk.n
  have ke : AscL x.k.e x.m.e.length := by rw [hm.le]; exact hk.e
  have lc : (exG x.g (cxP x)).n.length = (cxP x).n.length := thr_len _ _
  have ld : (exG x.g (cxP x)).e.length = (cxP x).e.length := exL_len _ _ _
  have le1 : (cxP x).n.length ≤ x.g.n.length := sel_len _ _
  have le2 : (cxP x).e.length ≤ x.g.e.length := sel_len _ _
  have hs : SOk (cxSp x (cxP x)) := ⟨ex_ok hk, ht, fun h => by
    simp only [Big, cxSp] at h
    omega⟩
  have com := hs.comm
  have c1 : ∀ a : Nat, a < x.k.n.length → gt (poP (cxSp x (cxP x))).n (gt x.k.n a) = gt (poK (cxSp x (cxP x))).n (gt (toL x.m.n x.k.n (restL x.g.n.length (goneL x.m.n x.k.n))) a) := fun a ha => by
    have := congrArg (fun m : Mo => gt m.n a) com
    simp only [thenM] at this
    rw [thr_gt (show a < (cxSp x (cxP x)).f.n.length from ha), thr_gt (show a < (cxSp x (cxP x)).g.n.length by show a < (toL _ _ _).length; rw [toL_len]; exact ha)] at this
    exact this
  have c2 : ∀ a : Nat, a < x.k.e.length → gt (poP (cxSp x (cxP x))).e (gt x.k.e a) = gt (poK (cxSp x (cxP x))).e (gt (toL x.m.e x.k.e (restL x.g.e.length (goneL x.m.e x.k.e))) a) := fun a ha => by
    have := congrArg (fun m : Mo => gt m.e a) com
    simp only [thenM] at this
    rw [thr_gt (show a < (cxSp x (cxP x)).f.e.length from ha), thr_gt (show a < (cxSp x (cxP x)).g.e.length by show a < (toL _ _ _).length; rw [toL_len]; exact ha)] at this
    exact this
  obtain ⟨n1, n2, n3, n4⟩ := cl_facts z1 bn kn c1
  obtain ⟨m1, m2, m3, m4⟩ := cl_facts z2 be ke c2
  have ecom : thenM x.k x.m = thenM (cxTo x (cxP x)) (cxP x) := by
    have k1 : thr x.k.n x.m.n = thr (cxTo x (cxP x)).n (cxP x).n := thr_ext (toL_len _ _ _).symm fun i hi => by
      obtain ⟨t, _, t2, _, t4⟩ := to_at z1 bn kn hi
      have e1 : gt (cxTo x (cxP x)).n i = t := t2
      have e2 : gt (cxP x).n t = gt x.m.n (gt x.k.n i) := t4
      rw [e1, e2]
    have k2 : thr x.k.e x.m.e = thr (cxTo x (cxP x)).e (cxP x).e := thr_ext (toL_len _ _ _).symm fun i hi => by
      obtain ⟨t, _, t2, _, t4⟩ := to_at z2 be ke hi
      have e1 : gt (cxTo x (cxP x)).e i = t := t2
      have e2 : gt (cxP x).e t = gt x.m.e (gt x.k.e i) := t4
      rw [e1, e2]
    unfold thenM
    rw [k1, k2]
  have a1 := hm.ln
  have a2 := hm.le
  exact hs.chk_same (x := x.g) (h := x.m) (k := cxP x) hm (ex_ok hp) ecom
    (by show ∀ i j : Nat, i < x.l.n.length → j < x.l.n.length → _; rw [← a1]; exact n1)
    (by show ∀ i j : Nat, i < x.l.n.length → j < (exG x.g (cxP x)).n.length → _; rw [← a1, lc]; exact n2)
    (by show ∀ i j : Nat, i < (exG x.g (cxP x)).n.length → j < (exG x.g (cxP x)).n.length → _; rw [lc]; exact n3)
    (by show ∀ j : Nat, j < x.g.n.length → (∃ i : Nat, i < x.l.n.length ∧ _) ∨ ∃ i : Nat, i < (exG x.g (cxP x)).n.length ∧ _; rw [← a1, lc]; exact n4)
    (by show ∀ i j : Nat, i < x.l.e.length → j < x.l.e.length → _; rw [← a2]; exact m1)
    (by show ∀ i j : Nat, i < x.l.e.length → j < (exG x.g (cxP x)).e.length → _; rw [← a2, ld]; exact m2)
    (by show ∀ i j : Nat, i < (exG x.g (cxP x)).e.length → j < (exG x.g (cxP x)).e.length → _; rw [ld]; exact m3)
    (by show ∀ j : Nat, j < x.g.e.length → (∃ i : Nat, i < x.l.e.length ∧ _) ∨ ∃ i : Nat, i < (exG x.g (cxP x)).e.length ∧ _; rw [← a2, ld]; exact m4)
end
section
variable {P : Program} {F : String → Nat} {α : Type}
set_option maxHeartbeats 4000000 in
set_option maxRecDepth 100000 in
theorem w_l12_ComplementPushout (hw : K_l12_awake P F) (hm : K_l12_made P F) (ho : K_complement_Of P F) (hx : K_subgraph_Extract P F) (hi : K_slices_Index_I P F) (hc : K_pushout_Check P F) (d : Dr) (c : List Int) (s : Int) (hd : d.ok) (d1 : d.n.length ≤ maxL) (d2 : d.e.length ≤ maxL) (c1 : c.length ≤ 2000000) (c2 : ∀ v ∈ c, Byte v) :
    W P (c_l12_ComplementPushout F) (Done [.t 6] [] (.bool true) []) (init [drD d, .lst 1 (u8s c), .int .u64 s]) := by
  refine W_of ?_
  have r1 := hm d c s hd d1 d2 c1 c2
  have he := cxm_ok (s := s) hd c2
  have va := madeG_valid hd
  have l1 := madeN_len d
  have l2 := madeE_len d
  have l3 : (madeG d).n.length ≤ 8 := l1
  obtain ⟨_, h2, h3⟩ := gr_ok va c2 (by omega) (by omega)
  have s1 : (madeCx d c s).l.n.length + (madeCx d c s).g.n.length ≤ 40 := by show (madeG d).n.length + (grG (madeG d) c).n.length ≤ 40; omega
  have s2 : (madeCx d c s).l.e.length + (madeCx d c s).g.e.length ≤ 80 := by show (madeG d).e.length + (grG (madeG d) c).e.length ≤ 80; omega
  clear va l1 l2 l3 h2 h3
  generalize madeCx d c s = x at *
  obtain ⟨hm1, hk1⟩ := cx_len he
  have l1 := hk1.len
  have l2 := valid_spec hm1.va
  have l3 := valid_spec hm1.vb
  have r2 := ho x hk1.sm
  by_cases z : (cxR x).2 = 0
  case neg =>
    have hR : (cxR x).2 = 15 ∨ (cxR x).2 = 14 := by
      unfold cxR at z ⊢
      rw [if_neg (by simp [he])] at z ⊢
      split
      · exact .inl rfl
      · rename_i h1
        rw [if_neg h1] at z
        split
        · exact .inr rfl
        · rename_i h2
          rw [if_neg h2] at z
          exact absurd rfl z
    clear he hm1 hk1
    generalize cxR x = R at *
    obtain ⟨⟨xn, xe⟩, v⟩ := R
    obtain ⟨⟨ln, le⟩, ⟨gn, ge⟩, ⟨kn, ke⟩, ⟨mn, me⟩⟩ := x
    simp only [gD, mD, mA, drD, cxA] at *
    rcases hR with rfl | rfl
    · simp (config := { maxSteps := 1000000 }) (disch := first | omega | (simp only [go_sem]; omega)) only [go_sem, ↓reduceIte]
      refine call_by hw ?_
      simp (config := { maxSteps := 1000000 }) (disch := first | omega | (simp only [go_sem]; omega)) only [go_sem, ↓reduceIte]
      refine call_by r1 ?_
      simp (config := { maxSteps := 1000000 }) (disch := first | omega | (simp only [go_sem]; omega)) only [go_sem, ↓reduceIte]
      refine call_by r2 ?_
      simp (config := { maxSteps := 1000000 }) (disch := first | omega | (simp only [go_sem]; omega)) only [go_sem, ↓reduceIte, show decide ((15 : Int) = 0) = false from rfl, show decide ((15 : Int) = 15) = true from rfl]
    · simp (config := { maxSteps := 1000000 }) (disch := first | omega | (simp only [go_sem]; omega)) only [go_sem, ↓reduceIte]
      refine call_by hw ?_
      simp (config := { maxSteps := 1000000 }) (disch := first | omega | (simp only [go_sem]; omega)) only [go_sem, ↓reduceIte]
      refine call_by r1 ?_
      simp (config := { maxSteps := 1000000 }) (disch := first | omega | (simp only [go_sem]; omega)) only [go_sem, ↓reduceIte]
      refine call_by r2 ?_
      simp (config := { maxSteps := 1000000 }) (disch := first | omega | (simp only [go_sem]; omega)) only [go_sem, ↓reduceIte, show decide ((14 : Int) = 0) = false from rfl, show decide ((14 : Int) = 15) = false from rfl, show decide ((14 : Int) = 14) = true from rfl]
  obtain ⟨z1, z2, z3⟩ := (cxR_zero he).1 z
  have hP : (cxR x).1 = cxP x := by
    unfold cxR
    rw [if_neg (by simp [he]), z1, z2, z3]
    rfl
  have hp := cxP_ok he z1 z2 z3
  have hpush := cx_push he z1 z2 z3 s1 s2
  have l4 := hp.len
  have ek : exR x.l x.k = (exG x.l x.k, x.k, 0) := by unfold exR; rw [if_neg (by simp [validP_ok.2 hk1])]
  have ep : exR x.g (cxP x) = (exG x.g (cxP x), cxP x, 0) := by unfold exR; rw [if_neg (by simp [validP_ok.2 hp])]
  have r3 := hx x.l x.k hk1.sm
  have r4 := hx x.g (cxP x) hp.sm
  rw [ek] at r3
  rw [ep] at r4
  have r5 := fun v => hi (cxP x).n v (by unfold maxL; omega)
  have r6 := fun v => hi (cxP x).e v (by unfold maxL; omega)
  have r7 := hc (cxSp x (cxP x)) x.g x.m (cxP x)
  rw [hpush] at r7
  have t1 := toL_len x.m.n x.k.n (cxP x).n
  have t2 := toL_len x.m.e x.k.e (cxP x).e
  have lm := hm1.ln
  have lf := hm1.le
  have bn := hk1.n.b
  have be := hk1.e.b
  rw [z, hP] at r2
  unfold cxSp cxTo at r7
  clear hpush ek ep he hm1 hk1 hp z z1 z2 z3 hP
  generalize exG x.g (cxP x) = cg at *
  generalize exG x.l x.k = ag at *
  generalize cxP x = p at *
  obtain ⟨⟨ln, le⟩, ⟨gn, ge⟩, ⟨kn, ke⟩, ⟨mn, me⟩⟩ := x
  obtain ⟨pn, pe⟩ := p
  obtain ⟨cgn, cge⟩ := cg
  obtain ⟨agn, age⟩ := ag
  simp only [gD, mD, mA, gA, drD, cxA, spD] at *
  simp (config := { maxSteps := 1000000 }) (disch := first | omega | (simp only [go_sem]; omega)) only [go_sem, ↓reduceIte]
  refine call_by hw ?_
  simp (config := { maxSteps := 1000000 }) (disch := first | omega | (simp only [go_sem]; omega)) only [go_sem, ↓reduceIte]
  refine call_by r1 ?_
  simp (config := { maxSteps := 1000000 }) (disch := first | omega | (simp only [go_sem]; omega)) only [go_sem, ↓reduceIte]
  refine call_by r2 ?_
  simp (config := { maxSteps := 1000000 }) (disch := first | omega | (simp only [go_sem]; omega)) only [go_sem, ↓reduceIte]
  refine call_by r3 ?_
  simp (config := { maxSteps := 1000000 }) (disch := first | omega | (simp only [go_sem]; omega)) only [go_sem, ↓reduceIte]
  refine call_by r4 ?_
  simp (config := { maxSteps := 1000000 }) (disch := first | omega | (simp only [go_sem]; omega)) only [go_sem, ↓reduceIte]
  refine W_loop (fun i : Nat => ⟨[(7, .pt 8 0), (8, .pt 11 0), (10, .pt 14 0), (11, .pt 17 0), (13, .pt 20 0), (14, .pt 23 0), (16, .pt 26 0), (73, .sl 4 0 kn.length), (74, .int .i64 kn.length), (75, .int .i64 i)],
    [(0, .arr 1 (ints ln)), (1, .arr 3 (eds le)), (2, .arr 1 (ints gn)), (3, .arr 3 (eds ge)), (4, .arr 1 (ints kn)), (5, .arr 1 (ints ke)), (6, .arr 1 (ints mn)), (7, .arr 1 (ints me)),
      (8, .box [.sl 0 0 ln.length, .sl 1 0 le.length, .sl 2 0 gn.length, .sl 3 0 ge.length, .sl 4 0 kn.length, .sl 5 0 ke.length, .sl 6 0 mn.length, .sl 7 0 me.length]),
      (9, .arr 1 (ints pn)), (10, .arr 1 (ints pe)), (11, .box [.sl 9 0 pn.length, .sl 10 0 pe.length]), (12, .arr 1 (ints agn)), (13, .arr 3 (eds age)), (14, .box [.sl 12 0 agn.length, .sl 13 0 age.length]),
      (15, .arr 1 (ints kn)), (16, .arr 1 (ints ke)), (17, .box [.sl 15 0 kn.length, .sl 16 0 ke.length]), (18, .arr 1 (ints cgn)), (19, .arr 3 (eds cge)), (20, .box [.sl 18 0 cgn.length, .sl 19 0 cge.length]),
      (21, .arr 1 (ints pn)), (22, .arr 1 (ints pe)), (23, .box [.sl 21 0 pn.length, .sl 22 0 pe.length]), (24, .arr 1 (ints (toL mn (kn.take i) pn))), (25, .arr 1 []), (26, .box [.sl 24 0 i, .sl 25 0 0])], 27⟩) (fun i => i ≤ kn.length) (fun i => kn.length - i) 0 ?_ ?_ ?_
  · simp (config := { maxSteps := 1000000 }) (disch := first | omega | (simp only [go_sem]; omega)) only [go_sem, ↓reduceIte]
    rfl
  · simp
  · intro i hi
    have tl : (toL mn (kn.take i) pn).length = i := by rw [toL_len, List.length_take]; omega
    by_cases e : i < kn.length
    · have g1 : decide ((i : Int) < kn.length) = true := decide_eq_true (by omega)
      have hb1 := bn _ (gt_mem (l := kn) (j := (i : Int)) (by omega) (by omega))
      have hst := toL_step (im := mn) (pl := pn) e
      have ri := r5 (gt mn (gt kn i))
      simp (config := { maxSteps := 1000000 }) (disch := first | omega | (simp only [go_sem]; omega)) only [go_sem, ↓reduceIte, c_l12_ComplementPushout_b17, g1, tl]
      refine call_by ri ?_
      simp (config := { maxSteps := 1000000 }) (disch := first | omega | (simp only [go_sem]; omega)) only [go_sem, ↓reduceIte, tl]
      exact ⟨i + 1, by simp [hst], by omega, by omega⟩
    · have g1 : decide ((i : Int) < kn.length) = false := decide_eq_false (by omega)
      obtain rfl : i = kn.length := by omega
      rw [List.take_length] at tl
      simp (config := { maxSteps := 1000000 }) (disch := first | omega | (simp only [go_sem]; omega)) only [go_sem, ↓reduceIte, c_l12_ComplementPushout_b17, g1, tl]
      refine W_loop (fun i : Nat => ⟨[(7, .pt 8 0), (8, .pt 11 0), (10, .pt 14 0), (11, .pt 17 0), (13, .pt 20 0), (14, .pt 23 0), (16, .pt 26 0), (96, .sl 5 0 ke.length), (97, .int .i64 ke.length), (98, .int .i64 i)],
        [(0, .arr 1 (ints ln)), (1, .arr 3 (eds le)), (2, .arr 1 (ints gn)), (3, .arr 3 (eds ge)), (4, .arr 1 (ints kn)), (5, .arr 1 (ints ke)), (6, .arr 1 (ints mn)), (7, .arr 1 (ints me)),
          (8, .box [.sl 0 0 ln.length, .sl 1 0 le.length, .sl 2 0 gn.length, .sl 3 0 ge.length, .sl 4 0 kn.length, .sl 5 0 ke.length, .sl 6 0 mn.length, .sl 7 0 me.length]),
          (9, .arr 1 (ints pn)), (10, .arr 1 (ints pe)), (11, .box [.sl 9 0 pn.length, .sl 10 0 pe.length]), (12, .arr 1 (ints agn)), (13, .arr 3 (eds age)), (14, .box [.sl 12 0 agn.length, .sl 13 0 age.length]),
          (15, .arr 1 (ints kn)), (16, .arr 1 (ints ke)), (17, .box [.sl 15 0 kn.length, .sl 16 0 ke.length]), (18, .arr 1 (ints cgn)), (19, .arr 3 (eds cge)), (20, .box [.sl 18 0 cgn.length, .sl 19 0 cge.length]),
          (21, .arr 1 (ints pn)), (22, .arr 1 (ints pe)), (23, .box [.sl 21 0 pn.length, .sl 22 0 pe.length]), (24, .arr 1 (ints (toL mn kn pn))), (25, .arr 1 (ints (toL me (ke.take i) pe))), (26, .box [.sl 24 0 kn.length, .sl 25 0 i])], 27⟩) (fun i => i ≤ ke.length) (fun i => ke.length - i) 0 ?_ ?_ ?_
      · simp (config := { maxSteps := 1000000 }) (disch := first | omega | (simp only [go_sem]; omega)) only [go_sem, ↓reduceIte]
        rfl
      · simp
      · intro i hi
        have el : (toL me (ke.take i) pe).length = i := by rw [toL_len, List.length_take]; omega
        by_cases e : i < ke.length
        · have g1 : decide ((i : Int) < ke.length) = true := decide_eq_true (by omega)
          have hb1 := be _ (gt_mem (l := ke) (j := (i : Int)) (by omega) (by omega))
          have hst := toL_step (im := me) (pl := pe) e
          have ri := r6 (gt me (gt ke i))
          simp (config := { maxSteps := 1000000 }) (disch := first | omega | (simp only [go_sem]; omega)) only [go_sem, ↓reduceIte, c_l12_ComplementPushout_b23, g1, tl, el]
          refine call_by ri ?_
          simp (config := { maxSteps := 1000000 }) (disch := first | omega | (simp only [go_sem]; omega)) only [go_sem, ↓reduceIte, tl, el]
          exact ⟨i + 1, by simp [hst], by omega, by omega⟩
        · have g1 : decide ((i : Int) < ke.length) = false := decide_eq_false (by omega)
          obtain rfl : i = ke.length := by omega
          rw [List.take_length] at el
          simp (config := { maxSteps := 1000000 }) (disch := first | omega | (simp only [go_sem]; omega)) only [go_sem, ↓reduceIte, c_l12_ComplementPushout_b23, g1, tl, el]
          refine call_by r7 ?_
          simp (config := { maxSteps := 1000000 }) (disch := first | omega | (simp only [go_sem]; omega)) only [go_sem, ↓reduceIte]
theorem x_l12_ComplementPushout (h : K_l12_ComplementPushout P F) (args : List D) (ha : HasEls [shDr, shU8s, shU64] args) (hz : dszS args ≤ 1048576) : FC P (F "l12.ComplementPushout") args (.bool true) [] := by
  simp only [HasEls] at ha
  obtain ⟨_, _, rfl, h1, _, _, rfl, h2, _, _, rfl, h3, rfl⟩ := ha
  obtain ⟨x, rfl, a1, a2, a3⟩ := rd_draft h1
  obtain ⟨c, rfl, c1, c2⟩ := rd_u8s h2
  obtain ⟨s, rfl⟩ := rd_u64 h3
  simp only [dszS, dszA, dsz, u8s_length] at hz
  exact h x c s a1 a2 a3 (by omega) c1
end
end
end Go.Am
