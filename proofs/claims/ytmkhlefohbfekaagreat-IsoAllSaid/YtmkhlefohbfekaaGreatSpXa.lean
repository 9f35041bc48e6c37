/- The graph package and its reference: parts. -/
import Derived.Test.YtmkhlefohbfekaaGreatSpPa
import Derived.Test.YtmkhlefohbfekaaGreatSpPb
import Derived.Test.YtmkhlefohbfekaaGreatSpPc
import Derived.Test.YtmkhlefohbfekaaGreatSpPd
namespace Go.Am
open Go
set_option linter.unusedVariables false
set_option linter.unusedSimpArgs false
def mA (m : Mo) : D := .agg [.arr 1 (ints m.n), .arr 1 (ints m.e)]
section
variable (P : Program) (F : String → Nat)
end
section
variable {P : Program} {F : String → Nat} {α : Type}
end
section
variable (P : Program) (F : String → Nat)
end
def shI : Sh := .int .i64
def shIs : Sh := .slc 1 8 shI
def shE : Sh := .cat [shI, shI, shI]
def shG : Sh := .cat [shIs, .slc 3 24 shE]
theorem rd_int {x : D} (h : HasEl shI x) : ∃ n : Int, x = .int .i64 n ∧ IntKind.i64.min ≤ n ∧ n ≤ IntKind.i64.max := by
 simpa only [shI, HasEl] using h
theorem rd_intl : ∀ {xs : List D}, (∀ y ∈ xs, HasEl shI y) → ∃ l : List Int, xs = ints l
 | [], _ => ⟨[], rfl⟩
 | x :: xs, h => by
  obtain ⟨l, rfl⟩ := rd_intl (xs := xs) fun y hy => h y (by simp [hy])
  obtain ⟨n, rfl, _⟩ := rd_int (h x (by simp))
  exact ⟨n :: l, rfl⟩
theorem rd_ints {x : D} (h : HasEl shIs x) : ∃ l : List Int, x = .lst 1 (ints l) ∧ l.length ≤ 20000000000000 := by
 simp only [shIs, HasEl] at h
 obtain ⟨xs, rfl, h1, h2⟩ := h
 obtain ⟨l, rfl⟩ := rd_intl h2
 refine ⟨l, rfl, ?_⟩
 rw [ints_length] at h1
 unfold reachBytes at h1
 omega
theorem rd_edge {x : D} (h : HasEl shE x) : ∃ e : E, x = edD e := by
 simp only [shE, HasEl] at h
 obtain ⟨ds, rfl, h⟩ := h
 simp only [shI, HasShs, HasEl] at h
 obtain ⟨_, _, rfl, ⟨a, rfl, _⟩, _, _, rfl, ⟨b, rfl, _⟩, _, _, rfl, ⟨c, rfl, _⟩, rfl⟩ := h
 exact ⟨⟨a, b, c⟩, rfl⟩
theorem rd_edl : ∀ {xs : List D}, (∀ y ∈ xs, HasEl shE y) → ∃ l : List E, xs = eds l
 | [], _ => ⟨[], rfl⟩
 | x :: xs, h => by
  obtain ⟨l, rfl⟩ := rd_edl (xs := xs) fun y hy => h y (by simp [hy])
  obtain ⟨n, rfl⟩ := rd_edge (h x (by simp))
  exact ⟨n :: l, rfl⟩
theorem rd_graph {x : D} (h : HasEl shG x) : ∃ g : G, x = gD g := by
 simp only [shG, HasEl] at h
 obtain ⟨ds, rfl, h⟩ := h
 have h' : ∃ a b, ds = a :: b ∧ HasEl shIs a ∧ HasShs [.slc 3 24 shE] b := by simpa only [shIs, HasShs] using h
 obtain ⟨a, _, rfl, h1, h'⟩ := h'
 obtain ⟨l, rfl, _⟩ := rd_ints h1
 simp only [HasShs, HasEl] at h'
 obtain ⟨_, _, rfl, ⟨xs, rfl, _, h3⟩, rfl⟩ := h'
 obtain ⟨es, rfl⟩ := rd_edl h3
 exact ⟨⟨l, es⟩, rfl⟩
def Mo.sm (m : Mo) : Prop := m.n.length ≤ maxL ∧ m.e.length ≤ maxL
section
variable {P : Program} {F : String → Nat} {α : Type}
end
@[go_sem] def c_morphism_Valid_r0 : LL := [qB 3 0,qB 4 1,qB 5 2,qi 6 0]
@[go_sem] def c_morphism_Valid_r1 (F : Fn) : LL := [qL 15 2 3,qc 16 (F "graph.Valid") [.t 15],qm 7 16]
@[go_sem] def c_morphism_Valid_r2 : LL := [qm 17 7,qk .neq 18 17 0]
@[go_sem] def c_morphism_Valid_r3 : LL := [qm 19 7,qm 6 19]
@[go_sem] def c_morphism_Valid_r4 (F : Fn) : LL := [qL 20 2 4,qc 21 (F "graph.Valid") [.t 20],qm 8 21]
@[go_sem] def c_morphism_Valid_r5 : LL := [qm 22 8,qk .neq 23 22 0]
@[go_sem] def c_morphism_Valid_r6 : LL := [qm 24 8,qm 6 24]
@[go_sem] def c_morphism_Valid_r7 : LL := [qf 25 0 5,ql 26 1 25,qz 27 26,qf 28 0 3,ql 29 1 28,qz 30 29,qo .neq 31 27 30,qm 32 31,qg 32 false (qf 33 1 5),qg 32 false (ql 34 1 33),qg 32 false (qz 35 34),
 qg 32 false (qf 36 1 3),qg 32 false (ql 37 1 36),qg 32 false (qz 38 37),qg 32 false (qo .neq 39 35 38),qQ 40 32 39]
@[go_sem] def c_morphism_Valid_r8 : LL := [qi 6 20]
@[go_sem] def c_morphism_Valid_r9 : LL := [qf 41 0 5,ql 42 1 41,qz 43 42,qi 44 0]
@[go_sem] def c_morphism_Valid_r10 : LL := [qo .lss 45 44 43]
@[go_sem] def c_morphism_Valid_r11 : LL := [qm 46 44,qd 47 1 42 44,ql 48 1 47,qm 9 46,qm 10 48]
@[go_sem] def c_morphism_Valid_r12 : LL := [qm 49 10,qk .lss 50 49 0,qm 51 50,qg 51 false (qm 52 10),qg 51 false (qf 53 0 4),qg 51 false (ql 54 1 53),qg 51 false (qz 55 54),qg 51 false (qo .geq 56 52 55),qQ 57 51 56]
@[go_sem] def c_morphism_Valid_r13 : LL := [qi 6 6]
@[go_sem] def c_morphism_Valid_r14 : LL := [qf 58 0 4,ql 59 1 58,qm 60 10,qd 61 1 59 60,ql 62 1 61,qf 63 0 3,ql 64 1 63,qm 65 9,qd 66 1 64 65,ql 67 1 66,qo .neq 68 62 67]
@[go_sem] def c_morphism_Valid_r15 : LL := [qi 6 13]
@[go_sem] def c_morphism_Valid_r16 : LL := [qk .add 69 44 1,qm 44 69]
def c_morphism_Valid_b17 : LC := (.seq (.reg c_morphism_Valid_r10 [3,4,5,42,43,44,45]) (.seq (.cond (.t 45) .skip (.exit 0)) (.seq (.block 1 (.seq (.reg c_morphism_Valid_r11 [3,4,5,9,10,42,43,44]) (.seq (.seq (.reg c_morphism_Valid_r12 [3,4,5,9,10,42,43,44,57]) (.cond (.t 57) (.seq (.reg c_morphism_Valid_r13 [6]) .ret) .skip)) (.seq (.dreg [] c_morphism_Valid_r14 [3,4,5,42,43,44,68]) (.cond (.t 68) (.seq (.reg c_morphism_Valid_r15 [6]) .ret) .skip))))) (.reg c_morphism_Valid_r16 [3,4,5,42,43,44]))))
@[go_sem] def c_morphism_Valid_r18 : LL := [qf 70 1 5,ql 71 1 70,qz 72 71,qi 73 0]
@[go_sem] def c_morphism_Valid_r19 : LL := [qo .lss 74 73 72]
@[go_sem] def c_morphism_Valid_r20 : LL := [qm 75 73,qd 76 1 71 73,ql 77 1 76,qm 11 75,qm 12 77]
@[go_sem] def c_morphism_Valid_r21 : LL := [qm 78 12,qk .lss 79 78 0,qm 80 79,qg 80 false (qm 81 12),qg 80 false (qf 82 1 4),qg 80 false (ql 83 1 82),qg 80 false (qz 84 83),qg 80 false (qo .geq 85 81 84),qQ 86 80 85]
@[go_sem] def c_morphism_Valid_r22 : LL := [qi 6 6]
@[go_sem] def c_morphism_Valid_r23 : LL := [qf 87 1 3,ql 88 1 87,qm 89 11,qd 90 3 88 89,qL 91 3 90,qf 92 1 4,ql 93 1 92,qm 94 12,qd 95 3 93 94,qL 96 3 95,qa 13 [.int .i64 (0),.int .i64 (0),.int .i64 (0)],
 qa 14 [.int .i64 (0),.int .i64 (0),.int .i64 (0)],qs 3 13 91,qs 3 14 96]
@[go_sem] def c_morphism_Valid_r24 : LL := [qf 97 0 13,ql 98 1 97,qf 99 0 14,ql 100 1 99,qo .neq 101 98 100]
@[go_sem] def c_morphism_Valid_r25 : LL := [qi 6 13]
@[go_sem] def c_morphism_Valid_r26 : LL := [qf 102 0 5,ql 103 1 102,qf 104 1 13,ql 105 1 104,qd 106 1 103 105,ql 107 1 106,qf 108 1 14,ql 109 1 108,qo .neq 110 107 109,qm 111 110,qg 111 false (qf 112 0 5),
 qg 111 false (ql 113 1 112),qg 111 false (qf 114 2 13),qg 111 false (ql 115 1 114),qg 111 false (qd 116 1 113 115),qg 111 false (ql 117 1 116),qg 111 false (qf 118 2 14),
 qg 111 false (ql 119 1 118),qg 111 false (qo .neq 120 117 119),qQ 121 111 120]
@[go_sem] def c_morphism_Valid_r27 : LL := [qi 6 11]
@[go_sem] def c_morphism_Valid_r28 : LL := [qk .add 122 73 1,qm 73 122]
def c_morphism_Valid_b29 : LC := (.seq (.reg c_morphism_Valid_r19 [3,4,5,71,72,73,74]) (.seq (.cond (.t 74) .skip (.exit 2)) (.seq (.block 3 (.seq (.reg c_morphism_Valid_r20 [3,4,5,11,12,71,72,73]) (.seq (.seq (.reg c_morphism_Valid_r21 [3,4,5,11,12,71,72,73,86]) (.cond (.t 86) (.seq (.reg c_morphism_Valid_r22 [6]) .ret) .skip)) (.seq (.dreg [(6,none,[],true),(8,none,[],true),(9,none,[],true),(12,none,[6,8,9],false)] c_morphism_Valid_r23 [3,4,5,13,14,71,72,73]) (.seq (.seq (.reg c_morphism_Valid_r24 [3,4,5,13,14,71,72,73,101]) (.cond (.t 101) (.seq (.reg c_morphism_Valid_r25 [6]) .ret) .skip)) (.seq (.dreg [] c_morphism_Valid_r26 [3,4,5,71,72,73,121]) (.cond (.t 121) (.seq (.reg c_morphism_Valid_r27 [6]) .ret) .skip))))))) (.reg c_morphism_Valid_r28 [3,4,5,71,72,73]))))
@[go_sem] def c_morphism_Valid_r30 : LL := [qi 6 0]
@[go_sem] def c_morphism_Valid (F : Fn) : LC := (.seq (.reg c_morphism_Valid_r0 [3,4,5]) (.seq (.seq (.reg (c_morphism_Valid_r1 F) [3,4,5,7]) (.seq (.reg c_morphism_Valid_r2 [3,4,5,7,18]) (.cond (.t 18) (.seq (.reg c_morphism_Valid_r3 [6]) .ret) .skip))) (.seq (.seq (.reg (c_morphism_Valid_r4 F) [3,4,5,8]) (.seq (.reg c_morphism_Valid_r5 [3,4,5,8,23]) (.cond (.t 23) (.seq (.reg c_morphism_Valid_r6 [6]) .ret) .skip))) (.seq (.seq (.reg c_morphism_Valid_r7 [3,4,5,40]) (.cond (.t 40) (.seq (.reg c_morphism_Valid_r8 [6]) .ret) .skip)) (.seq (.seq (.reg c_morphism_Valid_r9 [3,4,5,42,43,44]) (.block 0 (.loop [3,4,5,42,43,44] c_morphism_Valid_b17))) (.seq (.seq (.reg c_morphism_Valid_r18 [3,4,5,71,72,73]) (.block 2 (.loop [3,4,5,71,72,73] c_morphism_Valid_b29))) (.seq (.reg c_morphism_Valid_r30 [6]) .ret)))))))
def h_morphism_Valid : Hints := hOf [] (c_morphism_Valid fun _ => 0)
@[go_sem] def c_r02_SameInts_r0 : LL := [qb 4 false]
@[go_sem] def c_r02_SameInts_r1 : LL := [qm 6 0,qz 7 6,qm 8 1,qz 9 8,qo .neq 10 7 9]
@[go_sem] def c_r02_SameInts_r2 : LL := [qb 4 false]
@[go_sem] def c_r02_SameInts_r3 : LL := [qi 5 0]
@[go_sem] def c_r02_SameInts_r4 : LL := [qm 11 5,qm 12 0,qz 13 12,qo .lss 14 11 13]
@[go_sem] def c_r02_SameInts_r5 : LL := [qm 17 0,qm 18 5,qd 19 1 17 18,ql 20 1 19,qm 21 1,qm 22 5,qd 23 1 21 22,ql 24 1 23,qo .neq 25 20 24]
@[go_sem] def c_r02_SameInts_r6 : LL := [qb 4 false]
@[go_sem] def c_r02_SameInts_r7 : LL := [qm 15 5,qk .add 16 15 1,qm 5 16]
def c_r02_SameInts_b8 : LC := (.seq (.seq (.reg c_r02_SameInts_r4 [0,1,5,14]) (.cond (.t 14) .skip (.exit 0))) (.seq (.block 1 (.seq (.dreg [] c_r02_SameInts_r5 [0,1,5,25]) (.cond (.t 25) (.seq (.reg c_r02_SameInts_r6 [4]) .ret) .skip))) (.reg c_r02_SameInts_r7 [0,1,5])))
@[go_sem] def c_r02_SameInts_r9 : LL := [qb 4 true]
@[go_sem] def c_r02_SameInts (F : Fn) : LC := (.seq (.reg c_r02_SameInts_r0 [0,1]) (.seq (.seq (.reg c_r02_SameInts_r1 [0,1,10]) (.cond (.t 10) (.seq (.reg c_r02_SameInts_r2 [4]) .ret) .skip)) (.seq (.seq (.reg c_r02_SameInts_r3 [0,1,5]) (.block 0 (.loop [0,1,5] c_r02_SameInts_b8))) (.seq (.reg c_r02_SameInts_r9 [4]) .ret))))
def h_r02_SameInts : Hints := hn [] [(0,[0,1]),(1,[0,1,10]),(2,[4]),(3,[0,1,5]),(4,[0,1,5,14]),(5,[0,1,5]),(6,[0,1,5,25]),(7,[4]),(8,[4])] [(4,[0,1,5])]
@[go_sem] def c_r06_Same_r0 : LL := [qB 2 0,qB 3 1,qb 4 false]
@[go_sem] def c_r06_Same_r1 (F : Fn) : LL := [qf 5 0 2,ql 6 1 5,qf 7 0 3,ql 8 1 7,qc 9 (F "r02.SameInts") [.t 6,.t 8],qm 10 9,qg 10 true (qf 11 1 2),qg 10 true (ql 12 1 11),qg 10 true (qf 13 1 3),qg 10 true (ql 14 1 13),
 qg 10 true (qc 15 (F "r02.SameInts") [.t 12,.t 14]),qP 16 10 15,qm 4 16]
@[go_sem] def c_r06_Same (F : Fn) : LC := (.seq (.reg c_r06_Same_r0 [2,3]) (.seq (.reg (c_r06_Same_r1 F) [4]) .ret))
def h_r06_Same : Hints := hOf [] (c_r06_Same fun _ => 0)
def nodeE (bn : List Int) : List Int → List Int → Int
 | k :: ms, t :: as => if 0 ≤ k ∧ k < bn.length then (if gt bn k = t then nodeE bn ms as else 13) else 6
 | _, _ => 0
def edgeE (be : List E) (mn : List Int) : List Int → List E → Int
 | k :: ms, x :: as => if 0 ≤ k ∧ k < be.length then (if x.t = (gt be k).t then (if gt mn x.f = (gt be k).f ∧ gt mn x.o = (gt be k).o then edgeE be mn ms as else 11) else 13) else 6
 | _, _ => 0
def validM (a b : G) (m : Mo) : Int :=
 if validG a ≠ 0 then validG a else if validG b ≠ 0 then validG b else if m.n.length ≠ a.n.length ∨ m.e.length ≠ a.e.length then 20
 else if nodeE b.n m.n a.n ≠ 0 then nodeE b.n m.n a.n else edgeE b.e m.n m.e a.e
def thr (l by_ : List Int) : List Int := l.map fun x => gt by_ x
def thenM (m n : Mo) : Mo := ⟨thr m.n n.n, thr m.e n.e⟩
section
variable (P : Program) (F : String → Nat)
def K_morphism_Valid : Prop := ∀ (a b : G) (m : Mo), FC P (F "morphism.Valid") [gD a, gD b, mD m] (.int .i64 (validM a b m)) []
def K_r02_SameInts : Prop := ∀ a b : List Int, a.length ≤ maxL → FC P (F "r02.SameInts") [.lst 1 (ints a), .lst 1 (ints b)] (.bool (decide (a = b))) []
def K_r06_Same : Prop := ∀ a b : Mo, a.n.length ≤ maxL → a.e.length ≤ maxL → FC P (F "r06.Same") [mD a, mD b] (.bool (decide (a = b))) []
end
section
variable {P : Program} {F : String → Nat} {α : Type}
theorem nodeE_step {bn ms as : List Int} {i : Nat} (h1 : i < ms.length) (h2 : i < as.length) : nodeE bn (ms.drop i) (as.drop i) =
  if 0 ≤ gt ms i ∧ gt ms i < bn.length then (if gt bn (gt ms i) = gt as i then nodeE bn (ms.drop (i + 1)) (as.drop (i + 1)) else 13) else 6 := by
 rw [drop_gt h1, drop_gt h2, nodeE]
theorem edgeE_step {be : List E} {mn ms : List Int} {as : List E} {i : Nat} (h1 : i < ms.length) (h2 : i < as.length) : edgeE be mn (ms.drop i) (as.drop i) =
  if 0 ≤ gt ms i ∧ gt ms i < be.length then (if (gt as i).t = (gt be (gt ms i)).t then (if gt mn (gt as i).f = (gt be (gt ms i)).f ∧ gt mn (gt as i).o = (gt be (gt ms i)).o then edgeE be mn (ms.drop (i + 1)) (as.drop (i + 1)) else 11) else 13) else 6 := by
 rw [drop_gt h1, drop_gt h2, edgeE]
theorem nodeE_end {bn ms as : List Int} {i : Nat} (h1 : ms.length ≤ i) : nodeE bn (ms.drop i) (as.drop i) = 0 := by
 rw [List.drop_of_length_le h1]; rfl
theorem edgeE_end {be : List E} {mn ms : List Int} {as : List E} {i : Nat} (h1 : ms.length ≤ i) : edgeE be mn (ms.drop i) (as.drop i) = 0 := by
 rw [List.drop_of_length_le h1]; cases as.drop i <;> rfl
theorem w_morphism_Valid (hv : K_graph_Valid P F) (a b : G) (m : Mo) : W P (c_morphism_Valid F) (Done [.t 6] [] (.int .i64 (validM a b m)) []) (init [gD a, gD b, mD m]) := by
 refine W_of ?_
 have rva := hv a
 have rvb := hv b
 have sva := @valid_spec a
 have svb := @valid_spec b
 have hvm : validM a b m = if validG a ≠ 0 then validG a else if validG b ≠ 0 then validG b else if m.n.length ≠ a.n.length ∨ m.e.length ≠ a.e.length then 20
  else if nodeE b.n m.n a.n ≠ 0 then nodeE b.n m.n a.n else edgeE b.e m.n m.e a.e := rfl
 rw [hvm]
 generalize validG a = va at *
 generalize validG b = vb at *
 clear hvm
 obtain ⟨an, ae⟩ := a
 obtain ⟨bn, be⟩ := b
 obtain ⟨mn, me⟩ := m
 simp only [gD] at rva rvb
 simp only at sva svb
 simp (disch := omega) only [go_sem, ↓reduceIte, gD, mD]
 refine call_by rva ?_
 simp (disch := omega) only [go_sem, ↓reduceIte]
 refine bran_ndec (fun c1 => ?_) (fun c1 => ?_)
 ·simp (disch := omega) only [go_sem, ↓reduceIte]
 ·subst c1
  obtain ⟨a1, a2, _, a4⟩ := sva rfl
  simp (disch := omega) only [go_sem, ↓reduceIte]
  refine call_by rvb ?_
  simp (disch := omega) only [go_sem, ↓reduceIte]
  refine bran_ndec (fun c2 => ?_) (fun c2 => ?_)
  ·simp (disch := omega) only [go_sem, ↓reduceIte]
   simp [c2]
  ·subst c2
   obtain ⟨b1, b2, _, b4⟩ := svb rfl
   simp (disch := omega) only [go_sem, ↓reduceIte]
   refine bran_ndec (fun c3 => ?_) (fun c3 => ?_)
   ·simp (disch := omega) only [go_sem, ↓reduceIte, c3]
    rw [if_neg (by simp), if_neg (by simp)]
   ·simp (disch := omega) only [go_sem, ↓reduceIte, c3]
    refine bran_ndec (fun c4 => ?_) (fun c4 => ?_)
    ·simp (disch := omega) only [go_sem, ↓reduceIte, c3, c4]
     rw [if_neg (by simp), if_neg (by simp)]
    ·have d3 : mn.length = an.length := by omega
     have d4 : me.length = ae.length := by omega
     rw [if_neg (by simp), if_neg (by simp), if_neg (by simp only; omega)]
     clear c3 c4
     simp (disch := omega) only [go_sem, ↓reduceIte, d3, d4]
     refine W_loop (fun i : Nat => ⟨[(3, .pt 0 0), (4, .pt 1 0), (5, .pt 2 0), (42, .lst 1 (ints mn)), (43, .int .i64 an.length), (44, .int .i64 i)],
      [(0, .box [.lst 1 (ints an), .lst 3 (eds ae)]), (1, .box [.lst 1 (ints bn), .lst 3 (eds be)]), (2, .box [.lst 1 (ints mn), .lst 1 (ints me)])], 3⟩)
      (fun i => i ≤ mn.length ∧ nodeE bn mn an = nodeE bn (mn.drop i) (an.drop i)) (fun i => mn.length - i) 0 ?_ ?_ ?_
     ·simp (disch := omega) only [go_sem, ↓reduceIte, d3]
      rfl
     ·simp
     ·rintro i ⟨hi, hn⟩
      simp (disch := omega) only [go_sem, ↓reduceIte, c_morphism_Valid_b17]
      refine bran_dec (fun c5 => ?_) (fun c5 => ?_)
      ·have hs := nodeE_step (bn := bn) (ms := mn) (as := an) (i := i) (by omega) (by omega)
       simp (disch := omega) only [go_sem, ↓reduceIte]
       refine bran_dec (fun c6 => ?_) (fun c6 => ?_)
       ·simp (disch := omega) only [go_sem, ↓reduceIte, c6]
        rw [if_neg (show ¬ (0 ≤ gt mn i ∧ gt mn i < bn.length) by omega)] at hs
        rw [hn, hs]
        try simp
       ·simp (disch := omega) only [go_sem, ↓reduceIte, c6]
        refine bran_dec (fun c7 => ?_) (fun c7 => ?_)
        ·simp (disch := omega) only [go_sem, ↓reduceIte]
         rw [if_neg (show ¬ (0 ≤ gt mn i ∧ gt mn i < bn.length) by omega)] at hs
         rw [hn, hs]
         try simp
        ·rw [if_pos (show (0 ≤ gt mn i ∧ gt mn i < bn.length) by omega)] at hs
         simp (disch := omega) only [go_sem, ↓reduceIte]
         refine bran_ndec (fun c8 => ?_) (fun c8 => ?_)
         ·rw [if_neg c8] at hs
          simp (disch := omega) only [go_sem, ↓reduceIte]
          rw [hn, hs]
          try simp
         ·rw [if_pos c8] at hs
          simp (disch := omega) only [go_sem, ↓reduceIte]
          exact ⟨i + 1, by simp, ⟨by omega, by rw [hn, hs]⟩, by omega⟩
      ·rw [nodeE_end (by omega)] at hn
       simp (disch := omega) only [go_sem, ↓reduceIte]
       refine W_loop (fun i : Nat => ⟨[(3, .pt 0 0), (4, .pt 1 0), (5, .pt 2 0), (71, .lst 1 (ints me)), (72, .int .i64 ae.length), (73, .int .i64 i)],
        [(0, .box [.lst 1 (ints an), .lst 3 (eds ae)]), (1, .box [.lst 1 (ints bn), .lst 3 (eds be)]), (2, .box [.lst 1 (ints mn), .lst 1 (ints me)])], 3⟩)
        (fun i => i ≤ me.length ∧ edgeE be mn me ae = edgeE be mn (me.drop i) (ae.drop i)) (fun i => me.length - i) 0 ?_ ?_ ?_
       ·simp (disch := omega) only [go_sem, ↓reduceIte, d4]
        rfl
       ·simp
       ·rintro i ⟨hi, he⟩
        simp (disch := omega) only [go_sem, ↓reduceIte, c_morphism_Valid_b29]
        refine bran_dec (fun c5 => ?_) (fun c5 => ?_)
        ·have hs := edgeE_step (be := be) (mn := mn) (ms := me) (as := ae) (i := i) (by omega) (by omega)
         have hae := fits_spec (a4 _ (gt_mem (l := ae) (j := i) (by omega) (by omega)))
         simp (disch := omega) only [go_sem, ↓reduceIte]
         refine bran_dec (fun c6 => ?_) (fun c6 => ?_)
         ·simp (disch := omega) only [go_sem, ↓reduceIte, c6]
          rw [if_neg (show ¬ (0 ≤ gt me i ∧ gt me i < be.length) by omega)] at hs
          rw [hn, he, hs]
          simp
         ·simp (disch := omega) only [go_sem, ↓reduceIte, c6]
          refine bran_dec (fun c7 => ?_) (fun c7 => ?_)
          ·simp (disch := omega) only [go_sem, ↓reduceIte]
           rw [if_neg (show ¬ (0 ≤ gt me i ∧ gt me i < be.length) by omega)] at hs
           rw [hn, he, hs]
           simp
          ·rw [if_pos (show (0 ≤ gt me i ∧ gt me i < be.length) by omega)] at hs
           simp (disch := omega) only [go_sem, ↓reduceIte]
           refine bran_ndec (fun c8 => ?_) (fun c8 => ?_)
           ·rw [if_neg c8] at hs
            simp (disch := omega) only [go_sem, ↓reduceIte]
            rw [hn, he, hs]
            simp
           ·rw [if_pos c8] at hs
            simp (disch := omega) only [go_sem, ↓reduceIte]
            refine bran_ndec (fun c9 => ?_) (fun c9 => ?_)
            ·rw [if_neg (fun h => c9 h.1)] at hs
             simp (disch := omega) only [go_sem, ↓reduceIte, c9]
             rw [hn, he, hs]
             simp
            ·simp (disch := omega) only [go_sem, ↓reduceIte, c9]
             refine bran_ndec (fun d1 => ?_) (fun d1 => ?_)
             ·rw [if_neg (fun h => d1 h.2)] at hs
              simp (disch := omega) only [go_sem, ↓reduceIte]
              rw [hn, he, hs]
              simp
             ·rw [if_pos ⟨c9, d1⟩] at hs
              simp (disch := omega) only [go_sem, ↓reduceIte]
              exact ⟨i + 1, by simp, ⟨by omega, by rw [he, hs]⟩, by omega⟩
        ·rw [edgeE_end (by omega)] at he
         simp (disch := omega) only [go_sem, ↓reduceIte]
         rw [hn, he]
         simp
theorem w_r02_SameInts (a b : List Int) (hl : a.length ≤ maxL) : W P (c_r02_SameInts F) (Done [.t 4] [] (.bool (decide (a = b))) []) (init [.lst 1 (ints a), .lst 1 (ints b)]) := by
 refine W_of ?_
 unfold maxL at hl
 simp (disch := omega) only [go_sem, ↓reduceIte]
 refine bran_ndec (fun h => ?_) (fun h => ?_)
 ·simp (disch := omega) only [go_sem, ↓reduceIte]
  have : a ≠ b := fun e => h (by rw [e])
  simp [this]
 ·have h' : a.length = b.length := by omega
  simp (disch := omega) only [go_sem, ↓reduceIte]
  refine W_loop (fun i : Nat => ⟨[(0, .lst 1 (ints a)), (1, .lst 1 (ints b)), (5, .int .i64 i)], [], 0⟩) (fun i => i ≤ a.length ∧ a.take i = b.take i) (fun i => a.length - i) 0 ?_ ?_ ?_
  ·simp (disch := omega) only [go_sem, ↓reduceIte]
   rfl
  ·simp
  ·intro i hi
   simp (disch := omega) only [go_sem, ↓reduceIte, c_r02_SameInts_b8]
   refine bran_dec (fun c => ?_) (fun c => ?_)
   ·simp (disch := omega) only [go_sem, ↓reduceIte]
    refine bran_ndec (fun d => ?_) (fun d => ?_)
    ·simp (disch := omega) only [go_sem, ↓reduceIte]
     have : a ≠ b := fun e => d (by rw [e])
     simp [this]
    ·simp (disch := omega) only [go_sem, ↓reduceIte]
     exact ⟨i + 1, by simp, ⟨by omega, by rw [take_gt (by omega), take_gt (by omega), hi.2, d]⟩, by omega⟩
   ·simp (disch := omega) only [go_sem, ↓reduceIte]
    obtain rfl : i = a.length := by omega
    have := hi.2
    rw [List.take_length, List.take_of_length_le (by omega)] at this
    simp [this]
theorem w_r06_Same (hs : K_r02_SameInts P F) (a b : Mo) (h1 : a.n.length ≤ maxL) (h2 : a.e.length ≤ maxL) : W P (c_r06_Same F) (Done [.t 4] [] (.bool (decide (a = b))) []) (init [mD a, mD b]) := by
 refine W_of ?_
 obtain ⟨an, ae⟩ := a
 obtain ⟨bn, be⟩ := b
 simp only at h1 h2
 simp (disch := omega) only [go_sem, ↓reduceIte, mD]
 refine call_by (hs _ _ h1) ?_
 simp (disch := omega) only [go_sem, ↓reduceIte]
 refine bran_dec (fun c => ?_) (fun c => ?_)
 ·subst c
  simp (disch := omega) only [go_sem, ↓reduceIte]
  refine call_by (hs _ _ h2) ?_
  simp (disch := omega) only [go_sem, ↓reduceIte]
  simp
 ·simp (disch := omega) only [go_sem, ↓reduceIte, c]
  simp [c]
theorem thr_len (l b : List Int) : (thr l b).length = l.length := by simp [thr]
end
def m0 : Mo := ⟨[], []⟩
def injM (a b : G) (m : Mo) : Bool := decide (validM a b m = 0) && (distinct m.n && distinct m.e)
section
variable (P : Program) (F : String → Nat)
end
section
variable {P : Program} {F : String → Nat} {α : Type}
theorem validM_spec {a b : G} {m : Mo} (h : validM a b m = 0) : validG a = 0 ∧ validG b = 0 ∧ m.n.length = a.n.length ∧ m.e.length = a.e.length ∧ nodeE b.n m.n a.n = 0 ∧ edgeE b.e m.n m.e a.e = 0 := by
 unfold validM at h
 split at h
 ·rename_i h1; exact absurd h h1
 ·rename_i h1
  split at h
  ·rename_i h2; exact absurd h h2
  ·rename_i h2
   split at h
   ·cases h
   ·rename_i h3
    split at h
    ·rename_i h4; exact absurd h h4
    ·rename_i h4
     exact ⟨by simpa using h1, by simpa using h2, by omega, by omega, by simpa using h4, h⟩
theorem validM_len {a b : G} {m : Mo} (h : validM a b m = 0) : m.n.length ≤ 40 ∧ m.e.length ≤ 80 ∧ a.n.length ≤ 40 ∧ a.e.length ≤ 80 ∧ b.n.length ≤ 40 ∧ b.e.length ≤ 80 := by
 obtain ⟨h1, h2, h3, h4, _⟩ := validM_spec h
 obtain ⟨a1, a2, _⟩ := valid_spec h1
 obtain ⟨b1, b2, _⟩ := valid_spec h2
 omega
end
@[go_sem] def c_slices_Compact_I_r0 : LL := [qn 2 1]
@[go_sem] def c_slices_Compact_I_r1 : LL := [qm 6 0,qz 7 6,qk .lss 8 7 2]
@[go_sem] def c_slices_Compact_I_r2 : LL := [qm 9 0,qm 2 9]
@[go_sem] def c_slices_Compact_I_r3 : LL := [qi 3 1]
@[go_sem] def c_slices_Compact_I_r4 : LL := [qm 10 3,qm 11 0,qz 12 11,qo .lss 13 10 12]
@[go_sem] def c_slices_Compact_I_r5 : LL := [qm 16 0,qm 17 3,qd 18 1 16 17,ql 19 1 18,qm 20 0,qm 21 3,qk .sub 22 21 1,qd 23 1 20 22,ql 24 1 23,qo .eql 25 19 24]
@[go_sem] def c_slices_Compact_I_r6 : LL := [qm 26 0,qm 27 3,⟨some 28,.slc 1 (.t 26) (some (.t 27)) none,none⟩,qm 4 28]
@[go_sem] def c_slices_Compact_I_r7 : LL := [qi 5 1]
@[go_sem] def c_slices_Compact_I_r8 : LL := [qm 29 5,qm 30 4,qz 31 30,qo .lss 32 29 31]
@[go_sem] def c_slices_Compact_I_r9 : LL := [qm 35 4,qm 36 5,qd 37 1 35 36,ql 38 1 37,qm 39 4,qm 40 5,qk .sub 41 40 1,qd 42 1 39 41,ql 43 1 42,qo .neq 44 38 43]
@[go_sem] def c_slices_Compact_I_r10 : LL := [qm 45 0,qm 46 3,qm 47 4,qm 48 5,qd 49 1 47 48,ql 50 1 49,qd 51 1 45 46,qs 1 51 50]
@[go_sem] def c_slices_Compact_I_r11 : LL := [qm 52 3,qk .add 53 52 1,qm 3 53]
@[go_sem] def c_slices_Compact_I_r12 : LL := [qm 33 5,qk .add 34 33 1,qm 5 34]
def c_slices_Compact_I_b13 : LC := (.seq (.seq (.reg c_slices_Compact_I_r8 [0,3,4,5,32]) (.cond (.t 32) .skip (.exit 2))) (.seq (.block 3 (.seq (.dreg [] c_slices_Compact_I_r9 [0,3,4,5,44]) (.cond (.t 44) (.seq (.reg c_slices_Compact_I_r10 [0,3,4,5]) (.reg c_slices_Compact_I_r11 [0,3,4,5])) .skip))) (.reg c_slices_Compact_I_r12 [0,3,4,5])))
@[go_sem] def c_slices_Compact_I_r14 : LL := [qm 54 0,qm 55 3,⟨some 56,.slc 1 (.t 54) (some (.t 55)) none,none⟩,⟨none,.clr 1 (.t 56),none⟩]
@[go_sem] def c_slices_Compact_I_r15 : LL := [qm 57 0,qm 58 3,⟨some 59,.slc 1 (.t 57) none (some (.t 58)),none⟩,qm 2 59]
@[go_sem] def c_slices_Compact_I_r16 : LL := [qm 14 3,qk .add 15 14 1,qm 3 15]
def c_slices_Compact_I_b17 : LC := (.seq (.seq (.reg c_slices_Compact_I_r4 [0,3,13]) (.cond (.t 13) .skip (.exit 0))) (.seq (.block 1 (.seq (.dreg [] c_slices_Compact_I_r5 [0,3,25]) (.cond (.t 25) (.seq (.reg c_slices_Compact_I_r6 [0,3,4]) (.seq (.seq (.reg c_slices_Compact_I_r7 [0,3,4,5]) (.block 2 (.loop [0,3,4,5] c_slices_Compact_I_b13))) (.seq (.reg c_slices_Compact_I_r14 [0,3]) (.seq (.reg c_slices_Compact_I_r15 [2]) .ret)))) .skip))) (.reg c_slices_Compact_I_r16 [0,3])))
@[go_sem] def c_slices_Compact_I_r18 : LL := [qm 60 0,qm 2 60]
@[go_sem] def c_slices_Compact_I (F : Fn) : LC := (.seq (.reg c_slices_Compact_I_r0 [0]) (.seq (.seq (.reg c_slices_Compact_I_r1 [0,8]) (.cond (.t 8) (.seq (.reg c_slices_Compact_I_r2 [2]) .ret) .skip)) (.seq (.seq (.reg c_slices_Compact_I_r3 [0,3]) (.block 0 (.loop [0,3] c_slices_Compact_I_b17))) (.seq (.reg c_slices_Compact_I_r18 [2]) .ret))))
def h_slices_Compact_I : Hints := hn [] [(0,[0]),(1,[0,8]),(2,[2]),(3,[0,3]),(4,[0,3,13]),(5,[0,3]),(6,[0,3,25]),(7,[0,3,4]),(8,[0,3,4,5]),(9,[0,3,4,5,32]),(10,[0,3,4,5]),(11,[0,3,4,5,44]),(12,[0,3,4,5]),(13,[0,3,4,5]),(14,[0,3]),(15,[2]),(16,[2])] [(4,[0,3]),(9,[0,3,4,5])]
@[go_sem] def c_morphism_images_r0 : LL := [qi 2 0]
@[go_sem] def c_morphism_images_r1 (F : Fn) : LL := [qm 4 0,qc 5 (F "slices.Clone.I") [.t 4],qm 3 5]
@[go_sem] def c_morphism_images_r2 (F : Fn) : LL := [qm 6 3,⟨some 7,.call (F "slices.Sort.I") [.t 6] [.mu],none⟩]
@[go_sem] def c_morphism_images_r3 (F : Fn) : LL := [qm 8 3,⟨some 9,.call (F "slices.Compact.I") [.t 8] [.ow],none⟩,qz 10 9,qm 2 10]
@[go_sem] def c_morphism_images (F : Fn) : LC := (.seq (.reg c_morphism_images_r0 [0]) (.seq (.reg (c_morphism_images_r1 F) [3]) (.seq (.reg (c_morphism_images_r2 F) [3]) (.seq (.reg (c_morphism_images_r3 F) [2]) .ret))))
def h_morphism_images : Hints := hOf [] (c_morphism_images fun _ => 0)
@[go_sem] def c_morphism_Injective_r0 : LL := [qB 3 0,qB 4 1,qB 5 2,qb 6 false]
@[go_sem] def c_morphism_Injective_r1 (F : Fn) : LL := [qL 7 2 3,qL 8 2 4,qL 9 2 5,qc 10 (F "morphism.Valid") [.t 7,.t 8,.t 9],qk .eql 11 10 0,qm 12 11,qg 12 true (qf 13 0 5),qg 12 true (ql 14 1 13),qg 12 true (qc 15 (F "morphism.images") [.t 14]),
 qg 12 true (qf 16 0 5),qg 12 true (ql 17 1 16),qg 12 true (qz 18 17),qg 12 true (qo .eql 19 15 18),qP 20 12 19,qm 21 20,qg 21 true (qf 22 1 5),qg 21 true (ql 23 1 22),
 qg 21 true (qc 24 (F "morphism.images") [.t 23]),qg 21 true (qf 25 1 5),qg 21 true (ql 26 1 25),qg 21 true (qz 27 26),qg 21 true (qo .eql 28 24 27),qP 29 21 28,qm 6 29]
@[go_sem] def c_morphism_Injective (F : Fn) : LC := (.seq (.reg c_morphism_Injective_r0 [3,4,5]) (.seq (.dreg [(8,none,[],true),(10,(some 575),[8],false),(17,none,[],true),(19,(some 294911),[17],false)] (c_morphism_Injective_r1 F) [6]) .ret))
def h_morphism_Injective : Hints := hOf [] (c_morphism_Injective fun _ => 0)
@[go_sem] def c_morphism_Surjective_r0 : LL := [qB 3 0,qB 4 1,qB 5 2,qb 6 false]
@[go_sem] def c_morphism_Surjective_r1 (F : Fn) : LL := [qL 7 2 3,qL 8 2 4,qL 9 2 5,qc 10 (F "morphism.Valid") [.t 7,.t 8,.t 9],qk .eql 11 10 0,qm 12 11,qg 12 true (qf 13 0 5),qg 12 true (ql 14 1 13),qg 12 true (qc 15 (F "morphism.images") [.t 14]),
 qg 12 true (qf 16 0 4),qg 12 true (ql 17 1 16),qg 12 true (qz 18 17),qg 12 true (qo .eql 19 15 18),qP 20 12 19,qm 21 20,qg 21 true (qf 22 1 5),qg 21 true (ql 23 1 22),
 qg 21 true (qc 24 (F "morphism.images") [.t 23]),qg 21 true (qf 25 1 4),qg 21 true (ql 26 1 25),qg 21 true (qz 27 26),qg 21 true (qo .eql 28 24 27),qP 29 21 28,qm 6 29]
@[go_sem] def c_morphism_Surjective (F : Fn) : LC := (.seq (.reg c_morphism_Surjective_r0 [3,4,5]) (.seq (.dreg [(8,none,[],true),(10,(some 575),[8],false),(17,none,[],true),(19,(some 294911),[17],false)] (c_morphism_Surjective_r1 F) [6]) .ret))
def h_morphism_Surjective : Hints := hOf [] (c_morphism_Surjective fun _ => 0)
def kept (l : List Int) (i : Nat) : Bool := decide (i = 0) || decide (gt l i ≠ gt l ((i : Int) - 1))
def kp (l : List Int) (n : Nat) : List Int := ((List.range n).filter (kept l)).map fun i : Nat => gt l i
def cpt (l : List Int) : List Int := kp l l.length
def imgs (l : List Int) : List Int := cpt (srt l)
def covers (l : List Int) (n : Nat) : Bool := (List.range n).all fun k : Nat => decide ((k : Int) ∈ l)
def surM (a b : G) (m : Mo) : Bool := decide (validM a b m = 0) && (covers m.n b.n.length && covers m.e b.e.length)
section
variable (P : Program) (F : String → Nat)
def K_slices_Compact_I : Prop := ∀ l : List Int, l.length ≤ maxL → FC P (F "slices.Compact.I") [.arr 1 (ints l)] (.arr 1 (ints (cpt l))) []
def K_morphism_images : Prop := ∀ l : List Int, l.length ≤ 1000000 → FC P (F "morphism.images") [.lst 1 (ints l)] (.int .i64 (imgs l).length) []
def K_morphism_Injective : Prop := ∀ (a b : G) (m : Mo), FC P (F "morphism.Injective") [gD a, gD b, mD m] (.bool (injM a b m)) []
def K_morphism_Surjective : Prop := ∀ (a b : G) (m : Mo), FC P (F "morphism.Surjective") [gD a, gD b, mD m] (.bool (surM a b m)) []
end
section
variable {P : Program} {F : String → Nat} {α : Type}
theorem kp_succ (l : List Int) (n : Nat) : kp l (n + 1) = if kept l n = true then kp l n ++ [gt l n] else kp l n := by
 simp only [kp, List.range_succ, List.filter_append, List.filter_cons, List.filter_nil, List.map_append]
 split <;> simp
theorem kp_len (l : List Int) (n : Nat) : (kp l n).length ≤ n := by
 simp only [kp, List.length_map]
 exact Nat.le_trans (List.length_filter_le _ _) (by simp)
theorem w_slices_Compact_I (l : List Int) (hl : l.length ≤ maxL) : W P (c_slices_Compact_I F) (Done [.t 2] [] (.arr 1 (ints (cpt l))) []) (init [.arr 1 (ints l)]) := by
 refine W_of ?_
 unfold maxL at hl
 simp (disch := omega) only [go_sem, ↓reduceIte]
 refine bran_dec (fun c => ?_) (fun c => ?_)
 ·have : cpt l = l := by
   match l, c with
   | [], _ => rfl
   | [x], _ => simp [cpt, kp, kept, List.range_succ, gt]
   | x :: y :: l, c => simp at c; omega
  simp (disch := omega) only [go_sem, ↓reduceIte]
  rw [this]
 ·simp (disch := omega) only [go_sem, ↓reduceIte]
  refine W_loop (fun k : Nat => ⟨[(0, .sl 0 0 l.length), (3, .int .i64 k)], [(0, .arr 1 (ints l))], 1⟩) (fun k => 1 ≤ k ∧ k ≤ l.length ∧ kp l k = l.take k) (fun k => l.length - k) 1 ?_ ?_ ?_
  ·simp (disch := omega) only [go_sem, ↓reduceIte]
   rfl
  ·refine ⟨by omega, by omega, ?_⟩
   rw [kp_succ, if_pos (by simp [kept]), take_gt (by omega)]
   rfl
  ·rintro k ⟨h1, h2, h3⟩
   have hs := kp_succ l k
   simp (disch := omega) only [go_sem, ↓reduceIte, c_slices_Compact_I_b17]
   refine bran_dec (fun d => ?_) (fun d => ?_)
   ·simp (disch := omega) only [go_sem, ↓reduceIte]
    refine bran_dec (fun e => ?_) (fun e => ?_)
    ·rw [if_neg (by simp [kept, e]; omega)] at hs
     simp (disch := omega) only [go_sem, ↓reduceIte]
     refine W_loop (fun s : Nat × Nat × List Int => ⟨[(0, .sl 0 0 l.length), (3, .int .i64 s.2.1), (4, .sl 0 k (l.length - k)), (5, .int .i64 s.1)], [(0, .arr 1 (ints s.2.2))], 1⟩)
      (fun s => 1 ≤ s.1 ∧ k + s.1 ≤ l.length ∧ s.2.1 + 1 ≤ k + s.1 ∧ s.2.2.length = l.length ∧ s.2.2.take s.2.1 = kp l (k + s.1) ∧ s.2.2.drop (k + s.1 - 1) = l.drop (k + s.1 - 1)) (fun s => l.length - s.1) (1, k, l) ?_ ?_ ?_
     ·simp (disch := omega) only [go_sem, ↓reduceIte]
      rfl
     ·exact ⟨by simp, by simp only; omega, by simp, rfl, by simp only; rw [hs, h3], rfl⟩
     ·rintro ⟨j, i, xs⟩ ⟨g1, g2, g3, g4, g5, g6⟩
      simp only at g1 g2 g3 g4 g5 g6
      have hs2 := kp_succ l (k + j)
      have gat : ∀ m : Nat, k + j - 1 ≤ m → m < l.length → gt xs m = gt l m := fun m hm1 hm2 => by
       have := congrArg (fun l : List Int => l[m - (k + j - 1)]?) g6
       simp only [List.getElem?_drop] at this
       rw [show k + j - 1 + (m - (k + j - 1)) = m by omega, List.getElem?_eq_getElem (by omega), List.getElem?_eq_getElem (by omega)] at this
       rw [gt_nat (by omega), gt_nat (by omega)]
       simpa using this
      simp (disch := omega) only [go_sem, ↓reduceIte, c_slices_Compact_I_b13, g4]
      refine bran_dec (fun d => ?_) (fun d => ?_)
      ·have e1 := gat (k + j) (by omega) (by omega)
       have e2 : gt xs ((k + ((j : Int) - 1).toNat : Nat) : Int) = gt l (((k + j : Nat) : Int) - 1) := by
        rw [show k + ((j : Int) - 1).toNat = k + j - 1 by omega, gat (k + j - 1) (by omega) (by omega)]
        congr 1
        omega
       have hd : xs.drop (k + j) = l.drop (k + j) := by
        have := congrArg (fun l : List Int => l.drop 1) g6
        simp only [List.drop_drop] at this
        rw [show k + j - 1 + 1 = k + j by omega] at this
        exact this
       simp (disch := omega) only [go_sem, ↓reduceIte, g4, e1, e2]
       refine bran_ndec (fun f => ?_) (fun f => ?_)
       ·rw [if_pos (by unfold kept; rw [Bool.or_eq_true]; exact .inr (decide_eq_true f))] at hs2
        simp (disch := omega) only [go_sem, ↓reduceIte, g4, e1]
        refine ⟨(j + 1, i + 1, xs.set i (gt l ((k + j : Nat) : Int))), by simp, ⟨by simp only; omega, by simp only; omega, by simp only; omega, by simp [g4], ?_, ?_⟩, by simp only; omega⟩
        ·simp only
         rw [← Nat.add_assoc, hs2, ← g5, List.take_succ_eq_append_getElem (by simp; omega), List.take_set_of_le (Nat.le_refl _)]
         simp
        ·simp only
         rw [show k + (j + 1) - 1 = k + j by omega, List.drop_set_of_lt (by omega), hd]
       ·rw [if_neg (by unfold kept; simp only [Bool.or_eq_true, decide_eq_true_eq, not_or, ne_eq, Decidable.not_not]; exact ⟨by omega, f⟩)] at hs2
        simp (disch := omega) only [go_sem, ↓reduceIte, g4]
        refine ⟨(j + 1, i, xs), by simp, ⟨by simp only; omega, by simp only; omega, by simp only; omega, g4, ?_, ?_⟩, by simp only; omega⟩
        ·simp only
         rw [← Nat.add_assoc, hs2, ← g5]
        ·simp only
         rw [show k + (j + 1) - 1 = k + j by omega, hd]
      ·have hi : (xs.take i).length = i := by simp; omega
       have hkj : k + j = l.length := by omega
       simp (disch := omega) only [go_sem, ↓reduceIte, g4, hi, Nat.sub_zero]
       rw [g5, hkj, cpt]
    ·rw [if_pos (by simp [kept, e])] at hs
     simp (disch := omega) only [go_sem, ↓reduceIte]
     exact ⟨k + 1, by simp, ⟨by omega, by omega, by rw [hs, h3, take_gt (by omega)]⟩, by omega⟩
   ·obtain rfl : k = l.length := by omega
    simp (disch := omega) only [go_sem, ↓reduceIte]
    rw [cpt, h3, List.take_length]
theorem kp_sub (l : List Int) : ∀ n, n ≤ l.length → (kp l n).Sublist (l.take n)
 | 0, _ => by simp [kp]
 | n + 1, h => by
  rw [kp_succ, take_gt (by omega)]
  split
  ·exact (kp_sub l n (by omega)).append (List.Sublist.refl _)
  ·exact (kp_sub l n (by omega)).trans (List.sublist_append_left _ _)
theorem kp_mem (l : List Int) : ∀ n, n ≤ l.length → ∀ x ∈ l.take n, x ∈ kp l n
 | 0, _ => by simp
 | n + 1, h => by
  intro x hx
  rw [take_gt (by omega)] at hx
  rw [kp_succ]
  rcases List.mem_append.1 hx with hx | hx
  ·split
   ·exact List.mem_append_left _ (kp_mem l n (by omega) x hx)
   ·exact kp_mem l n (by omega) x hx
  ·simp only [List.mem_singleton] at hx
   subst hx
   split
   ·simp
   ·rename_i hk
    simp only [kept, Bool.or_eq_true, decide_eq_true_eq, not_or, ne_eq, Decidable.not_not] at hk
    refine kp_mem l n (by omega) _ ?_
    rw [hk.2, show (n : Int) - 1 = ((n - 1 : Nat) : Int) by omega, gt_nat (by omega)]
    exact List.mem_take_iff_getElem.2 ⟨n - 1, by omega, rfl⟩
theorem kp_lt {l : List Int} (hs : l.Pairwise (· ≤ ·)) : ∀ n, n ≤ l.length → (kp l n).Pairwise (· < ·)
 | 0, _ => by simp [kp]
 | n + 1, h => by
  rw [kp_succ]
  split
  ·rename_i hk
   rw [List.pairwise_append]
   refine ⟨kp_lt hs n (by omega), by simp, fun x hx y hy => ?_⟩
   simp only [List.mem_singleton] at hy
   subst hy
   obtain ⟨m, hm, rfl⟩ := List.mem_take_iff_getElem.1 ((kp_sub l n (by omega)).subset hx)
   simp only [kept, Bool.or_eq_true, decide_eq_true_eq, ne_eq] at hk
   have hn : n ≠ 0 := by omega
   have hne : gt l n ≠ gt l ((n : Int) - 1) := hk.resolve_left hn
   rw [gt_nat (by omega), show (n : Int) - 1 = ((n - 1 : Nat) : Int) by omega, gt_nat (by omega)] at hne
   rw [gt_nat (by omega)]
   have h1 : l[n - 1] ≤ l[n] := List.pairwise_iff_getElem.1 hs (n - 1) n (by omega) (by omega) (by omega)
   have h2 : l[m] ≤ l[n - 1] := by
    by_cases he : m = n - 1
    ·subst he; exact Int.le_refl _
    ·exact List.pairwise_iff_getElem.1 hs m (n - 1) (by omega) (by omega) (by omega)
   omega
  ·exact kp_lt hs n (by omega)
theorem imgs_mem {l : List Int} {x : Int} : x ∈ imgs l ↔ x ∈ l := by
 unfold imgs cpt
 constructor
 ·intro h
  have := (kp_sub (srt l) _ (Nat.le_refl _)).subset h
  rw [List.take_length] at this
  exact (srt_perm l).mem_iff.1 this
 ·intro h
  exact kp_mem (srt l) _ (Nat.le_refl _) x (by rw [List.take_length]; exact (srt_perm l).mem_iff.2 h)
theorem imgs_lt (l : List Int) : (imgs l).Pairwise (· < ·) := kp_lt (srt_sorted l) _ (Nat.le_refl _)
theorem imgs_nodup (l : List Int) : (imgs l).Nodup := (imgs_lt l).imp (fun h => by omega)
theorem imgs_len (l : List Int) : (imgs l).length ≤ l.length := by
 rw [← srt_len l]; exact kp_len _ _
theorem imgs_inj {l : List Int} : (imgs l).length = l.length ↔ l.Nodup := by
 have hsub : (imgs l).Sublist (srt l) := by
  have := kp_sub (srt l) _ (Nat.le_refl _)
  rwa [List.take_length] at this
 constructor
 ·intro h
  have : imgs l = srt l := hsub.eq_of_length (by rw [h, srt_len])
  exact (srt_perm l).nodup_iff.1 (this ▸ imgs_nodup l)
 ·intro h
  have hp : (imgs l).Perm l := (List.perm_ext_iff_of_nodup (imgs_nodup l) h).2 fun x => imgs_mem
  exact hp.length_eq
theorem imgs_sur {l : List Int} {n : Nat} (hb : ∀ x ∈ l, 0 ≤ x ∧ x < n) : (imgs l).length = n ↔ ∀ k : Nat, k < n → (k : Int) ∈ l := by
 have hnn : (nums 0 n).Nodup := by
  unfold nums List.Nodup
  rw [List.pairwise_map]
  exact (List.nodup_range (n := n)).imp fun h => by omega
 have hmem : ∀ x : Int, x ∈ nums 0 n ↔ 0 ≤ x ∧ x < n := fun x => by
  unfold nums
  simp only [List.mem_map, List.mem_range]
  constructor
  ·rintro ⟨k, hk, rfl⟩; omega
  ·rintro ⟨h1, h2⟩; exact ⟨x.toNat, by omega, by omega⟩
 have hp : (imgs l).Perm ((nums 0 n).filter fun x => decide (x ∈ l)) := (List.perm_ext_iff_of_nodup (imgs_nodup l) (hnn.filter _)).2 fun x => by
  rw [imgs_mem, List.mem_filter, hmem, decide_eq_true_eq]
  exact ⟨fun h => ⟨hb x h, h⟩, fun h => h.2⟩
 rw [hp.length_eq]
 have hn := nums_len 0 n
 constructor
 ·intro h k hk
  have := (List.filter_eq_self.1 ((List.filter_sublist (l := nums 0 n) (p := fun x => decide (x ∈ l))).eq_of_length (by rw [h, hn]))) k ((hmem k).2 (by omega))
  simpa using this
 ·intro h
  rw [List.filter_eq_self.2 fun x hx => ?_, hn]
  have hx := (hmem x).1 hx
  have := h x.toNat (by omega)
  rw [Int.toNat_of_nonneg hx.1] at this
  simpa using this
end
section
variable {P : Program} {F : String → Nat} {α : Type}
theorem w_morphism_images (hc : K_slices_Clone_I P F) (hs : K_slices_Sort_I P F) (hp : K_slices_Compact_I P F) (l : List Int) (hl : l.length ≤ 1000000) : W P (c_morphism_images F) (Done [.t 2] [] (.int .i64 (imgs l).length) []) (init [.lst 1 (ints l)]) := by
 refine W_of ?_
 have e1 := srt_len l
 have e2 := imgs_len l
 have r1 := hc l (by omega)
 have r2 := hs l (by unfold maxL; omega)
 have r3 := hp (srt l) (by unfold maxL; omega)
 change FC P _ _ (.arr 1 (ints (imgs l))) _ at r3
 generalize imgs l = m at *
 generalize srt l = q at *
 simp (disch := omega) only [go_sem, ↓reduceIte]
 refine call_by r1 ?_
 simp (disch := omega) only [go_sem, ↓reduceIte]
 refine call_by r2 ?_
 simp (disch := omega) only [go_sem, ↓reduceIte, e1]
 refine call_by r3 ?_
 simp (disch := omega) only [go_sem, ↓reduceIte]
theorem inj_imgs (l : List Int) : decide (((imgs l).length : Int) = l.length) = distinct l := by
 rw [Bool.eq_iff_iff, distinct, decide_eq_true_eq, decide_eq_true_eq, ← imgs_inj]
 omega
theorem w_morphism_Injective (hv : K_morphism_Valid P F) (hi : K_morphism_images P F) (a b : G) (m : Mo) : W P (c_morphism_Injective F) (Done [.t 6] [] (.bool (injM a b m)) []) (init [gD a, gD b, mD m]) := by
 refine W_of ?_
 have rv := hv a b m
 have hl := @validM_len a b m
 have hd : injM a b m = (decide (validM a b m = 0) && (distinct m.n && distinct m.e)) := rfl
 rw [hd, ← inj_imgs m.n, ← inj_imgs m.e]
 generalize validM a b m = v at *
 obtain ⟨an, ae⟩ := a
 obtain ⟨bn, be⟩ := b
 obtain ⟨mn, me⟩ := m
 simp only [gD, mD] at rv ⊢
 simp (disch := omega) only [go_sem, ↓reduceIte]
 refine call_by rv ?_
 simp (disch := omega) only [go_sem, ↓reduceIte]
 refine bran_dec (fun c => ?_) (fun c => ?_)
 ·subst c
  obtain ⟨l1, l2, _⟩ := hl rfl
  simp only at l1 l2
  have r1 := hi mn (by omega)
  have r2 := hi me (by omega)
  have e1 := imgs_len mn
  have e2 := imgs_len me
  generalize imgs mn = pn at *
  generalize imgs me = pe at *
  simp (disch := omega) only [go_sem, ↓reduceIte]
  refine call_by r1 ?_
  simp (disch := omega) only [go_sem, ↓reduceIte]
  refine bran_dec (fun d => ?_) (fun d => ?_)
  ·simp (disch := omega) only [go_sem, ↓reduceIte, d]
   refine call_by r2 ?_
   simp (disch := omega) only [go_sem, ↓reduceIte, d]
   try simp
  ·simp (disch := omega) only [go_sem, ↓reduceIte, d]
   try simp
 ·simp (disch := omega) only [go_sem, ↓reduceIte, c]
  try simp
theorem nodeE_all {bn : List Int} : ∀ {ms as : List Int}, nodeE bn ms as = 0 → ms.length = as.length → ∀ i : Nat, i < ms.length → (0 ≤ gt ms i ∧ gt ms i < bn.length) ∧ gt bn (gt ms i) = gt as i
 | [], _, _, _, i, hi => by simp at hi
 | k :: ms, [], _, hl, _, _ => by simp at hl
 | k :: ms, t :: as, h, hl, i, hi => by
  rw [nodeE] at h
  split at h
  ·rename_i h1
   split at h
   ·rename_i h2
    cases i with
    | zero => exact ⟨h1, h2⟩
    | succ i =>
     have := nodeE_all h (by simpa using hl) i (by simpa using hi)
     have e1 : gt (k :: ms) ((i + 1 : Nat) : Int) = gt ms i := by simp [gt]
     have e2 : gt (t :: as) ((i + 1 : Nat) : Int) = gt as i := by simp [gt]
     rw [e1, e2]; exact this
   ·simp at h
  ·simp at h
theorem edgeE_all {be : List E} {mn : List Int} : ∀ {ms : List Int} {as : List E}, edgeE be mn ms as = 0 → ms.length = as.length → ∀ i : Nat, i < ms.length →
  (0 ≤ gt ms i ∧ gt ms i < be.length) ∧ (gt as i).t = (gt be (gt ms i)).t ∧ gt mn (gt as i).f = (gt be (gt ms i)).f ∧ gt mn (gt as i).o = (gt be (gt ms i)).o
 | [], _, _, _, i, hi => by simp at hi
 | k :: ms, [], _, hl, _, _ => by simp at hl
 | k :: ms, x :: as, h, hl, i, hi => by
  rw [edgeE] at h
  split at h
  ·rename_i h1
   split at h
   ·rename_i h2
    split at h
    ·rename_i h3
     cases i with
     | zero => exact ⟨h1, h2, h3⟩
     | succ i =>
      have := edgeE_all h (by simpa using hl) i (by simpa using hi)
      have e1 : gt (k :: ms) ((i + 1 : Nat) : Int) = gt ms i := by simp [gt]
      have e2 : gt (x :: as) ((i + 1 : Nat) : Int) = gt as i := by simp [gt]
      rw [e1, e2]; exact this
    ·simp at h
   ·simp at h
  ·simp at h
theorem validM_bd {a b : G} {m : Mo} (h : validM a b m = 0) : (∀ x ∈ m.n, 0 ≤ x ∧ x < b.n.length) ∧ ∀ x ∈ m.e, 0 ≤ x ∧ x < b.e.length := by
 obtain ⟨_, _, h3, h4, h5, h6⟩ := validM_spec h
 refine ⟨fun x hx => ?_, fun x hx => ?_⟩
 ·obtain ⟨i, hi, rfl⟩ := mem_gt hx
  exact (nodeE_all h5 h3 i hi).1
 ·obtain ⟨i, hi, rfl⟩ := mem_gt hx
  exact (edgeE_all h6 h4 i hi).1
theorem sur_imgs {l : List Int} {n : Nat} (hb : ∀ x ∈ l, 0 ≤ x ∧ x < n) : decide (((imgs l).length : Int) = n) = covers l n := by
 rw [Bool.eq_iff_iff, covers, decide_eq_true_eq, List.all_eq_true]
 simp only [List.mem_range, decide_eq_true_eq]
 rw [← imgs_sur hb]
 omega
theorem w_morphism_Surjective (hv : K_morphism_Valid P F) (hi : K_morphism_images P F) (a b : G) (m : Mo) : W P (c_morphism_Surjective F) (Done [.t 6] [] (.bool (surM a b m)) []) (init [gD a, gD b, mD m]) := by
 refine W_of ?_
 have rv := hv a b m
 have hl := @validM_len a b m
 have hbd := @validM_bd a b m
 have hd : surM a b m = (decide (validM a b m = 0) && (covers m.n b.n.length && covers m.e b.e.length)) := rfl
 rw [hd]
 generalize validM a b m = v at *
 obtain ⟨an, ae⟩ := a
 obtain ⟨bn, be⟩ := b
 obtain ⟨mn, me⟩ := m
 simp only [gD, mD] at rv ⊢
 simp (disch := omega) only [go_sem, ↓reduceIte]
 refine call_by rv ?_
 simp (disch := omega) only [go_sem, ↓reduceIte]
 refine bran_dec (fun c => ?_) (fun c => ?_)
 ·subst c
  obtain ⟨l1, l2, _⟩ := hl rfl
  obtain ⟨b1, b2⟩ := hbd rfl
  simp only at l1 l2 b1 b2
  rw [← sur_imgs b1, ← sur_imgs b2]
  have r1 := hi mn (by omega)
  have r2 := hi me (by omega)
  have e1 := imgs_len mn
  have e2 := imgs_len me
  generalize imgs mn = pn at *
  generalize imgs me = pe at *
  simp (disch := omega) only [go_sem, ↓reduceIte]
  refine call_by r1 ?_
  simp (disch := omega) only [go_sem, ↓reduceIte]
  refine bran_dec (fun d => ?_) (fun d => ?_)
  ·simp (disch := omega) only [go_sem, ↓reduceIte, d]
   refine call_by r2 ?_
   simp (disch := omega) only [go_sem, ↓reduceIte, d]
   try simp
  ·simp (disch := omega) only [go_sem, ↓reduceIte, d]
   try simp
 ·simp (disch := omega) only [go_sem, ↓reduceIte, c]
  try simp
end
section
variable {α : Type}
theorem thr_gt {l b : List Int} {i : Nat} (h : i < l.length) : gt (thr l b) i = gt b (gt l i) := by
 rw [gt_nat (by rw [thr_len]; exact h)]
 simp only [thr, List.getElem_map]
 rw [gt_nat h]
theorem gt_cons {α : Type} [Inhabited α] (a : α) (l : List α) (i : Nat) : gt (a :: l) ((i + 1 : Nat) : Int) = gt l i := by simp [gt]
theorem gt_cons0 {α : Type} [Inhabited α] (a : α) (l : List α) : gt (a :: l) ((0 : Nat) : Int) = a := by simp [gt]
theorem nodeE_mk {bn : List Int} : ∀ {ms as : List Int}, ms.length = as.length → (∀ i : Nat, i < ms.length → (0 ≤ gt ms i ∧ gt ms i < bn.length) ∧ gt bn (gt ms i) = gt as i) → nodeE bn ms as = 0
 | [], as, _, _ => rfl
 | k :: ms, [], hl, _ => by simp at hl
 | k :: ms, t :: as, hl, h => by
  have h0 := h 0 (by simp)
  rw [gt_cons0, gt_cons0] at h0
  rw [nodeE, if_pos h0.1, if_pos h0.2]
  exact nodeE_mk (by simpa using hl) fun i hi => by have := h (i + 1) (by simpa using hi); rwa [gt_cons, gt_cons] at this
theorem edgeE_mk {be : List E} {mn : List Int} : ∀ {ms : List Int} {as : List E}, ms.length = as.length → (∀ i : Nat, i < ms.length →
  (0 ≤ gt ms i ∧ gt ms i < be.length) ∧ (gt as i).t = (gt be (gt ms i)).t ∧ gt mn (gt as i).f = (gt be (gt ms i)).f ∧ gt mn (gt as i).o = (gt be (gt ms i)).o) → edgeE be mn ms as = 0
 | [], as, _, _ => by cases as <;> rfl
 | k :: ms, [], hl, _ => by simp at hl
 | k :: ms, x :: as, hl, h => by
  have h0 := h 0 (by simp)
  rw [gt_cons0, gt_cons0] at h0
  rw [edgeE, if_pos h0.1, if_pos h0.2.1, if_pos h0.2.2]
  exact edgeE_mk (by simpa using hl) fun i hi => by have := h (i + 1) (by simpa using hi); rwa [gt_cons, gt_cons] at this
theorem mok {a b : G} {m : Mo} : validM a b m = 0 ↔ MOk a b m := by
 constructor
 ·intro h
  obtain ⟨h1, h2, h3, h4, h5, h6⟩ := validM_spec h
  exact ⟨h1, h2, h3, h4, fun i hi => nodeE_all h5 h3 i (by omega), fun i hi => edgeE_all h6 h4 i (by omega)⟩
 ·intro h
  unfold validM
  rw [if_neg (by simp [h.va]), if_neg (by simp [h.vb]), if_neg (by have := h.ln; have := h.le; omega), if_neg (by
   rw [nodeE_mk h.ln fun i hi => h.nd i (by have := h.ln; omega)]; simp)]
  exact edgeE_mk h.le fun i hi => h.ed i (by have := h.le; omega)
theorem gt_inj {α : Type} [Inhabited α] {l : List α} (hn : l.Nodup) {i j : Nat} (hi : i < l.length) (hj : j < l.length) (h : gt l i = gt l j) : i = j := by
 rw [gt_nat hi, gt_nat hj] at h
 exact (List.getElem_inj hn).1 h
def idM (g : G) : Mo := ⟨nums 0 g.n.length, nums 0 g.e.length⟩
end
attribute [local irreducible] W
@[go_sem] def c_morphism_back_r0 : LL := [qn 2 1]
@[go_sem] def c_morphism_back_r1 : LL := [qm 6 0,qz 7 6,⟨some 8,.makeSl 1 8 (.int .i64 (0)) (.t 7),none⟩,qm 3 8]
@[go_sem] def c_morphism_back_r2 : LL := [qm 9 0,qz 10 9,qi 11 0]
@[go_sem] def c_morphism_back_r3 : LL := [qo .lss 12 11 10]
@[go_sem] def c_morphism_back_r4 : LL := [qm 13 11,qd 14 1 9 11,ql 15 1 14,qm 4 13,qm 5 15]
@[go_sem] def c_morphism_back_r5 : LL := [qm 16 3,qm 17 5,qm 18 4,qd 19 1 16 17,qs 1 19 18]
@[go_sem] def c_morphism_back_r6 : LL := [qk .add 20 11 1,qm 11 20]
def c_morphism_back_b7 : LC := (.seq (.reg c_morphism_back_r3 [3,9,10,11,12]) (.seq (.cond (.t 12) .skip (.exit 0)) (.seq (.block 1 (.seq (.reg c_morphism_back_r4 [3,4,5,9,10,11]) (.reg c_morphism_back_r5 [3,9,10,11]))) (.reg c_morphism_back_r6 [3,9,10,11]))))
@[go_sem] def c_morphism_back_r8 : LL := [qm 21 3,qm 2 21]
@[go_sem] def c_morphism_back (F : Fn) : LC := (.seq (.reg c_morphism_back_r0 [0]) (.seq (.reg c_morphism_back_r1 [0,3]) (.seq (.seq (.reg c_morphism_back_r2 [3,9,10,11]) (.block 0 (.loop [3,9,10,11] c_morphism_back_b7))) (.seq (.reg c_morphism_back_r8 [2]) .ret))))
def h_morphism_back : Hints := hOf [] (c_morphism_back fun _ => 0)
@[go_sem] def c_morphism_Inverse_r0 : LL := [qB 3 0,qB 4 1,qB 5 2,qa 6 [.nl 1,.nl 1],qi 7 0]
@[go_sem] def c_morphism_Inverse_r1 (F : Fn) : LL := [qL 9 2 3,qL 10 2 4,qL 11 2 5,qc 12 (F "morphism.Valid") [.t 9,.t 10,.t 11],qm 8 12]
@[go_sem] def c_morphism_Inverse_r2 : LL := [qm 13 8,qk .neq 14 13 0]
@[go_sem] def c_morphism_Inverse_r3 : LL := [qu 15 [.nl 1,.nl 1] [],qm 16 8,qs 2 6 15,qm 7 16]
@[go_sem] def c_morphism_Inverse_r4 (F : Fn) : LL := [qL 17 2 3,qL 18 2 4,qL 19 2 5,qc 20 (F "morphism.Injective") [.t 17,.t 18,.t 19],qv 21 20,qm 22 21,qg 22 false (qL 23 2 3),qg 22 false (qL 24 2 4),qg 22 false (qL 25 2 5),
 qg 22 false (qc 26 (F "morphism.Surjective") [.t 23,.t 24,.t 25]),qg 22 false (qv 27 26),qQ 28 22 27]
@[go_sem] def c_morphism_Inverse_r5 : LL := [qu 29 [.nl 1,.nl 1] [],qs 2 6 29,qi 7 10]
@[go_sem] def c_morphism_Inverse_r6 (F : Fn) : LL := [qf 30 0 5,ql 31 1 30,qc 32 (F "morphism.back") [.t 31],qf 33 1 5,ql 34 1 33,qc 35 (F "morphism.back") [.t 34],qu 36 [.nl 1,.nl 1] [(0,1,.t 32),(1,1,.t 35)],qs 2 6 36,qi 7 0]
@[go_sem] def c_morphism_Inverse (F : Fn) : LC := (.seq (.reg c_morphism_Inverse_r0 [3,4,5,6]) (.seq (.seq (.reg (c_morphism_Inverse_r1 F) [3,4,5,6,8]) (.seq (.reg c_morphism_Inverse_r2 [3,4,5,6,8,14]) (.cond (.t 14) (.seq (.reg c_morphism_Inverse_r3 [6,7]) .ret) .skip))) (.seq (.seq (.reg (c_morphism_Inverse_r4 F) [5,6,28]) (.cond (.t 28) (.seq (.reg c_morphism_Inverse_r5 [6,7]) .ret) .skip)) (.seq (.dreg [(2,none,[],true),(4,(some 8),[2],false)] (c_morphism_Inverse_r6 F) [6,7]) .ret))))
def h_morphism_Inverse : Hints := hOf [] (c_morphism_Inverse fun _ => 0)
def lastI (l : List Int) (k : Int) : Nat → Int
 | 0 => -1
 | i + 1 => if gt l i = k then i else lastI l k i
def backL (l : List Int) (n : Nat) : List Int := (List.range n).map fun k : Nat => lastI l k l.length
def invM (a b : G) (m : Mo) : Mo × Int := if validM a b m ≠ 0 then (m0, validM a b m) else if injM a b m = true ∧ surM a b m = true then (⟨backL m.n m.n.length, backL m.e m.e.length⟩, 0) else (m0, 10)
section
variable (P : Program) (F : String → Nat)
def K_morphism_back : Prop := ∀ l : List Int, l.length ≤ 1000000 → l.Nodup → (∀ x ∈ l, 0 ≤ x ∧ x < l.length) → FC P (F "morphism.back") [.lst 1 (ints l)] (.arr 1 (ints (backL l l.length))) []
def K_morphism_Inverse : Prop := ∀ (a b : G) (m : Mo), FC P (F "morphism.Inverse") [gD a, gD b, mD m] (.tup [mA (invM a b m).1, .int .i64 (invM a b m).2]) []
end
section
variable {P : Program} {F : String → Nat} {α : Type}
theorem lastI_own {l : List Int} (hn : l.Nodup) : ∀ n, n ≤ l.length → ∀ j : Nat, j < n → lastI l (gt l j) n = j
 | 0, _, _, h => by omega
 | n + 1, hl, j, hj => by
  rw [lastI]
  by_cases h : j = n
  ·subst h; rw [if_pos rfl]
  ·rw [if_neg (fun he => h (gt_inj hn (by omega) (by omega) he).symm)]
   exact lastI_own hn n (by omega) j (by omega)
theorem backL_len (l : List Int) (n : Nat) : (backL l n).length = n := by simp [backL]
theorem backL_gt {l : List Int} {n k : Nat} (h : k < n) : gt (backL l n) k = lastI l k l.length := by
 unfold backL
 rw [gt_nat (by simp; exact h)]
 simp
theorem gt_set {α : Type} [Inhabited α] {l : List α} {i j : Nat} {x : α} (hi : i < l.length) : gt (l.set i x) (j : Int) = if i = j then x else gt l j := by
 by_cases h : i = j
 ·subst h; rw [if_pos rfl, gt_nat (by simpa using hi)]; simp
 ·rw [if_neg h]
  by_cases hj : j < l.length
  ·rw [gt_nat (by simpa using hj), gt_nat hj, List.getElem_set_ne h]
  ·simp only [gt, Int.toNat_natCast, List.getD_eq_getElem?_getD]
   rw [List.getElem?_eq_none (by simp; omega), List.getElem?_eq_none (by omega)]
theorem perm_has {l : List Int} (hn : l.Nodup) (hb : ∀ x ∈ l, 0 ≤ x ∧ x < l.length) (k : Nat) (hk : k < l.length) : ∃ j : Nat, j < l.length ∧ gt l j = k :=
 mem_gt ((imgs_sur (n := l.length) hb).1 (imgs_inj.2 hn) k hk)
theorem w_morphism_back (l : List Int) (hl : l.length ≤ 1000000) (hn : l.Nodup) (hb : ∀ x ∈ l, 0 ≤ x ∧ x < l.length) : W P (c_morphism_back F) (Done [.t 2] [] (.arr 1 (ints (backL l l.length))) []) (init [.lst 1 (ints l)]) := by
 refine W_of ?_
 simp (disch := omega) only [go_sem, ↓reduceIte]
 refine W_loop (fun s : Nat × List Int => ⟨[(3, .sl 0 0 l.length), (9, .lst 1 (ints l)), (10, .int .i64 l.length), (11, .int .i64 s.1)], [(0, .arr 1 (ints s.2))], 1⟩) (fun s => s.1 ≤ l.length ∧ s.2.length = l.length ∧ ∀ j : Nat, j < s.1 → gt s.2 (gt l j) = j) (fun s => l.length - s.1) (0, List.replicate l.length 0) ?_ ?_ ?_
 ·simp (disch := omega) only [go_sem, ↓reduceIte]
  rfl
 ·simp
 ·rintro ⟨i, xs⟩ ⟨h1, h2, h3⟩
  simp only at h1 h2 h3
  simp (disch := omega) only [go_sem, ↓reduceIte, c_morphism_back_b7]
  refine bran_dec (fun c => ?_) (fun c => ?_)
  ·have hx := hb _ (gt_mem (l := l) (j := i) (by omega) (by omega))
   simp (disch := omega) only [go_sem, ↓reduceIte, h2]
   refine ⟨(i + 1, xs.set (gt l i).toNat i), by simp, ⟨by simp only; omega, by simp [h2], fun j hj => ?_⟩, by simp only; omega⟩
   simp only
   have hxj := hb _ (gt_mem (l := l) (j := j) (by omega) (by omega))
   obtain ⟨p, hp, hp2⟩ := gtI hxj
   rw [hp2, gt_set (by omega)]
   by_cases hij : j = i
   ·subst hij
    rw [if_pos (by omega)]
   ·rw [if_neg (fun e => hij (gt_inj hn (by omega) (by omega) (by omega)).symm)]
    rw [← hp2]
    exact h3 j (by omega)
  ·obtain rfl : i = l.length := by omega
   have hfin : xs = backL l l.length := by
    refine list_ext_gt (by rw [h2, backL_len]) fun k hk => ?_
    rw [h2] at hk
    obtain ⟨j, hj, hj2⟩ := perm_has hn hb k hk
    rw [backL_gt hk, ← hj2, h3 j hj, lastI_own hn _ (Nat.le_refl _) j hj]
   simp (disch := omega) only [go_sem, ↓reduceIte, h2]
   rw [hfin]
end
@[go_sem] def c_r08_number_r0 : LL := [qB 4 0,qi 8 0]
@[go_sem] def c_r08_number_r1 : LL := [qi 9 0]
@[go_sem] def c_r08_number_r2 : LL := [qi 10 0]
@[go_sem] def c_r08_number_r3 : LL := [qm 11 10,qf 12 1 4,ql 13 1 12,qz 14 13,qo .lss 15 11 14]
@[go_sem] def c_r08_number_r4 : LL := [qf 18 1 4,ql 19 1 18,qm 20 10,qd 21 3 19 20,qL 22 3 21,qm 23 1,qm 24 2,qm 25 3,qu 26 [.int .i64 (0),.int .i64 (0),.int .i64 (0)] [(0,1,.t 23),(1,1,.t 24),(2,1,.t 25)],
 ⟨some 27,.eqA 3 false (.t 22) (.t 26),none⟩]
@[go_sem] def c_r08_number_r5 : LL := [qm 28 9,qk .add 29 28 1,qm 9 29]
@[go_sem] def c_r08_number_r6 : LL := [qm 16 10,qk .add 17 16 1,qm 10 17]
def c_r08_number_b7 : LC := (.seq (.seq (.reg c_r08_number_r3 [1,2,3,4,9,10,15]) (.cond (.t 15) .skip (.exit 0))) (.seq (.block 1 (.seq (.reg c_r08_number_r4 [1,2,3,4,9,10,27]) (.cond (.t 27) (.reg c_r08_number_r5 [1,2,3,4,9,10]) .skip))) (.reg c_r08_number_r6 [1,2,3,4,9,10])))
@[go_sem] def c_r08_number_r8 : LL := [qm 30 9,qm 8 30]
@[go_sem] def c_r08_number (F : Fn) : LC := (.seq (.reg c_r08_number_r0 [1,2,3,4]) (.seq (.reg c_r08_number_r1 [1,2,3,4,9]) (.seq (.seq (.reg c_r08_number_r2 [1,2,3,4,9,10]) (.block 0 (.loop [1,2,3,4,9,10] c_r08_number_b7))) (.seq (.reg c_r08_number_r8 [8]) .ret))))
def h_r08_number : Hints := hn [] [(0,[1,2,3,4]),(1,[1,2,3,4,9]),(2,[1,2,3,4,9,10]),(3,[1,2,3,4,9,10,15]),(4,[1,2,3,4,9,10]),(5,[1,2,3,4,9,10,27]),(6,[1,2,3,4,9,10]),(7,[8])] [(3,[1,2,3,4,9,10])]
@[go_sem] def c_r08_fits_r0 : LL := [qB 3 0,qB 4 1,qb 6 false]
@[go_sem] def c_r08_fits_r1 : LL := [qm 12 2,qz 13 12,qk .sub 14 13 1,qm 7 14]
@[go_sem] def c_r08_fits_r2 : LL := [qf 15 0 3,ql 16 1 15,qm 17 7,qd 18 1 16 17,ql 19 1 18,qf 20 0 4,ql 21 1 20,qm 22 2,qm 23 7,qd 24 1 22 23,ql 25 1 24,qd 26 1 21 25,ql 27 1 26,qo .neq 28 19 27]
@[go_sem] def c_r08_fits_r3 : LL := [qb 6 false]
@[go_sem] def c_r08_fits_r4 : LL := [qi 8 0]
@[go_sem] def c_r08_fits_r5 : LL := [qm 29 8,qm 30 7,qo .lss 31 29 30]
@[go_sem] def c_r08_fits_r6 : LL := [qm 34 2,qm 35 8,qd 36 1 34 35,ql 37 1 36,qm 38 2,qm 39 7,qd 40 1 38 39,ql 41 1 40,qo .eql 42 37 41]
@[go_sem] def c_r08_fits_r7 : LL := [qb 6 false]
@[go_sem] def c_r08_fits_r8 : LL := [qm 32 8,qk .add 33 32 1,qm 8 33]
def c_r08_fits_b9 : LC := (.seq (.seq (.reg c_r08_fits_r5 [2,3,4,7,8,31]) (.cond (.t 31) .skip (.exit 0))) (.seq (.block 1 (.seq (.dreg [] c_r08_fits_r6 [2,3,4,7,8,42]) (.cond (.t 42) (.seq (.reg c_r08_fits_r7 [6]) .ret) .skip))) (.reg c_r08_fits_r8 [2,3,4,7,8])))
@[go_sem] def c_r08_fits_r10 : LL := [qi 9 0]
@[go_sem] def c_r08_fits_r11 : LL := [qm 43 9,qm 44 7,qo .leq 45 43 44]
@[go_sem] def c_r08_fits_r12 : LL := [qi 10 0]
@[go_sem] def c_r08_fits_r13 : LL := [qm 48 10,qf 49 1 3,ql 50 1 49,qz 51 50,qf 52 1 4,ql 53 1 52,qz 54 53,qo .add 55 51 54,qo .lss 56 48 55]
@[go_sem] def c_r08_fits_r14 : LL := [qi 11 0]
@[go_sem] def c_r08_fits_r15 : LL := [qm 59 10,qf 60 1 3,ql 61 1 60,qz 62 61,qo .lss 63 59 62]
@[go_sem] def c_r08_fits_r16 : LL := [qf 64 1 3,ql 65 1 64,qm 66 10,qd 67 3 65 66,qf 68 0 67,ql 69 1 68,qm 11 69]
@[go_sem] def c_r08_fits_r17 : LL := [qf 70 1 4,ql 71 1 70,qm 72 10,qf 73 1 3,ql 74 1 73,qz 75 74,qo .sub 76 72 75,qd 77 3 71 76,qf 78 0 77,ql 79 1 78,qm 11 79]
@[go_sem] def c_r08_fits_r18 (F : Fn) : LL := [qL 80 2 3,qm 81 11,qm 82 9,qm 83 7,qc 84 (F "r08.number") [.t 80,.t 81,.t 82,.t 83],qL 85 2 4,qm 86 11,qm 87 2,qm 88 9,qd 89 1 87 88,ql 90 1 89,qm 91 2,qm 92 7,qd 93 1 91 92,ql 94 1 93,
 qc 95 (F "r08.number") [.t 85,.t 86,.t 90,.t 94],qo .neq 96 84 95,qm 97 96,qg 97 false (qL 98 2 3),qg 97 false (qm 99 11),qg 97 false (qm 100 7),qg 97 false (qm 101 9),
 qg 97 false (qc 102 (F "r08.number") [.t 98,.t 99,.t 100,.t 101]),qg 97 false (qL 103 2 4),qg 97 false (qm 104 11),qg 97 false (qm 105 2),qg 97 false (qm 106 7),
 qg 97 false (qd 107 1 105 106),qg 97 false (ql 108 1 107),qg 97 false (qm 109 2),qg 97 false (qm 110 9),qg 97 false (qd 111 1 109 110),qg 97 false (ql 112 1 111),
 qg 97 false (qc 113 (F "r08.number") [.t 103,.t 104,.t 108,.t 112]),qg 97 false (qo .neq 114 102 113),qQ 115 97 114]
@[go_sem] def c_r08_fits_r19 : LL := [qb 6 false]
@[go_sem] def c_r08_fits_r20 : LL := [qm 57 10,qk .add 58 57 1,qm 10 58]
def c_r08_fits_b21 (F : Fn) : LC := (.seq (.seq (.reg c_r08_fits_r13 [2,3,4,7,9,10,56]) (.cond (.t 56) .skip (.exit 4))) (.seq (.block 5 (.seq (.reg c_r08_fits_r14 [2,3,4,7,9,10]) (.seq (.seq (.reg c_r08_fits_r15 [2,3,4,7,9,10,63]) (.cond (.t 63) (.reg c_r08_fits_r16 [2,3,4,7,9,10,11]) (.reg c_r08_fits_r17 [2,3,4,7,9,10,11]))) (.seq (.dreg [(4,none,[],true),(5,(some 0),[4],false),(9,(some 384),[4],false),(10,(some 896),[4],false),(13,(some 6144),[4],false),(14,(some 14336),[4],false),(22,none,[],true),(23,(some 262143),[22],false),(27,(some 100925439),[22],false),(28,(some 235143167),[22],false),(31,(some 1610874879),[22],false),(32,(some 3758358527),[22],false)] (c_r08_fits_r18 F) [2,3,4,7,9,10,115]) (.cond (.t 115) (.seq (.reg c_r08_fits_r19 [6]) .ret) .skip))))) (.reg c_r08_fits_r20 [2,3,4,7,9,10])))
@[go_sem] def c_r08_fits_r22 : LL := [qm 46 9,qk .add 47 46 1,qm 9 47]
def c_r08_fits_b23 (F : Fn) : LC := (.seq (.seq (.reg c_r08_fits_r11 [2,3,4,7,9,45]) (.cond (.t 45) .skip (.exit 2))) (.seq (.block 3 (.seq (.reg c_r08_fits_r12 [2,3,4,7,9,10]) (.block 4 (.loop [2,3,4,7,9,10] (c_r08_fits_b21 F))))) (.reg c_r08_fits_r22 [2,3,4,7,9])))
@[go_sem] def c_r08_fits_r24 : LL := [qb 6 true]
@[go_sem] def c_r08_fits (F : Fn) : LC := (.seq (.reg c_r08_fits_r0 [2,3,4]) (.seq (.reg c_r08_fits_r1 [2,3,4,7]) (.seq (.seq (.dreg [] c_r08_fits_r2 [2,3,4,7,28]) (.cond (.t 28) (.seq (.reg c_r08_fits_r3 [6]) .ret) .skip)) (.seq (.seq (.reg c_r08_fits_r4 [2,3,4,7,8]) (.block 0 (.loop [2,3,4,7,8] c_r08_fits_b9))) (.seq (.seq (.reg c_r08_fits_r10 [2,3,4,7,9]) (.block 2 (.loop [2,3,4,7,9] (c_r08_fits_b23 F)))) (.seq (.reg c_r08_fits_r24 [6]) .ret))))))
def h_r08_fits : Hints := hn [] [(0,[2,3,4]),(1,[2,3,4,7]),(2,[2,3,4,7,28]),(3,[6]),(4,[2,3,4,7,8]),(5,[2,3,4,7,8,31]),(6,[2,3,4,7,8]),(7,[2,3,4,7,8,42]),(8,[6]),(9,[2,3,4,7,9]),(10,[2,3,4,7,9,45]),(11,[2,3,4,7,9]),(12,[2,3,4,7,9,10]),(13,[2,3,4,7,9,10,56]),(14,[2,3,4,7,9,10]),(15,[2,3,4,7,9,10]),(16,[2,3,4,7,9,10,63]),(17,[2,3,4,7,9,10,11]),(18,[2,3,4,7,9,10,11]),(19,[2,3,4,7,9,10,115]),(20,[6]),(21,[6])] [(5,[2,3,4,7,8]),(10,[2,3,4,7,9]),(13,[2,3,4,7,9,10])]
def kndL (a b : G) (k : Nat) : Int := if k < a.e.length then (gt a.e (k : Int)).t else (gt b.e ((k - a.e.length : Nat) : Int)).t
def pairR (a b : G) (i k n m t : Int) : Bool := decide (numL a t k i = numL b t m n) && decide (numL a t i k = numL b t n m)
def fitsR (a b : G) (ns : List Int) (n : Int) : Bool := decide (gt a.n ns.length = gt b.n n) && (!decide (n ∈ ns) && (List.range (ns.length + 1)).all fun k => (List.range (a.e.length + b.e.length)).all fun t => pairR a b ns.length k n (gt (ns ++ [n]) (k : Int)) (kndL a b t))
section
variable (P : Program) (F : String → Nat)
def K_r08_number : Prop := ∀ (g : G) (t f o : Int), g.e.length ≤ 1000 → FC P (F "r08.number") [gD g, .int .i64 t, .int .i64 f, .int .i64 o] (.int .i64 (numL g t f o)) []
def K_r08_fits : Prop := ∀ (a b : G) (ns : List Int) (n : Int), InG a → InG b → ns.length < a.n.length → (∀ x ∈ ns, 0 ≤ x ∧ x < b.n.length) → 0 ≤ n → n < b.n.length → FC P (F "r08.fits") [gD a, gD b, .lst 1 (ints (ns ++ [n]))] (.bool (fitsR a b ns n)) []
end
section
variable {P : Program} {F : String → Nat} {α : Type}
theorem filt_take {α : Type} [Inhabited α] (p : α → Bool) {l : List α} {i : Nat} (h : i < l.length) : ((l.take (i + 1)).filter p).length = ((l.take i).filter p).length + (if p (gt l (i : Int)) then 1 else 0) := by
 rw [take_gt h, List.filter_append, List.length_append]
 by_cases hp : p (gt l (i : Int)) = true
 ·rw [if_pos hp]; simp [hp]
 ·rw [if_neg hp]; simp [hp]
theorem w_r08_number (g : G) (t f o : Int) (h : g.e.length ≤ 1000) : W P (c_r08_number F) (Done [.t 8] [] (.int .i64 (numL g t f o)) []) (init [gD g, .int .i64 t, .int .i64 f, .int .i64 o]) := by
 obtain ⟨ns, es⟩ := g
 refine W_of ?_
 have hR : numL ⟨ns, es⟩ t f o = (es.filter (numP t f o)).length := rfl
 generalize numL ⟨ns, es⟩ t f o = R at *
 simp only [gD] at *
 have hle : ∀ i, ((es.take i).filter (numP t f o)).length ≤ i := fun i => Nat.le_trans (List.length_filter_le _ _) (by simp; omega)
 simp (disch := omega) only [go_sem, ↓reduceIte]
 refine W_loop (fun i : Nat => ⟨[(1, .int .i64 t), (2, .int .i64 f), (3, .int .i64 o), (4, .pt 0 0), (9, .int .i64 ((es.take i).filter (numP t f o)).length), (10, .int .i64 i)], [(0, .box [.lst 1 (ints ns), .lst 3 (eds es)])], 1⟩) (fun i => i ≤ es.length) (fun i => es.length - i) 0 ?_ ?_ ?_
 ·simp (disch := omega) only [go_sem, ↓reduceIte]
  rfl
 ·omega
 ·intro i hi
  have hl := hle i
  simp (disch := omega) only [go_sem, ↓reduceIte, c_r08_number_b7]
  refine bran_dec (fun d => ?_) (fun d => ?_)
  ·have hf := filt_take (numP t f o) (l := es) (i := i) (by omega)
   obtain ⟨⟨yt, yf, yo⟩, hz⟩ : ∃ x, gt es (i : Int) = x := ⟨_, rfl⟩
   rw [hz, show numP t f o ⟨yt, yf, yo⟩ = (decide (yt = t) && (decide (yf = f) && decide (yo = o))) from rfl] at hf
   cases he : (decide (yt = t) && (decide (yf = f) && decide (yo = o))) with
   | false =>
    rw [he] at hf
    simp (disch := omega) only [go_sem, ↓reduceIte, hz, he]
    exact ⟨i + 1, by rw [hf]; simp, by omega, by omega⟩
   | true =>
    rw [he] at hf
    simp (disch := omega) only [go_sem, ↓reduceIte, hz, he]
    exact ⟨i + 1, by rw [hf]; simp, by omega, by omega⟩
  ·obtain rfl : i = es.length := by omega
   rw [List.take_length] at *
   simp (disch := omega) only [go_sem, ↓reduceIte]
   rw [hR]
theorem all_dropB {p : Nat → Bool} {n i : Nat} (h : i < n) : (List.range' i (n - i)).all p = (p i && (List.range' (i + 1) (n - (i + 1))).all p) := by
 rw [show n - i = (n - (i + 1)) + 1 by omega, List.range'_succ, List.all_cons]
theorem w_r08_fits (hn : K_r08_number P F) (a b : G) (ns : List Int) (n : Int) (va : InG a) (vb : InG b) (h1 : ns.length < a.n.length) (h2 : ∀ x ∈ ns, 0 ≤ x ∧ x < b.n.length) (h3 : 0 ≤ n) (h4 : n < b.n.length) :
  W P (c_r08_fits F) (Done [.t 6] [] (.bool (fitsR a b ns n)) []) (init [gD a, gD b, .lst 1 (ints (ns ++ [n]))]) := by
 have ra := fun t f o => hn a t f o (by have := va.2.1; omega)
 have rb := fun t f o => hn b t f o (by have := vb.2.1; omega)
 have hF : fitsR a b ns n = (decide (gt a.n ns.length = gt b.n n) && (!decide (n ∈ ns) && (List.range (ns.length + 1)).all fun k => (List.range (a.e.length + b.e.length)).all fun t => pairR a b ns.length k n (gt (ns ++ [n]) (k : Int)) (kndL a b t))) := rfl
 have hP : ∀ i k m p t, pairR a b i k m p t = (decide (numL a t k i = numL b t p m) && decide (numL a t i k = numL b t m p)) := fun _ _ _ _ _ => rfl
 have hK : ∀ k, kndL a b k = if k < a.e.length then (gt a.e (k : Int)).t else (gt b.e ((k - a.e.length : Nat) : Int)).t := fun _ => rfl
 have hgl : gt (ns ++ [n]) (ns.length : Int) = n := by rw [gt_nat (by simp)]; simp
 have hnl : ∀ t f o, numL a t f o ≤ 1000 := fun t f o => Nat.le_trans (List.length_filter_le _ _) (by have := va.2.1; omega)
 have hnb : ∀ t f o, numL b t f o ≤ 1000 := fun t f o => Nat.le_trans (List.length_filter_le _ _) (by have := vb.2.1; omega)
 have hml : (ns ++ [n]).length = ns.length + 1 := by simp
 have hmb : ∀ i : Nat, i ≤ ns.length → 0 ≤ gt (ns ++ [n]) (i : Int) ∧ gt (ns ++ [n]) (i : Int) < b.n.length := fun i hi => by
  rcases Nat.lt_or_ge i ns.length with h | h
  ·have hm := gt_mem (l := ns ++ [n]) (j := (i : Int)) (by omega) (by rw [hml]; omega)
   rcases List.mem_append.1 hm with hm | hm
   ·exact h2 _ hm
   ·simp only [List.mem_singleton] at hm
    rw [hm]; exact ⟨h3, h4⟩
  ·obtain rfl : i = ns.length := by omega
   rw [hgl]; exact ⟨h3, h4⟩
 have hin : decide (n ∈ ns) = (List.range ns.length).any fun i => decide (gt (ns ++ [n]) (i : Int) = n) := by
  rw [Bool.eq_iff_iff, decide_eq_true_eq, List.any_eq_true]
  constructor
  ·intro h
   obtain ⟨i, hi, e⟩ := List.mem_iff_getElem.1 h
   refine ⟨i, List.mem_range.2 hi, decide_eq_true ?_⟩
   rw [gt_nat (by rw [hml]; omega), List.getElem_append_left hi, e]
  ·rintro ⟨i, hi, e⟩
   have hi := List.mem_range.1 hi
   have e := of_decide_eq_true e
   rw [gt_nat (by rw [hml]; omega), List.getElem_append_left hi] at e
   rw [← e]; exact List.getElem_mem _
 rw [hin] at hF
 have va1 := va.1; have va2 := va.2.1; have vb1 := vb.1; have vb2 := vb.2.1
 generalize fitsR a b ns n = R at *
 generalize pairR a b = pr at *
 generalize kndL a b = kd at *
 generalize numL a = na at *
 generalize numL b = nb at *
 generalize ns ++ [n] = ms at *
 generalize hM : ns.length = M at *
 clear hn hin h2
 obtain ⟨an, ae⟩ := a
 obtain ⟨bn, be⟩ := b
 simp only [gD] at *
 refine W_of ?_
 have hm1 : (ms.length : Int) - 1 = M := by omega
 simp (disch := omega) only [go_sem, ↓reduceIte, hm1, hgl]
 refine bran_ndec (fun c0 => ?_) (fun c0 => ?_)
 ·rw [decide_eq_false c0, Bool.false_and] at hF
  subst hF
  simp (disch := omega) only [go_sem, ↓reduceIte]
 rw [decide_eq_true c0, Bool.true_and] at hF
 obtain ⟨T, hT⟩ : ∃ T : Bool, T = (List.range (M + 1)).all fun k => (List.range (ae.length + be.length)).all fun t => pr M k n (gt ms (k : Int)) (kd t) := ⟨_, rfl⟩
 rw [← hT] at hF
 simp (disch := omega) only [go_sem, ↓reduceIte]
 refine W_loop (fun i : Nat => ⟨[(2, .lst 1 (ints ms)), (3, .pt 0 0), (4, .pt 1 0), (7, .int .i64 M), (8, .int .i64 i)], [(0, .box [.lst 1 (ints an), .lst 3 (eds ae)]), (1, .box [.lst 1 (ints bn), .lst 3 (eds be)])], 2⟩)
  (fun i => i ≤ M ∧ R = (!((List.range' i (M - i)).any fun i => decide (gt ms (i : Int) = n)) && T)) (fun i => M - i) 0 ?_ ?_ ?_
 ·simp (disch := omega) only [go_sem, ↓reduceIte]
  rfl
 ·exact ⟨Nat.zero_le _, by rw [hF, Nat.sub_zero, List.range_eq_range' (n := M)]⟩
 ·rintro i ⟨k1, k2⟩
  simp (disch := omega) only [go_sem, ↓reduceIte, c_r08_fits_b9, hgl]
  refine bran_dec (fun d => ?_) (fun d => ?_)
  ·rw [show M - i = (M - (i + 1)) + 1 by omega, List.range'_succ, List.any_cons] at k2
   simp (disch := omega) only [go_sem, ↓reduceIte, hgl]
   refine bran_dec (fun e => ?_) (fun e => ?_)
   ·rw [decide_eq_true e, Bool.true_or] at k2
    simp only [Bool.not_true, Bool.false_and] at k2
    subst k2
    simp (disch := omega) only [go_sem, ↓reduceIte]
   ·rw [decide_eq_false e, Bool.false_or] at k2
    simp (disch := omega) only [go_sem, ↓reduceIte]
    exact ⟨i + 1, by simp, ⟨by omega, k2⟩, by omega⟩
  ·obtain rfl : i = M := by omega
   rw [Nat.sub_self] at k2
   simp only [List.range'_zero, List.any_nil, Bool.not_false, Bool.true_and] at k2
   rw [hT, List.range_eq_range' (n := i + 1)] at k2
   clear hT
   obtain ⟨A, hA⟩ : ∃ A : Nat → Bool, ∀ k, A k = (List.range (ae.length + be.length)).all fun t => pr i k n (gt ms (k : Int)) (kd t) := ⟨_, fun _ => rfl⟩
   simp only [← hA] at k2
   simp (disch := omega) only [go_sem, ↓reduceIte]
   refine W_loop (fun k : Nat => ⟨[(2, .lst 1 (ints ms)), (3, .pt 0 0), (4, .pt 1 0), (7, .int .i64 i), (9, .int .i64 k)], [(0, .box [.lst 1 (ints an), .lst 3 (eds ae)]), (1, .box [.lst 1 (ints bn), .lst 3 (eds be)])], 2⟩)
    (fun k => k ≤ i + 1 ∧ R = (List.range' k (i + 1 - k)).all A) (fun k => i + 1 - k) 0 ?_ ?_ ?_
   ·simp (disch := omega) only [go_sem, ↓reduceIte]
    rfl
   ·exact ⟨Nat.zero_le _, by rw [k2, Nat.sub_zero]⟩
   ·rintro k ⟨q1, q2⟩
    simp (disch := omega) only [go_sem, ↓reduceIte, c_r08_fits_b23]
    refine bran_dec (fun e => ?_) (fun e => ?_)
    ·rw [all_dropB (by omega)] at q2
     have hAk := hA k
     have hmk := hmb k (by omega)
     have hmi := hmb i (by omega)
     obtain ⟨B, hB⟩ : ∃ B : Bool, B = (List.range' (k + 1) (i + 1 - (k + 1))).all A := ⟨_, rfl⟩
     rw [← hB] at q2
     rw [List.range_eq_range'] at hAk
     simp (disch := omega) only [go_sem, ↓reduceIte]
     refine W_loop (fun t : Nat => ⟨[(2, .lst 1 (ints ms)), (3, .pt 0 0), (4, .pt 1 0), (7, .int .i64 i), (9, .int .i64 k), (10, .int .i64 t)], [(0, .box [.lst 1 (ints an), .lst 3 (eds ae)]), (1, .box [.lst 1 (ints bn), .lst 3 (eds be)])], 2⟩)
      (fun t => t ≤ ae.length + be.length ∧ A k = (List.range' t (ae.length + be.length - t)).all fun t => pr i k n (gt ms (k : Int)) (kd t)) (fun t => ae.length + be.length - t) 0 ?_ ?_ ?_
     ·simp (disch := omega) only [go_sem, ↓reduceIte]
      rfl
     ·exact ⟨Nat.zero_le _, by rw [hAk, Nat.sub_zero]⟩
     ·rintro t ⟨p1, p2⟩
      simp (disch := omega) only [go_sem, ↓reduceIte, c_r08_fits_b21]
      refine bran_dec (fun f => ?_) (fun f => ?_)
      ·rw [all_dropB (by omega)] at p2
       obtain ⟨C, hC⟩ : ∃ C : Bool, C = (List.range' (t + 1) (ae.length + be.length - (t + 1))).all fun t => pr i k n (gt ms (k : Int)) (kd t) := ⟨_, rfl⟩
       rw [← hC, hP] at p2
       have hKt := hK t
       simp (disch := omega) only [go_sem, ↓reduceIte]
       refine bran_dec (fun g => ?_) (fun g => ?_)
       ·rw [if_pos (by omega)] at hKt
        obtain ⟨⟨yt, yf, yo⟩, hz⟩ : ∃ x, gt ae (t : Int) = x := ⟨_, rfl⟩
        rw [hz] at hKt
        simp only at hKt
        rw [hKt] at p2
        simp (disch := omega) only [go_sem, ↓reduceIte, hz]
        refine call_by (ra yt k i) ?_
        simp (disch := omega) only [go_sem, ↓reduceIte, hgl]
        refine call_by (rb yt (gt ms (k : Int)) n) ?_
        by_cases e1 : na yt k i = nb yt (gt ms (k : Int)) n
        ·have d1 : decide ((na yt k i : Int) = nb yt (gt ms (k : Int)) n) = true := decide_eq_true (by omega)
         simp (disch := omega) only [go_sem, ↓reduceIte, hgl, d1]
         refine call_by (ra yt i k) ?_
         simp (disch := omega) only [go_sem, ↓reduceIte, hgl, d1]
         refine call_by (rb yt n (gt ms (k : Int))) ?_
         by_cases e2 : na yt i k = nb yt n (gt ms (k : Int))
         ·have d2 : decide ((na yt i k : Int) = nb yt n (gt ms (k : Int))) = true := decide_eq_true (by omega)
          simp (disch := omega) only [go_sem, ↓reduceIte, hgl, d1, d2]
          rw [decide_eq_true e1, decide_eq_true e2] at p2
          exact ⟨t + 1, by simp, ⟨by omega, by rw [p2]; exact hC⟩, by omega⟩
         ·have d2 : decide ((na yt i k : Int) = nb yt n (gt ms (k : Int))) = false := decide_eq_false (by omega)
          simp (disch := omega) only [go_sem, ↓reduceIte, hgl, d1, d2]
          rw [decide_eq_false e2, Bool.and_false, Bool.false_and] at p2
          rw [p2, Bool.false_and] at q2
          rw [q2]
        ·have d1 : decide ((na yt k i : Int) = nb yt (gt ms (k : Int)) n) = false := decide_eq_false (by omega)
         simp (disch := omega) only [go_sem, ↓reduceIte, hgl, d1]
         rw [decide_eq_false e1, Bool.false_and, Bool.false_and] at p2
         rw [p2, Bool.false_and] at q2
         rw [q2]
       ·rw [if_neg (by omega)] at hKt
        obtain ⟨⟨yt, yf, yo⟩, hz⟩ : ∃ x, gt be ((t - ae.length : Nat) : Int) = x := ⟨_, rfl⟩
        rw [hz] at hKt
        simp only at hKt
        rw [hKt] at p2
        have hz2 : gt be ((t : Int) - ae.length) = ⟨yt, yf, yo⟩ := by rw [← hz]; congr 1; omega
        simp (disch := omega) only [go_sem, ↓reduceIte, hz2]
        refine call_by (ra yt k i) ?_
        simp (disch := omega) only [go_sem, ↓reduceIte, hgl]
        refine call_by (rb yt (gt ms (k : Int)) n) ?_
        by_cases e1 : na yt k i = nb yt (gt ms (k : Int)) n
        ·have d1 : decide ((na yt k i : Int) = nb yt (gt ms (k : Int)) n) = true := decide_eq_true (by omega)
         simp (disch := omega) only [go_sem, ↓reduceIte, hgl, d1]
         refine call_by (ra yt i k) ?_
         simp (disch := omega) only [go_sem, ↓reduceIte, hgl, d1]
         refine call_by (rb yt n (gt ms (k : Int))) ?_
         by_cases e2 : na yt i k = nb yt n (gt ms (k : Int))
         ·have d2 : decide ((na yt i k : Int) = nb yt n (gt ms (k : Int))) = true := decide_eq_true (by omega)
          simp (disch := omega) only [go_sem, ↓reduceIte, hgl, d1, d2]
          rw [decide_eq_true e1, decide_eq_true e2] at p2
          exact ⟨t + 1, by simp, ⟨by omega, by rw [p2]; exact hC⟩, by omega⟩
         ·have d2 : decide ((na yt i k : Int) = nb yt n (gt ms (k : Int))) = false := decide_eq_false (by omega)
          simp (disch := omega) only [go_sem, ↓reduceIte, hgl, d1, d2]
          rw [decide_eq_false e2, Bool.and_false, Bool.false_and] at p2
          rw [p2, Bool.false_and] at q2
          rw [q2]
        ·have d1 : decide ((na yt k i : Int) = nb yt (gt ms (k : Int)) n) = false := decide_eq_false (by omega)
         simp (disch := omega) only [go_sem, ↓reduceIte, hgl, d1]
         rw [decide_eq_false e1, Bool.false_and, Bool.false_and] at p2
         rw [p2, Bool.false_and] at q2
         rw [q2]
      ·obtain rfl : t = ae.length + be.length := by omega
       rw [Nat.sub_self] at p2
       simp only [List.range'_zero, List.all_nil] at p2
       rw [p2, Bool.true_and] at q2
       simp (disch := omega) only [go_sem, ↓reduceIte]
       exact ⟨k + 1, by simp, ⟨by omega, by rw [q2, hB]⟩, by omega⟩
    ·obtain rfl : k = i + 1 := by omega
     rw [Nat.sub_self] at q2
     simp only [List.range'_zero, List.all_nil] at q2
     subst q2
     simp (disch := omega) only [go_sem, ↓reduceIte]
end
@[go_sem] def c_r08_maps_r0 : LL := [qB 5 0,qB 6 1,qn 10 1]
@[go_sem] def c_r08_maps_r1 : LL := [qm 13 2,qz 14 13,qf 15 0 5,ql 16 1 15,qz 17 16,qo .eql 18 14 17]
@[go_sem] def c_r08_maps_r2 : LL := [qm 19 4,⟨some 20,.buildSl 1 8 (.int .i64 (0)) 0 [],none⟩,qm 21 2,qp 22 1 8 20 21,⟨some 23,.buildSl 1 24 (.lst 1 []) 1 [(0,.t 22)],none⟩,qp 24 1 24 19 23,qm 10 24]
@[go_sem] def c_r08_maps_r3 : LL := [qi 11 0]
@[go_sem] def c_r08_maps_r4 : LL := [qm 25 11,qf 26 0 6,ql 27 1 26,qz 28 27,qo .lss 29 25 28,qm 30 29,qg 30 true (qm 31 4),qg 30 true (qz 32 31),qg 30 true (qm 33 3),qg 30 true (qo .lss 34 32 33),qP 35 30 34]
@[go_sem] def c_r08_maps_r5 : LL := [⟨some 38,.buildSl 1 8 (.int .i64 (0)) 0 [],none⟩,qm 39 2,qp 40 1 8 38 39,qm 41 11,⟨some 42,.buildSl 1 8 (.int .i64 (0)) 1 [(0,.t 41)],none⟩,qp 43 1 8 40 42,qm 12 43]
@[go_sem] def c_r08_maps_r6 (F : Fn) : LL := [qL 44 2 5,qL 45 2 6,qm 46 12,qc 47 (F "r08.fits") [.t 44,.t 45,.t 46]]
@[go_sem] def c_r08_maps_r7 (F : Fn) : LL := [qL 48 2 5,qL 49 2 6,qm 50 12,qm 51 3,qm 52 4,⟨some 53,.call (F "r08.maps") [.t 48,.t 49,.t 50,.t 51,.t 52] [.rd,.rd,.rd,.rd,.ow],none⟩,qm 4 53]
@[go_sem] def c_r08_maps_r8 : LL := [qm 36 11,qk .add 37 36 1,qm 11 37]
def c_r08_maps_b9 (F : Fn) : LC := (.seq (.seq (.reg c_r08_maps_r4 [2,3,4,5,6,11,35]) (.cond (.t 35) .skip (.exit 0))) (.seq (.block 1 (.seq (.reg c_r08_maps_r5 [2,3,4,5,6,11,12]) (.seq (.reg (c_r08_maps_r6 F) [2,3,4,5,6,11,12,47]) (.cond (.t 47) (.reg (c_r08_maps_r7 F) [2,3,4,5,6,11]) .skip)))) (.reg c_r08_maps_r8 [2,3,4,5,6,11])))
@[go_sem] def c_r08_maps_r10 : LL := [qm 54 4,qm 10 54]
@[go_sem] def c_r08_maps (F : Fn) : LC := (.seq (.reg c_r08_maps_r0 [2,3,4,5,6]) (.seq (.seq (.reg c_r08_maps_r1 [2,3,4,5,6,18]) (.cond (.t 18) (.seq (.reg c_r08_maps_r2 [10]) .ret) .skip)) (.seq (.seq (.reg c_r08_maps_r3 [2,3,4,5,6,11]) (.block 0 (.loop [2,3,4,5,6,11] (c_r08_maps_b9 F)))) (.seq (.reg c_r08_maps_r10 [10]) .ret))))
def h_r08_maps : Hints := hn [] [(0,[2,3,4,5,6]),(1,[2,3,4,5,6,18]),(2,[10]),(3,[2,3,4,5,6,11]),(4,[2,3,4,5,6,11,35]),(5,[2,3,4,5,6,11]),(6,[2,3,4,5,6,11,12]),(7,[2,3,4,5,6,11,12,47]),(8,[2,3,4,5,6,11]),(9,[10])] [(4,[2,3,4,5,6,11])]
@[go_sem] def c_r08_edges_r0 : LL := [qB 6 0,qB 7 1,qn 12 1]
@[go_sem] def c_r08_edges_r1 : LL := [qm 18 3,qz 19 18,qf 20 1 6,ql 21 1 20,qz 22 21,qo .eql 23 19 22]
@[go_sem] def c_r08_edges_r2 : LL := [qm 24 5,⟨some 25,.buildSl 1 8 (.int .i64 (0)) 0 [],none⟩,qm 26 3,qp 27 1 8 25 26,⟨some 28,.buildSl 1 24 (.lst 1 []) 1 [(0,.t 27)],none⟩,qp 29 1 24 24 28,qm 12 29]
@[go_sem] def c_r08_edges_r3 : LL := [qf 30 1 6,ql 31 1 30,qm 32 3,qz 33 32,qd 34 3 31 33,qL 35 3 34,qa 13 [.int .i64 (0),.int .i64 (0),.int .i64 (0)],qs 3 13 35]
@[go_sem] def c_r08_edges_r4 : LL := [qf 36 0 13,ql 37 1 36,qm 38 2,qf 39 1 13,ql 40 1 39,qd 41 1 38 40,ql 42 1 41,qm 43 2,qf 44 2 13,ql 45 1 44,qd 46 1 43 45,ql 47 1 46,
 qu 48 [.int .i64 (0),.int .i64 (0),.int .i64 (0)] [(0,1,.t 37),(1,1,.t 42),(2,1,.t 47)],qa 14 [.int .i64 (0),.int .i64 (0),.int .i64 (0)],qs 3 14 48]
@[go_sem] def c_r08_edges_r5 : LL := [qi 15 0]
@[go_sem] def c_r08_edges_r6 : LL := [qm 49 15,qf 50 1 7,ql 51 1 50,qz 52 51,qo .lss 53 49 52,qm 54 53,qg 54 true (qm 55 5),qg 54 true (qz 56 55),qg 54 true (qm 57 4),qg 54 true (qo .lss 58 56 57),qP 59 54 58]
@[go_sem] def c_r08_edges_r7 : LL := [qb 16 false]
@[go_sem] def c_r08_edges_r8 : LL := [qi 17 0]
@[go_sem] def c_r08_edges_r9 : LL := [qm 62 17,qm 63 3,qz 64 63,qo .lss 65 62 64]
@[go_sem] def c_r08_edges_r10 : LL := [qm 68 16,qm 69 68,qg 69 false (qm 70 3),qg 69 false (qm 71 17),qg 69 false (qd 72 1 70 71),qg 69 false (ql 73 1 72),qg 69 false (qm 74 15),qg 69 false (qo .eql 75 73 74),
 qQ 76 69 75,qm 16 76]
@[go_sem] def c_r08_edges_r11 : LL := [qm 66 17,qk .add 67 66 1,qm 17 67]
def c_r08_edges_b12 : LC := (.seq (.seq (.reg c_r08_edges_r9 [2,3,4,5,6,7,14,15,16,17,65]) (.cond (.t 65) .skip (.exit 2))) (.seq (.block 3 (.reg c_r08_edges_r10 [2,3,4,5,6,7,14,15,16,17])) (.reg c_r08_edges_r11 [2,3,4,5,6,7,14,15,16,17])))
@[go_sem] def c_r08_edges_r13 : LL := [qm 77 16,qv 78 77,qm 79 78,qg 79 true (qf 80 1 7),qg 79 true (ql 81 1 80),qg 79 true (qm 82 15),qg 79 true (qd 83 3 81 82),qg 79 true (qL 84 3 83),qg 79 true (qL 85 3 14),
 ⟨some 86,.eqA 3 false (.t 84) (.t 85),some (79,true)⟩,qP 87 79 86]
@[go_sem] def c_r08_edges_r14 (F : Fn) : LL := [qL 88 2 6,qL 89 2 7,qm 90 2,⟨some 91,.buildSl 1 8 (.int .i64 (0)) 0 [],none⟩,qm 92 3,qp 93 1 8 91 92,qm 94 15,⟨some 95,.buildSl 1 8 (.int .i64 (0)) 1 [(0,.t 94)],none⟩,
 qp 96 1 8 93 95,qm 97 4,qm 98 5,⟨some 99,.call (F "r08.edges") [.t 88,.t 89,.t 90,.t 96,.t 97,.t 98] [.rd,.rd,.rd,.rd,.rd,.ow],none⟩,qm 5 99]
@[go_sem] def c_r08_edges_r15 : LL := [qm 60 15,qk .add 61 60 1,qm 15 61]
def c_r08_edges_b16 (F : Fn) : LC := (.seq (.seq (.reg c_r08_edges_r6 [2,3,4,5,6,7,14,15,59]) (.cond (.t 59) .skip (.exit 0))) (.seq (.block 1 (.seq (.reg c_r08_edges_r7 [2,3,4,5,6,7,14,15,16]) (.seq (.seq (.reg c_r08_edges_r8 [2,3,4,5,6,7,14,15,16,17]) (.block 2 (.loop [2,3,4,5,6,7,14,15,16,17] c_r08_edges_b12))) (.seq (.dreg [] c_r08_edges_r13 [2,3,4,5,6,7,14,15,87]) (.cond (.t 87) (.dreg [(0,none,[],true),(1,none,[],true),(5,none,[0,1],true),(7,(some 64),[0,1,5],false),(8,none,[0,1],false)] (c_r08_edges_r14 F) [2,3,4,5,6,7,14,15]) .skip))))) (.reg c_r08_edges_r15 [2,3,4,5,6,7,14,15])))
@[go_sem] def c_r08_edges_r17 : LL := [qm 100 5,qm 12 100]
@[go_sem] def c_r08_edges (F : Fn) : LC := (.seq (.reg c_r08_edges_r0 [2,3,4,5,6,7]) (.seq (.seq (.reg c_r08_edges_r1 [2,3,4,5,6,7,23]) (.cond (.t 23) (.seq (.reg c_r08_edges_r2 [12]) .ret) .skip)) (.seq (.reg c_r08_edges_r3 [2,3,4,5,6,7,13]) (.seq (.dreg [] c_r08_edges_r4 [2,3,4,5,6,7,14]) (.seq (.seq (.reg c_r08_edges_r5 [2,3,4,5,6,7,14,15]) (.block 0 (.loop [2,3,4,5,6,7,14,15] (c_r08_edges_b16 F)))) (.seq (.reg c_r08_edges_r17 [12]) .ret))))))
def h_r08_edges : Hints := hn [] [(0,[2,3,4,5,6,7]),(1,[2,3,4,5,6,7,23]),(2,[12]),(3,[2,3,4,5,6,7,13]),(4,[2,3,4,5,6,7,14]),(5,[2,3,4,5,6,7,14,15]),(6,[2,3,4,5,6,7,14,15,59]),(7,[2,3,4,5,6,7,14,15]),(8,[2,3,4,5,6,7,14,15,16]),(9,[2,3,4,5,6,7,14,15,16,17]),(10,[2,3,4,5,6,7,14,15,16,17,65]),(11,[2,3,4,5,6,7,14,15,16,17]),(12,[2,3,4,5,6,7,14,15,16,17]),(13,[2,3,4,5,6,7,14,15,87]),(14,[2,3,4,5,6,7,14,15]),(15,[12])] [(6,[2,3,4,5,6,7,14,15]),(10,[2,3,4,5,6,7,14,15,16,17])]
def mapR (a b : G) (most : Int) : Nat → List Int → List (List Int) → List (List Int)
 | 0, ns, out => out ++ [ns]
 | k + 1, ns, out => (List.range b.n.length).foldl (fun o (i : Nat) => if (o.length : Int) < most then (if fitsR a b ns i then mapR a b most k (ns ++ [(i : Int)]) o else o) else o) out
def edgR (a b : G) (ns : List Int) (most : Int) : Nat → List Int → List (List Int) → List (List Int)
 | 0, es, out => out ++ [es]
 | k + 1, es, out => (List.range b.e.length).foldl (fun o (i : Nat) => if (o.length : Int) < most then (if wnt a b ns es i then edgR a b ns most k (es ++ [(i : Int)]) o else o) else o) out
section
variable (P : Program) (F : String → Nat)
def KA_r08_maps (n : Nat) : Prop := ∀ (a b : G) (ns : List Int) (most : Int) (out : List (List Int)), InG a → InG b → ns.length + n = a.n.length → (∀ x ∈ ns, 0 ≤ x ∧ x < b.n.length) → out.length < most → most ≤ 3000 →
 FC P (F "r08.maps") [gD a, gD b, .lst 1 (ints ns), .int .i64 most, .arr 1 (iis out)] (.arr 1 (iis (mapR a b most n ns out))) []
def K_r08_maps : Prop := ∀ n, KA_r08_maps P F n
def KA_r08_edges (n : Nat) : Prop := ∀ (a b : G) (ns es : List Int) (most : Int) (out : List (List Int)), InG a → InG b → ns.length = a.n.length → es.length + n = a.e.length → out.length < most → most ≤ 3000 →
 FC P (F "r08.edges") [gD a, gD b, .lst 1 (ints ns), .lst 1 (ints es), .int .i64 most, .arr 1 (iis out)] (.arr 1 (iis (edgR a b ns most n es out))) []
def K_r08_edges : Prop := ∀ n, KA_r08_edges P F n
end
section
variable {α : Type}
theorem mapR_len (a b : G) (most : Int) : ∀ (k : Nat) (ns : List Int) (out : List (List Int)), (out.length : Int) < most → ((mapR a b most k ns out).length : Int) ≤ most
 | 0, ns, out, h => by simp only [mapR, List.length_append, List.length_cons, List.length_nil]; omega
 | k + 1, ns, out, h => by
  simp only [mapR]
  refine foldl_lenI (fun o n ho => ?_) _ _ (by omega)
  split
  ·split
   ·exact mapR_len a b most k _ _ (by assumption)
   ·exact ho
  ·exact ho
theorem edgR_len (a b : G) (ns : List Int) (most : Int) : ∀ (k : Nat) (es : List Int) (out : List (List Int)), (out.length : Int) < most → ((edgR a b ns most k es out).length : Int) ≤ most
 | 0, ns, out, h => by simp only [edgR, List.length_append, List.length_cons, List.length_nil]; omega
 | k + 1, ns, out, h => by
  simp only [edgR]
  refine foldl_lenI (fun o n ho => ?_) _ _ (by omega)
  split
  ·split
   ·exact edgR_len a b _ most k _ _ (by assumption)
   ·exact ho
  ·exact ho
theorem foldl_full {β γ : Type} {f : List β → γ → List β} {m : Int} (hf : ∀ o x, ¬ (o.length : Int) < m → f o x = o) : ∀ (l : List γ) (o : List β), ¬ (o.length : Int) < m → l.foldl f o = o
 | [], o, h => rfl
 | x :: l, o, h => by rw [List.foldl_cons, hf o x h]; exact foldl_full hf l o h
theorem foldl_split {β : Type} (f : β → Nat → β) (o : β) {N i : Nat} (h : i ≤ N) : (List.range N).foldl f o = (List.range' i (N - i)).foldl f (((List.range N).take i).foldl f o) := by
 rw [← List.foldl_append]
 congr 1
 have := List.range'_append_1 (s := 0) (m := i) (n := N - i)
 rw [Nat.zero_add, show i + (N - i) = N by omega] at this
 rw [List.take_range, show min i N = i by omega, List.range_eq_range', List.range_eq_range', this]
end
section
variable {P : Program} {F : String → Nat} {α : Type}
theorem w_r08_maps (hf : K_r08_fits P F) (n : Nat) (ih : ∀ m, m < n → KA_r08_maps P F m) (a b : G) (ns : List Int) (most : Int) (out : List (List Int)) (va : InG a) (vb : InG b) (h1 : ns.length + n = a.n.length) (h2 : ∀ x ∈ ns, 0 ≤ x ∧ x < b.n.length) (h3 : out.length < most) (h4 : most ≤ 3000) :
  W P (c_r08_maps F) (Done [.t 10] [] (.arr 1 (iis (mapR a b most n ns out))) []) (init [gD a, gD b, .lst 1 (ints ns), .int .i64 most, .arr 1 (iis out)]) := by
 refine W_of ?_
 have va1 := va.1; have vb1 := vb.1
 cases n with
 | zero =>
  have hE : mapR a b most 0 ns out = out ++ [ns] := rfl
  generalize mapR a b most 0 ns out = q at *
  subst hE
  obtain ⟨an, ae⟩ := a
  obtain ⟨bn, be⟩ := b
  simp only [gD] at *
  simp (disch := omega) only [go_sem, ↓reduceIte]
  refine bran_dec (fun c => ?_) (fun c => ?_)
  ·simp (disch := omega) only [go_sem, ↓reduceIte]
  ·omega
 | succ n =>
  have hE : mapR a b most (n + 1) ns out = (List.range b.n.length).foldl (fun o (i : Nat) => if (o.length : Int) < most then (if fitsR a b ns i then mapR a b most n (ns ++ [(i : Int)]) o else o) else o) out := rfl
  obtain ⟨acc, hacc⟩ : ∃ acc : Nat → List (List Int), ∀ i, acc i = ((List.range b.n.length).take i).foldl (fun o (i : Nat) => if (o.length : Int) < most then (if fitsR a b ns i then mapR a b most n (ns ++ [(i : Int)]) o else o) else o) out := ⟨_, fun _ => rfl⟩
  have hacc0 : acc 0 = out := by rw [hacc]; rfl
  have hful : ∀ i, i ≤ b.n.length → ¬ ((acc i).length : Int) < most → mapR a b most (n + 1) ns out = acc i := fun i hi h => by
   rw [hE, foldl_split _ _ hi, ← hacc, foldl_full (fun o x h => if_neg h) _ _ h]
  have haccn : mapR a b most (n + 1) ns out = acc b.n.length := by
   rw [hE, hacc, List.take_of_length_le (by simp)]
  have haccs : ∀ i, i < b.n.length → ((acc i).length : Int) < most → acc (i + 1) = if fitsR a b ns i then mapR a b most n (ns ++ [(i : Int)]) (acc i) else acc i := fun i hi h => by
   rw [hacc, foldl_takeR _ _ _ _ hi, ← hacc, if_pos h]
  have hlen : ∀ i, ((acc i).length : Int) ≤ most := fun i => by
   rw [hacc]
   refine foldl_lenI (fun o k ho => ?_) _ _ (by omega)
   split
   ·split
    ·exact mapR_len a b most n _ o (by assumption)
    ·exact ho
   ·exact ho
  have hrec : ∀ i : Nat, i < b.n.length → ((acc i).length : Int) < most → fitsR a b ns i = true → FC P (F "r08.maps") [gD a, gD b, .lst 1 (ints (ns ++ [(i : Int)])), .int .i64 most, .arr 1 (iis (acc i))] (.arr 1 (iis (acc (i + 1)))) [] := fun i hi hl hw => by
   rw [haccs i hi hl, if_pos hw]
   refine ih n (by omega) a b (ns ++ [(i : Int)]) most (acc i) va vb (by simp; omega) (fun x hx => ?_) hl h4
   rcases List.mem_append.1 hx with hx | hx
   ·exact h2 x hx
   ·simp only [List.mem_singleton] at hx; omega
  have hnw : ∀ i : Nat, i < b.n.length → ((acc i).length : Int) < most → fitsR a b ns i = false → acc (i + 1) = acc i := fun i hi hl hw => by
   rw [haccs i hi hl, if_neg (by simp [hw])]
  have rf := fun (i : Nat) (hi : i < b.n.length) => hf a b ns i va vb (by omega) h2 (by omega) (by omega)
  generalize mapR a b most (n + 1) ns out = q at *
  generalize fitsR a b ns = wn at *
  clear haccs hacc ih hE
  obtain ⟨an, ae⟩ := a
  obtain ⟨bn, be⟩ := b
  simp only [gD] at *
  simp (disch := omega) only [go_sem, ↓reduceIte]
  refine bran_dec (fun k0 => ?_) (fun k0 => ?_)
  ·omega
  ·simp (disch := omega) only [go_sem, ↓reduceIte]
   refine W_loop (fun i : Nat => ⟨[(2, .lst 1 (ints ns)), (3, .int .i64 most), (4, .sl 0 0 (acc i).length), (5, .pt 1 0), (6, .pt 2 0), (11, .int .i64 i)], [(0, .arr 1 (iis (acc i))), (1, .box [.lst 1 (ints an), .lst 3 (eds ae)]), (2, .box [.lst 1 (ints bn), .lst 3 (eds be)])], 3⟩) (fun i => i ≤ bn.length) (fun i => bn.length - i) 0 ?_ ?_ ?_
   ·simp (disch := omega) only [go_sem, ↓reduceIte, hacc0]
    rfl
   ·omega
   ·intro i hi
    have hli := hlen i
    have hli2 := hlen (i + 1)
    have hfi := hful i hi
    by_cases c1 : i < bn.length
    ·have d1 : decide ((i : Int) < bn.length) = true := decide_eq_true (by omega)
     have rfi := rf i c1
     have hr := hrec i c1
     have hno := hnw i c1
     by_cases c2 : ((acc i).length : Int) < most
     ·have d2 := decide_eq_true c2
      replace hr := hr c2
      replace hno := hno c2
      generalize wn i = u at *
      simp (disch := omega) only [go_sem, ↓reduceIte, c_r08_maps_b9, d1, d2]
      refine call_by rfi ?_
      cases u with
      | false =>
       replace hno := hno rfl
       simp (disch := omega) only [go_sem, ↓reduceIte, d1, d2]
       exact ⟨i + 1, by simp [hno], by omega, by omega⟩
      | true =>
       replace hr := hr rfl
       simp (disch := omega) only [go_sem, ↓reduceIte, d1, d2]
       refine call_by hr ?_
       cases hfl : (iis (acc (i + 1))).all D.flatE
       all_goals
        simp (disch := omega) only [go_sem, ↓reduceIte, hfl]
        exact ⟨i + 1, by simp, by omega, by omega⟩
     ·have d2 := decide_eq_false c2
      replace hfi := hfi c2
      subst hfi
      simp (disch := omega) only [go_sem, ↓reduceIte, c_r08_maps_b9, d1, d2]
    ·have d1 : decide ((i : Int) < bn.length) = false := decide_eq_false (by omega)
     obtain rfl : i = bn.length := by omega
     subst haccn
     simp (disch := omega) only [go_sem, ↓reduceIte, c_r08_maps_b9, d1]
theorem w_r08_edges (n : Nat) (ih : ∀ m, m < n → KA_r08_edges P F m) (a b : G) (ns es : List Int) (most : Int) (out : List (List Int)) (va : InG a) (vb : InG b) (h1 : ns.length = a.n.length) (h2 : es.length + n = a.e.length) (h3 : out.length < most) (h4 : most ≤ 3000) :
  W P (c_r08_edges F) (Done [.t 12] [] (.arr 1 (iis (edgR a b ns most n es out))) []) (init [gD a, gD b, .lst 1 (ints ns), .lst 1 (ints es), .int .i64 most, .arr 1 (iis out)]) := by
 refine W_of ?_
 obtain ⟨a1, a2, a4⟩ := va
 obtain ⟨b1, b2, b4⟩ := vb
 cases n with
 | zero =>
  have hE : edgR a b ns most 0 es out = out ++ [es] := rfl
  generalize edgR a b ns most 0 es out = q at *
  subst hE
  obtain ⟨an, ae⟩ := a
  obtain ⟨bn, be⟩ := b
  simp only [gD] at *
  simp (disch := omega) only [go_sem, ↓reduceIte]
  refine bran_dec (fun c => ?_) (fun c => ?_)
  ·simp (disch := omega) only [go_sem, ↓reduceIte]
  ·omega
 | succ n =>
  have hE : edgR a b ns most (n + 1) es out = (List.range b.e.length).foldl (fun o (i : Nat) => if (o.length : Int) < most then (if wnt a b ns es i then edgR a b ns most n (es ++ [(i : Int)]) o else o) else o) out := rfl
  obtain ⟨acc, hacc⟩ : ∃ acc : Nat → List (List Int), ∀ i, acc i = ((List.range b.e.length).take i).foldl (fun o (i : Nat) => if (o.length : Int) < most then (if wnt a b ns es i then edgR a b ns most n (es ++ [(i : Int)]) o else o) else o) out := ⟨_, fun _ => rfl⟩
  have hacc0 : acc 0 = out := by rw [hacc]; rfl
  have hful : ∀ i, i ≤ b.e.length → ¬ ((acc i).length : Int) < most → edgR a b ns most (n + 1) es out = acc i := fun i hi h => by
   rw [hE, foldl_split _ _ hi, ← hacc, foldl_full (fun o x h => if_neg h) _ _ h]
  have haccn : edgR a b ns most (n + 1) es out = acc b.e.length := by
   rw [hE, hacc, List.take_of_length_le (by simp)]
  have haccs : ∀ i, i < b.e.length → ((acc i).length : Int) < most → acc (i + 1) = if wnt a b ns es i then edgR a b ns most n (es ++ [(i : Int)]) (acc i) else acc i := fun i hi h => by
   rw [hacc, foldl_takeR _ _ _ _ hi, ← hacc, if_pos h]
  have hlen : ∀ i, ((acc i).length : Int) ≤ most := fun i => by
   rw [hacc]
   refine foldl_lenI (fun o k ho => ?_) _ _ (by omega)
   split
   ·split
    ·exact edgR_len a b ns most n _ o (by assumption)
    ·exact ho
   ·exact ho
  have hrec : ∀ i : Nat, i < b.e.length → ((acc i).length : Int) < most → wnt a b ns es i = true → FC P (F "r08.edges") [gD a, gD b, .lst 1 (ints ns), .lst 1 (ints (es ++ [(i : Int)])), .int .i64 most, .arr 1 (iis (acc i))] (.arr 1 (iis (acc (i + 1)))) [] := fun i hi hl hw => by
   rw [haccs i hi hl, if_pos hw]
   exact ih n (by omega) a b ns (es ++ [(i : Int)]) most (acc i) ⟨a1, a2, a4⟩ ⟨b1, b2, b4⟩ h1 (by simp; omega) hl h4
  have hnw : ∀ i : Nat, i < b.e.length → ((acc i).length : Int) < most → wnt a b ns es i = false → acc (i + 1) = acc i := fun i hi hl hw => by
   rw [haccs i hi hl, if_neg (by simp [hw])]
  have hw : ∀ i : Nat, wnt a b ns es i = ((decide ((gt b.e (i : Int)).t = (gt a.e es.length).t) && (decide ((gt b.e (i : Int)).f = gt ns (gt a.e es.length).f) && decide ((gt b.e (i : Int)).o = gt ns (gt a.e es.length).o))) && !(es.any fun x => decide (x = (i : Int)))) := fun i => by
   have : decide ((i : Int) ∈ es) = es.any fun x => decide (x = (i : Int)) := by
    rw [Bool.eq_iff_iff, decide_eq_true_eq, List.any_eq_true]
    exact ⟨fun h => ⟨_, h, decide_eq_true rfl⟩, fun ⟨x, h, e⟩ => of_decide_eq_true e ▸ h⟩
   rw [← this]; rfl
  have hx := a4 _ (gt_mem (l := a.e) (j := es.length) (by omega) (by omega))
  generalize edgR a b ns most (n + 1) es out = q at *
  generalize wnt a b ns es = wn at *
  clear haccs hacc ih hE
  obtain ⟨an, ae⟩ := a
  obtain ⟨bn, be⟩ := b
  simp only [gD] at *
  obtain ⟨⟨xt, xf, xo⟩, hy⟩ : ∃ x, gt ae (es.length : Int) = x := ⟨_, rfl⟩
  rw [hy] at hx
  simp only [hy] at hw
  simp only at hx
  simp (disch := omega) only [go_sem, ↓reduceIte, hy]
  refine bran_dec (fun k0 => ?_) (fun k0 => ?_)
  ·omega
  ·simp (disch := omega) only [go_sem, ↓reduceIte, hy]
   refine W_loop (fun i : Nat => ⟨[(2, .lst 1 (ints ns)), (3, .lst 1 (ints es)), (4, .int .i64 most), (5, .sl 0 0 (acc i).length), (6, .pt 1 0), (7, .pt 2 0), (14, .pt 3 0), (15, .int .i64 i)], [(0, .arr 1 (iis (acc i))), (1, .box [.lst 1 (ints an), .lst 3 (eds ae)]), (2, .box [.lst 1 (ints bn), .lst 3 (eds be)]), (3, .box [.int .i64 xt, .int .i64 (gt ns xf), .int .i64 (gt ns xo)])], 4⟩) (fun i => i ≤ be.length) (fun i => be.length - i) 0 ?_ ?_ ?_
   ·simp (disch := omega) only [go_sem, ↓reduceIte, hacc0]
    rfl
   ·omega
   ·intro i hi
    have hli := hlen i
    have hli2 := hlen (i + 1)
    have hfi := hful i hi
    by_cases c1 : i < be.length
    ·have d1 : decide ((i : Int) < be.length) = true := decide_eq_true (by omega)
     have hr := hrec i c1
     have hno := hnw i c1
     by_cases c2 : ((acc i).length : Int) < most
     ·have d2 := decide_eq_true c2
      replace hr := hr c2
      replace hno := hno c2
      have hwi := hw i
      simp (disch := omega) only [go_sem, ↓reduceIte, c_r08_edges_b16, d1, d2]
      refine W_loop (fun s : Nat × Bool => ⟨[(2, .lst 1 (ints ns)), (3, .lst 1 (ints es)), (4, .int .i64 most), (5, .sl 0 0 (acc i).length), (6, .pt 1 0), (7, .pt 2 0), (14, .pt 3 0), (15, .int .i64 i), (16, .bool s.2), (17, .int .i64 s.1)], [(0, .arr 1 (iis (acc i))), (1, .box [.lst 1 (ints an), .lst 3 (eds ae)]), (2, .box [.lst 1 (ints bn), .lst 3 (eds be)]), (3, .box [.int .i64 xt, .int .i64 (gt ns xf), .int .i64 (gt ns xo)])], 4⟩) (fun s => s.1 ≤ es.length ∧ s.2 = (es.take s.1).any fun x => decide (x = (i : Int))) (fun s => es.length - s.1) (0, false) ?_ ?_ ?_
      ·simp (disch := omega) only [go_sem, ↓reduceIte]
       rfl
      ·exact ⟨Nat.zero_le _, by simp⟩
      ·rintro ⟨j, u⟩ ⟨p1, p2⟩
       simp only at p1 p2
       simp (disch := omega) only [go_sem, ↓reduceIte, c_r08_edges_b12]
       refine bran_dec (fun f => ?_) (fun f => ?_)
       ·have p3 : (es.take (j + 1)).any (fun x => decide (x = (i : Int))) = (u || decide (gt es (j : Int) = (i : Int))) := by
         rw [take_gt (by omega), List.any_append, ← p2]; simp
        cases u
        ·rw [Bool.false_or] at p3
         cases he : decide (gt es (j : Int) = (i : Int)) <;> rw [he] at p3 <;> simp (disch := omega) only [go_sem, ↓reduceIte, he]
         ·exact ⟨(j + 1, false), by simp, ⟨by simp only; omega, p3.symm⟩, by simp only; omega⟩
         ·exact ⟨(j + 1, true), by simp, ⟨by simp only; omega, p3.symm⟩, by simp only; omega⟩
        ·rw [Bool.true_or] at p3
         simp (disch := omega) only [go_sem, ↓reduceIte]
         exact ⟨(j + 1, true), by simp, ⟨by simp only; omega, p3.symm⟩, by simp only; omega⟩
       ·obtain rfl : j = es.length := by omega
        rw [List.take_length] at p2
        rw [← p2] at hwi
        obtain ⟨⟨yt, yf, yo⟩, hz⟩ : ∃ x, gt be (i : Int) = x := ⟨_, rfl⟩
        rw [hz] at hwi
        simp only at hwi
        cases u with
        | true =>
         rw [Bool.not_true, Bool.and_false] at hwi
         replace hno := hno hwi
         simp (disch := omega) only [go_sem, ↓reduceIte, hz]
         exact ⟨i + 1, by simp [hno], by omega, by omega⟩
        | false =>
         rw [Bool.not_false, Bool.and_true] at hwi
         cases he : (decide (yt = xt) && (decide (yf = gt ns xf) && decide (yo = gt ns xo))) with
         | false =>
          rw [he] at hwi
          replace hno := hno hwi
          simp (disch := omega) only [go_sem, ↓reduceIte, hz, he]
          exact ⟨i + 1, by simp [hno], by omega, by omega⟩
         | true =>
          rw [he] at hwi
          replace hr := hr hwi
          simp (disch := omega) only [go_sem, ↓reduceIte, hz, he]
          refine call_by hr ?_
          cases hfl : (iis (acc (i + 1))).all D.flatE
          all_goals
           simp (disch := omega) only [go_sem, ↓reduceIte, hfl]
           exact ⟨i + 1, by simp, by omega, by omega⟩
     ·have d2 := decide_eq_false c2
      replace hfi := hfi c2
      subst hfi
      simp (disch := omega) only [go_sem, ↓reduceIte, c_r08_edges_b16, d1, d2]
    ·have d1 : decide ((i : Int) < be.length) = false := decide_eq_false (by omega)
     obtain rfl : i = be.length := by omega
     subst haccn
     simp (disch := omega) only [go_sem, ↓reduceIte, c_r08_edges_b16, d1]
end
end Go.Am
