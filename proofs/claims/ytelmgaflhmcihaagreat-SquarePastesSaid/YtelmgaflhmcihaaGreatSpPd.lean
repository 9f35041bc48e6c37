/- Lists of bools as data; ascending lists; parts of graphs, plain. -/
import Derived.Test.YtelmgaflhmcihaaGreatSpPa
import Derived.Test.YtelmgaflhmcihaaGreatSpPb
import Derived.Test.YtelmgaflhmcihaaGreatSpPc
namespace Go.Am
open Go
set_option linter.unusedVariables false
set_option linter.unusedSimpArgs false
def bls (l : List Bool) : List D := l.map .bool
theorem bls_length (l : List Bool) : (bls l).length = l.length := by simp [bls]
theorem bls_at {l : List Bool} {j : Int} (h0 : 0 ≤ j) (h : j < l.length) : (bls l)[j.toNat]? = some (.bool (gt l j)) := by
 unfold bls
 rw [List.getElem?_map, get_gt h0 h]; rfl
theorem bls_atn {l : List Bool} {i : Nat} (h : i < l.length) : (bls l)[i]? = some (.bool (gt l i)) := by
 have := bls_at (l := l) (j := i) (by omega) (by omega)
 simpa using this
theorem bls_set {l : List Bool} {i : Nat} {b : Bool} : (bls l).set i (.bool b) = bls (l.set i b) := by simp [bls, List.map_set]
theorem bls_rep {n : Nat} {b : Bool} : List.replicate n (.bool b) = bls (List.replicate n b) := by simp [bls]
theorem bls_app (l m : List Bool) : bls l ++ bls m = bls (l ++ m) := by simp [bls]
theorem flat_bls (l : List Bool) : (bls l).all D.flatE = true := by simp [bls, D.flatE, D.flat0]
attribute [go_sem] bls_length bls_at bls_set bls_rep bls_app flat_bls
attribute [go_sem low] bls_atn
structure AscL (l : List Int) (n : Nat) : Prop where
 p : l.Pairwise (· < ·)
 b : ∀ x ∈ l, 0 ≤ x ∧ x < n
def dangP (g : G) (p : Mo) : Bool := p.e.any fun x => !(decide ((gt g.e x).f ∈ p.n) && decide ((gt g.e x).o ∈ p.n))
def rightP (g : G) (p : Mo) : Int := if ascG g.n.length none p.n ≠ 0 then ascG g.n.length none p.n else if ascG g.e.length none p.e ≠ 0 then ascG g.e.length none p.e else if dangP g p = true then 14 else 0
def validP (g : G) (p : Mo) : Int := if validG g ≠ 0 then validG g else rightP g p
structure PK (g : G) (p : Mo) : Prop where
 v : validG g = 0
 n : AscL p.n g.n.length
 e : AscL p.e g.e.length
 d : ∀ x ∈ p.e, (gt g.e x).f ∈ p.n ∧ (gt g.e x).o ∈ p.n
def endsL (g : G) (es : List Int) : List Int := es.flatMap fun x => [(gt g.e x).f, (gt g.e x).o]
section
theorem sel_mem {p : Nat → Bool} {n : Nat} {x : Int} : x ∈ sel p n ↔ ∃ k : Nat, k < n ∧ p k = true ∧ x = k := by
 unfold sel
 simp only [List.mem_map, List.mem_filter, List.mem_range]
 exact ⟨fun ⟨k, ⟨h1, h2⟩, h3⟩ => ⟨k, h1, h2, h3.symm⟩, fun ⟨k, h1, h2, h3⟩ => ⟨k, ⟨h1, h2⟩, h3.symm⟩⟩
theorem sel_memN {p : Nat → Bool} {n k : Nat} : (k : Int) ∈ sel p n ↔ k < n ∧ p k = true := by
 rw [sel_mem]
 constructor
 ·rintro ⟨j, h1, h2, h3⟩
  obtain rfl : k = j := by omega
  exact ⟨h1, h2⟩
 ·rintro ⟨h1, h2⟩
  exact ⟨k, h1, h2, rfl⟩
theorem sel_pair (p : Nat → Bool) (n : Nat) : (sel p n).Pairwise (· < ·) := by
 unfold sel
 rw [List.pairwise_map]
 exact (List.pairwise_lt_range.sublist List.filter_sublist).imp fun h => by omega
theorem sel_asc (p : Nat → Bool) (n : Nat) : AscL (sel p n) n := ⟨sel_pair p n, fun x hx => by obtain ⟨k, h1, _, rfl⟩ := sel_mem.1 hx; omega⟩
theorem asc_ext : ∀ {a b : List Int}, a.Pairwise (· < ·) → b.Pairwise (· < ·) → (∀ x, x ∈ a ↔ x ∈ b) → a = b
 | [], [], _, _, _ => rfl
 | [], y :: b, _, _, h => absurd ((h y).2 (by simp)) (by simp)
 | x :: a, [], _, _, h => absurd ((h x).1 (by simp)) (by simp)
 | x :: a, y :: b, ha, hb, h => by
  rw [List.pairwise_cons] at ha hb
  have e : x = y := by
   have h1 := (h x).1 (by simp)
   have h2 := (h y).2 (by simp)
   simp only [List.mem_cons] at h1 h2
   rcases h1 with h1 | h1
   ·exact h1
   rcases h2 with h2 | h2
   ·exact h2.symm
   have := hb.1 x h1
   have := ha.1 y h2
   omega
  subst e
  rw [asc_ext ha.2 hb.2 fun z => ?_]
  have hz := h z
  simp only [List.mem_cons] at hz
  constructor
  ·intro m
   rcases hz.1 (.inr m) with r | r
   ·have := ha.1 z m; omega
   ·exact r
  ·intro m
   rcases hz.2 (.inr m) with r | r
   ·have := hb.1 z m; omega
   ·exact r
theorem asc_sub : ∀ {b a : List Int}, a.Pairwise (· < ·) → b.Pairwise (· < ·) → (∀ x ∈ a, x ∈ b) → a.length ≤ b.length ∧ (a.length = b.length → a = b)
 | [], a, _, _, h => by
  cases a with
  | nil => simp
  | cons x a => exact absurd (h x (by simp)) (by simp)
 | y :: b, [], _, _, _ => by simp
 | y :: b, x :: a, ha, hb, h => by
  have ha' := ha
  rw [List.pairwise_cons] at ha hb
  by_cases e : x = y
  ·subst e
   have ih := asc_sub (b := b) (a := a) ha.2 hb.2 fun z hz => by
    have := h z (by simp [hz])
    simp only [List.mem_cons] at this
    rcases this with r | r
    ·have := ha.1 z hz; omega
    ·exact r
   simp only [List.length_cons]
   exact ⟨by omega, fun q => by rw [ih.2 (by omega)]⟩
  ·have hx : x ∈ b := by
    have := h x (by simp)
    simp only [List.mem_cons] at this
    rcases this with r | r
    ·exact absurd r e
    ·exact r
   have hyx := hb.1 x hx
   have ih := asc_sub (b := b) (a := x :: a) ha' hb.2 fun z hz => by
    have := h z hz
    simp only [List.mem_cons] at this hz
    rcases this with r | r
    ·rcases hz with s | s
     ·omega
     ·have := ha.1 z s; omega
    ·exact r
   simp only [List.length_cons] at ih ⊢
   exact ⟨by omega, fun q => by omega⟩
theorem ascG_iff {n : Nat} : ∀ {l : List Int}, ascG n none l = 0 ↔ AscL l n := fun {l} => by
 constructor
 ·intro h
  obtain ⟨h1, _, h3⟩ := asc_gt n l none h
  exact ⟨h3, fun x hx => by have := h1 x hx; omega⟩
 ·rintro ⟨h1, h2⟩
  have gen : ∀ (l : List Int) (q : Option Int), l.Pairwise (· < ·) → (∀ x ∈ l, 0 ≤ x ∧ x < n) → (∀ z, q = some z → ∀ x ∈ l, z < x) → ascG n q l = 0 := by
   intro l
   induction l with
   | nil => intro q _ _ _; rfl
   | cons x l ih =>
    intro q hp hb hq
    rw [List.pairwise_cons] at hp
    have hx := hb x (by simp)
    have hle : leO x q = false := by
     cases q with
     | none => rfl
     | some z =>
      have := hq z rfl x (by simp)
      simp only [leO, decide_eq_false_iff_not]
      omega
    have := ih (some x) hp.2 (fun y hy => hb y (by simp [hy])) (fun z hz y hy => by cases hz; exact hp.1 y hy)
    simp only [ascG]
    rw [if_pos (by omega), hle]
    simpa using this
  exact gen l none h1 h2 (fun z hz => by cases hz)
theorem validP_ok {g : G} {p : Mo} : validP g p = 0 ↔ PK g p := by
 unfold validP
 split
 ·rename_i h; exact ⟨fun e => absurd e h, fun e => absurd e.v h⟩
 rename_i h1
 unfold rightP
 split
 ·rename_i h; exact ⟨fun e => absurd e h, fun e => absurd (ascG_iff.2 e.n) h⟩
 rename_i h2
 split
 ·rename_i h; exact ⟨fun e => absurd e h, fun e => absurd (ascG_iff.2 e.e) h⟩
 rename_i h3
 split
 ·rename_i h
  refine ⟨fun e => absurd e (by decide), fun e => ?_⟩
  unfold dangP at h
  rw [List.any_eq_true] at h
  obtain ⟨x, hx, hd⟩ := h
  have := e.d x hx
  simp [this] at hd
 ·rename_i h
  refine ⟨fun _ => ⟨Decidable.not_not.1 h1, ascG_iff.1 (Decidable.not_not.1 h2), ascG_iff.1 (Decidable.not_not.1 h3), fun x hx => ?_⟩, fun _ => rfl⟩
  unfold dangP at h
  rw [Bool.not_eq_true, List.any_eq_false] at h
  have := h x hx
  simpa using this
theorem asc_len {l : List Int} {n : Nat} (h : AscL l n) : l.length ≤ n := by
 have := (asc_sub (b := nums 0 n) h.p (by
  unfold nums
  rw [List.pairwise_map]
  exact List.pairwise_lt_range.imp fun h => by omega) fun x hx => nums_mem.2 (h.b x hx)).1
 rwa [nums_len] at this
theorem PK.len {g : G} {p : Mo} (h : PK g p) : p.n.length ≤ 40 ∧ p.e.length ≤ 80 := by
 have := valid_spec h.v
 have := asc_len h.n
 have := asc_len h.e
 omega
theorem ends_mem {g : G} {es : List Int} {x : Int} : x ∈ endsL g es ↔ ∃ e ∈ es, (gt g.e e).f = x ∨ (gt g.e e).o = x := by
 unfold endsL
 simp only [List.mem_flatMap, List.mem_cons, List.not_mem_nil, or_false]
 exact ⟨fun ⟨e, h1, h2⟩ => ⟨e, h1, h2.imp Eq.symm Eq.symm⟩, fun ⟨e, h1, h2⟩ => ⟨e, h1, h2.imp Eq.symm Eq.symm⟩⟩
end
attribute [local irreducible] W
@[go_sem] def c_cmp_isNaN_I_r0 : LL := [qb 2 false]
@[go_sem] def c_cmp_isNaN_I_r1 : LL := [qm 3 0,qm 4 0,qo .neq 5 3 4,qm 2 5]
@[go_sem] def c_cmp_isNaN_I (F : Fn) : LC := (.seq (.reg c_cmp_isNaN_I_r0 [0]) (.seq (.reg c_cmp_isNaN_I_r1 [2]) .ret))
def h_cmp_isNaN_I : Hints := hOf [] (c_cmp_isNaN_I fun _ => 0)
@[go_sem] def c_cmp_Less_I_r0 : LL := [qb 4 false]
@[go_sem] def c_cmp_Less_I_r1 (F : Fn) : LL := [qm 5 0,qc 6 (F "cmp.isNaN.I") [.t 5],qm 7 6,qg 7 true (qm 8 1),qg 7 true (qc 9 (F "cmp.isNaN.I") [.t 8]),qg 7 true (qv 10 9),qP 11 7 10,qm 12 11,qg 12 false (qm 13 0),qg 12 false (qm 14 1),
 qg 12 false (qo .lss 15 13 14),qQ 16 12 15,qm 4 16]
@[go_sem] def c_cmp_Less_I (F : Fn) : LC := (.seq (.reg c_cmp_Less_I_r0 [0,1]) (.seq (.reg (c_cmp_Less_I_r1 F) [4]) .ret))
def h_cmp_Less_I : Hints := hOf [] (c_cmp_Less_I fun _ => 0)
@[go_sem] def c_slices_isNaN_I_r0 : LL := [qb 2 false]
@[go_sem] def c_slices_isNaN_I_r1 : LL := [qm 3 0,qm 4 0,qo .neq 5 3 4,qm 2 5]
@[go_sem] def c_slices_isNaN_I (F : Fn) : LC := (.seq (.reg c_slices_isNaN_I_r0 [0]) (.seq (.reg c_slices_isNaN_I_r1 [2]) .ret))
def h_slices_isNaN_I : Hints := hOf [] (c_slices_isNaN_I fun _ => 0)
@[go_sem] def c_slices_BinarySearch_I_r0 : LL := [qi 4 0,qb 5 false]
@[go_sem] def c_slices_BinarySearch_I_r1 : LL := [qm 10 0,qz 11 10,qm 6 11]
@[go_sem] def c_slices_BinarySearch_I_r2 : LL := [qm 12 6,qi 7 0,qm 8 12]
@[go_sem] def c_slices_BinarySearch_I_r3 : LL := [qm 13 7,qm 14 8,qo .lss 15 13 14]
@[go_sem] def c_slices_BinarySearch_I_r4 : LL := [qm 16 7,qm 17 8,qo .add 18 16 17,⟨some 19,.conv .u64 (.t 18),none⟩,⟨some 20,.bin .shr (.t 19) (.k (.int .u64 (1))),none⟩,⟨some 21,.conv .i64 (.t 20),none⟩,qm 9 21]
@[go_sem] def c_slices_BinarySearch_I_r5 (F : Fn) : LL := [qm 22 0,qm 23 9,qd 24 1 22 23,ql 25 1 24,qm 26 1,qc 27 (F "cmp.Less.I") [.t 25,.t 26]]
@[go_sem] def c_slices_BinarySearch_I_r6 : LL := [qm 28 9,qk .add 29 28 1,qm 7 29]
@[go_sem] def c_slices_BinarySearch_I_r7 : LL := [qm 30 9,qm 8 30]
def c_slices_BinarySearch_I_b8 (F : Fn) : LC := (.seq (.seq (.reg c_slices_BinarySearch_I_r3 [0,1,6,7,8,15]) (.cond (.t 15) .skip (.exit 0))) (.block 1 (.seq (.reg c_slices_BinarySearch_I_r4 [0,1,6,7,8,9]) (.seq (.reg (c_slices_BinarySearch_I_r5 F) [0,1,6,7,8,9,27]) (.cond (.t 27) (.reg c_slices_BinarySearch_I_r6 [0,1,6,7,8]) (.reg c_slices_BinarySearch_I_r7 [0,1,6,7,8]))))))
@[go_sem] def c_slices_BinarySearch_I_r9 (F : Fn) : LL := [qm 31 7,qm 32 7,qm 33 6,qo .lss 34 32 33,qm 35 34,qg 35 true (qm 36 0),qg 35 true (qm 37 7),qg 35 true (qd 38 1 36 37),qg 35 true (ql 39 1 38),qg 35 true (qm 40 1),
 qg 35 true (qo .eql 41 39 40),qg 35 true (qm 42 41),qg 42 false (qm 43 0),qg 42 false (qm 44 7),qg 42 false (qd 45 1 43 44),qg 42 false (ql 46 1 45),
 qg 42 false (qc 47 (F "slices.isNaN.I") [.t 46]),qg 42 false (qm 48 47),qg 48 true (qm 49 1),qg 48 true (qc 50 (F "slices.isNaN.I") [.t 49]),qg 42 false (qP 51 48 50),qg 35 true (qQ 52 42 51),qP 53 35 52,
 qm 4 31,qm 5 53]
@[go_sem] def c_slices_BinarySearch_I (F : Fn) : LC := (.seq (.reg c_slices_BinarySearch_I_r0 [0,1]) (.seq (.reg c_slices_BinarySearch_I_r1 [0,1,6]) (.seq (.reg c_slices_BinarySearch_I_r2 [0,1,6,7,8]) (.seq (.block 0 (.loop [0,1,6,7,8] (c_slices_BinarySearch_I_b8 F))) (.seq (.reg (c_slices_BinarySearch_I_r9 F) [4,5]) .ret)))))
def h_slices_BinarySearch_I : Hints := hOf [] (c_slices_BinarySearch_I fun _ => 0)
@[go_sem] def c_subgraph_list_r0 : LL := [qi 4 0]
@[go_sem] def c_subgraph_list_r1 : LL := [qm 7 0,qz 8 7,qi 9 0]
@[go_sem] def c_subgraph_list_r2 : LL := [qo .lss 10 9 8]
@[go_sem] def c_subgraph_list_r3 : LL := [qm 11 9,qd 12 1 7 9,ql 13 1 12,qm 5 11,qm 6 13]
@[go_sem] def c_subgraph_list_r4 : LL := [qm 14 6,qk .lss 15 14 0,qm 16 15,qg 16 false (qm 17 6),qg 16 false (qm 18 1),qg 16 false (qo .geq 19 17 18),qQ 20 16 19]
@[go_sem] def c_subgraph_list_r5 : LL := [qi 4 6]
@[go_sem] def c_subgraph_list_r6 : LL := [qm 21 5,qk .gtr 22 21 0,qm 23 22,qg 23 true (qm 24 6),qg 23 true (qm 25 0),qg 23 true (qm 26 5),qg 23 true (qk .sub 27 26 1),qg 23 true (qd 28 1 25 27),qg 23 true (ql 29 1 28),
 qg 23 true (qo .leq 30 24 29),qP 31 23 30]
@[go_sem] def c_subgraph_list_r7 : LL := [qi 4 12]
@[go_sem] def c_subgraph_list_r8 : LL := [qk .add 32 9 1,qm 9 32]
def c_subgraph_list_b9 : LC := (.seq (.reg c_subgraph_list_r2 [0,1,7,8,9,10]) (.seq (.cond (.t 10) .skip (.exit 0)) (.seq (.block 1 (.seq (.reg c_subgraph_list_r3 [0,1,5,6,7,8,9]) (.seq (.seq (.reg c_subgraph_list_r4 [0,1,5,6,7,8,9,20]) (.cond (.t 20) (.seq (.reg c_subgraph_list_r5 [4]) .ret) .skip)) (.seq (.reg c_subgraph_list_r6 [0,1,7,8,9,31]) (.cond (.t 31) (.seq (.reg c_subgraph_list_r7 [4]) .ret) .skip))))) (.reg c_subgraph_list_r8 [0,1,7,8,9]))))
@[go_sem] def c_subgraph_list_r10 : LL := [qi 4 0]
@[go_sem] def c_subgraph_list (F : Fn) : LC := (.seq (.reg c_subgraph_list_r0 [0,1]) (.seq (.seq (.reg c_subgraph_list_r1 [0,1,7,8,9]) (.block 0 (.loop [0,1,7,8,9] c_subgraph_list_b9))) (.seq (.reg c_subgraph_list_r10 [4]) .ret)))
def h_subgraph_list : Hints := hOf [] (c_subgraph_list fun _ => 0)
@[go_sem] def c_subgraph_has_r0 : LL := [qb 4 false]
@[go_sem] def c_subgraph_has_r1 (F : Fn) : LL := [qm 8 0,qm 9 1,qc 10 (F "slices.BinarySearch.I") [.t 8,.t 9],qm 7 10,qx 11 7 0,qx 12 7 1,qm 5 11,qm 6 12]
@[go_sem] def c_subgraph_has_r2 : LL := [qm 13 6,qm 4 13]
@[go_sem] def c_subgraph_has (F : Fn) : LC := (.seq (.reg c_subgraph_has_r0 [0,1]) (.seq (.reg (c_subgraph_has_r1 F) [6]) (.seq (.reg c_subgraph_has_r2 [4]) .ret)))
def h_subgraph_has : Hints := hOf [] (c_subgraph_has fun _ => 0)
@[go_sem] def c_subgraph_part_r0 : LL := [qB 2 0,qB 3 1,qi 4 0]
@[go_sem] def c_subgraph_part_r1 (F : Fn) : LL := [qf 9 0 3,ql 10 1 9,qf 11 0 2,ql 12 1 11,qz 13 12,qc 14 (F "subgraph.list") [.t 10,.t 13],qm 5 14]
@[go_sem] def c_subgraph_part_r2 : LL := [qm 15 5,qk .neq 16 15 0]
@[go_sem] def c_subgraph_part_r3 : LL := [qm 17 5,qm 4 17]
@[go_sem] def c_subgraph_part_r4 (F : Fn) : LL := [qf 18 1 3,ql 19 1 18,qf 20 1 2,ql 21 1 20,qz 22 21,qc 23 (F "subgraph.list") [.t 19,.t 22],qm 6 23]
@[go_sem] def c_subgraph_part_r5 : LL := [qm 24 6,qk .neq 25 24 0]
@[go_sem] def c_subgraph_part_r6 : LL := [qm 26 6,qm 4 26]
@[go_sem] def c_subgraph_part_r7 : LL := [qf 27 1 3,ql 28 1 27,qz 29 28,qi 30 0]
@[go_sem] def c_subgraph_part_r8 : LL := [qo .lss 31 30 29]
@[go_sem] def c_subgraph_part_r9 : LL := [qd 32 1 28 30,ql 33 1 32,qm 8 33]
@[go_sem] def c_subgraph_part_r10 (F : Fn) : LL := [qf 34 0 3,ql 35 1 34,qf 36 1 2,ql 37 1 36,qm 38 8,qd 39 3 37 38,qf 40 1 39,ql 41 1 40,qc 42 (F "subgraph.has") [.t 35,.t 41],qv 43 42,qm 44 43,qg 44 false (qf 45 0 3),qg 44 false (ql 46 1 45),
 qg 44 false (qf 47 1 2),qg 44 false (ql 48 1 47),qg 44 false (qm 49 8),qg 44 false (qd 50 3 48 49),qg 44 false (qf 51 2 50),qg 44 false (ql 52 1 51),
 qg 44 false (qc 53 (F "subgraph.has") [.t 46,.t 52]),qg 44 false (qv 54 53),qQ 55 44 54]
@[go_sem] def c_subgraph_part_r11 : LL := [qi 4 14]
@[go_sem] def c_subgraph_part_r12 : LL := [qk .add 56 30 1,qm 30 56]
def c_subgraph_part_b13 (F : Fn) : LC := (.seq (.reg c_subgraph_part_r8 [2,3,28,29,30,31]) (.seq (.cond (.t 31) .skip (.exit 0)) (.seq (.block 1 (.seq (.reg c_subgraph_part_r9 [2,3,8,28,29,30]) (.seq (.dreg [] (c_subgraph_part_r10 F) [2,3,28,29,30,55]) (.cond (.t 55) (.seq (.reg c_subgraph_part_r11 [4]) .ret) .skip)))) (.reg c_subgraph_part_r12 [2,3,28,29,30]))))
@[go_sem] def c_subgraph_part_r14 : LL := [qi 4 0]
@[go_sem] def c_subgraph_part (F : Fn) : LC := (.seq (.reg c_subgraph_part_r0 [2,3]) (.seq (.seq (.reg (c_subgraph_part_r1 F) [2,3,5]) (.seq (.reg c_subgraph_part_r2 [2,3,5,16]) (.cond (.t 16) (.seq (.reg c_subgraph_part_r3 [4]) .ret) .skip))) (.seq (.seq (.reg (c_subgraph_part_r4 F) [2,3,6]) (.seq (.reg c_subgraph_part_r5 [2,3,6,25]) (.cond (.t 25) (.seq (.reg c_subgraph_part_r6 [4]) .ret) .skip))) (.seq (.seq (.reg c_subgraph_part_r7 [2,3,28,29,30]) (.block 0 (.loop [2,3,28,29,30] (c_subgraph_part_b13 F)))) (.seq (.reg c_subgraph_part_r14 [4]) .ret)))))
def h_subgraph_part : Hints := hOf [] (c_subgraph_part fun _ => 0)
@[go_sem] def c_subgraph_Valid_r0 : LL := [qB 2 0,qB 3 1,qi 4 0]
@[go_sem] def c_subgraph_Valid_r1 (F : Fn) : LL := [qL 6 2 2,qc 7 (F "graph.Valid") [.t 6],qm 5 7]
@[go_sem] def c_subgraph_Valid_r2 : LL := [qm 8 5,qk .neq 9 8 0]
@[go_sem] def c_subgraph_Valid_r3 : LL := [qm 10 5,qm 4 10]
@[go_sem] def c_subgraph_Valid_r4 (F : Fn) : LL := [qL 11 2 2,qL 12 2 3,qc 13 (F "subgraph.part") [.t 11,.t 12],qm 4 13]
@[go_sem] def c_subgraph_Valid (F : Fn) : LC := (.seq (.reg c_subgraph_Valid_r0 [2,3]) (.seq (.seq (.reg (c_subgraph_Valid_r1 F) [2,3,5]) (.seq (.reg c_subgraph_Valid_r2 [2,3,5,9]) (.cond (.t 9) (.seq (.reg c_subgraph_Valid_r3 [4]) .ret) .skip))) (.seq (.reg (c_subgraph_Valid_r4 F) [4]) .ret)))
def h_subgraph_Valid : Hints := hOf [] (c_subgraph_Valid fun _ => 0)
def cntB (l : List Int) (x : Int) : Nat := (l.filter fun y => decide (y < x)).length
section
variable (P : Program) (F : String → Nat)
def K_cmp_isNaN_I : Prop := ∀ x : Int, FC P (F "cmp.isNaN.I") [.int .i64 x] (.bool false) []
def K_slices_isNaN_I : Prop := ∀ x : Int, FC P (F "slices.isNaN.I") [.int .i64 x] (.bool false) []
def K_cmp_Less_I : Prop := ∀ x y : Int, FC P (F "cmp.Less.I") [.int .i64 x, .int .i64 y] (.bool (decide (x < y))) []
def K_slices_BinarySearch_I : Prop := ∀ (l : List Int) (x : Int), l.Pairwise (· < ·) → l.length ≤ 1000000 → FC P (F "slices.BinarySearch.I") [.lst 1 (ints l), .int .i64 x] (.tup [.int .i64 (cntB l x), .bool (decide (x ∈ l))]) []
def K_subgraph_has : Prop := ∀ (l : List Int) (x : Int), l.Pairwise (· < ·) → l.length ≤ 1000000 → FC P (F "subgraph.has") [.lst 1 (ints l), .int .i64 x] (.bool (decide (x ∈ l))) []
def K_subgraph_list : Prop := ∀ (l : List Int) (n : Int), l.length ≤ maxL → 0 ≤ n → n ≤ 1000000 → FC P (F "subgraph.list") [.lst 1 (ints l), .int .i64 n] (.int .i64 (ascG n none l)) []
def K_subgraph_part : Prop := ∀ (g : G) (p : Mo), validG g = 0 → p.n.length ≤ maxL → p.e.length ≤ maxL → FC P (F "subgraph.part") [gD g, mD p] (.int .i64 (rightP g p)) []
def K_subgraph_Valid : Prop := ∀ (g : G) (p : Mo), p.n.length ≤ maxL → p.e.length ≤ maxL → FC P (F "subgraph.Valid") [gD g, mD p] (.int .i64 (validP g p)) []
end
section
variable {P : Program} {F : String → Nat} {α : Type}
theorem pair_gt {l : List Int} (h : l.Pairwise (· < ·)) {i j : Nat} (hij : i < j) (hj : j < l.length) : gt l i < gt l j := by
 rw [gt_nat (by omega), gt_nat hj]
 exact List.pairwise_iff_getElem.1 h i j (by omega) hj hij
theorem cntB_eq {l : List Int} {x : Int} (hp : l.Pairwise (· < ·)) {i : Nat} (hi : i ≤ l.length) (h1 : ∀ k : Nat, k < i → gt l k < x) (h2 : ∀ k : Nat, i ≤ k → k < l.length → x ≤ gt l k) : cntB l x = i ∧ (x ∈ l ↔ i < l.length ∧ gt l i = x) := by
 constructor
 ·unfold cntB
  conv => lhs; rw [← List.take_append_drop i l]
  rw [List.filter_append, List.length_append]
  have e1 : (l.take i).filter (fun y => decide (y < x)) = l.take i := List.filter_eq_self.2 fun y hy => by
   obtain ⟨k, hk, rfl⟩ := List.mem_take_iff_getElem.1 hy
   have := h1 k (by omega)
   rw [gt_nat (by omega)] at this
   simpa using this
  have e2 : (l.drop i).filter (fun y => decide (y < x)) = [] := List.filter_eq_nil_iff.2 fun y hy => by
   obtain ⟨k, hk, rfl⟩ := List.mem_drop_iff_getElem.1 hy
   have := h2 (i + k) (by omega) (by omega)
   rw [gt_nat (by omega)] at this
   simpa using this
  rw [e1, e2]; simp; omega
 ·constructor
  ·intro hx
   obtain ⟨k, hk, hk2⟩ := mem_gt hx
   by_cases c : k < i
   ·have := h1 k c; omega
   ·by_cases d : k = i
    ·subst d; exact ⟨hk, hk2⟩
    ·have := pair_gt hp (i := i) (j := k) (by omega) hk
     have := h2 i (by omega) (by omega)
     omega
  ·rintro ⟨h, e⟩
   rw [← e]; exact gt_mem (by omega) (by omega)
theorem w_cmp_isNaN_I (x : Int) : W P (c_cmp_isNaN_I F) (Done [.t 2] [] (.bool false) []) (init [.int .i64 x]) := by
 refine W_of ?_
 simp (disch := omega) only [go_sem, ↓reduceIte]
 try simp
theorem w_slices_isNaN_I (x : Int) : W P (c_slices_isNaN_I F) (Done [.t 2] [] (.bool false) []) (init [.int .i64 x]) := by
 refine W_of ?_
 simp (disch := omega) only [go_sem, ↓reduceIte]
 try simp
theorem w_cmp_Less_I (hn : K_cmp_isNaN_I P F) (x y : Int) : W P (c_cmp_Less_I F) (Done [.t 4] [] (.bool (decide (x < y))) []) (init [.int .i64 x, .int .i64 y]) := by
 refine W_of ?_
 simp (disch := omega) only [go_sem, ↓reduceIte]
 refine call_by (hn x) ?_
 simp (disch := omega) only [go_sem, ↓reduceIte]
theorem w_slices_BinarySearch_I (hc : K_cmp_Less_I P F) (hn : K_slices_isNaN_I P F) (l : List Int) (x : Int) (hp : l.Pairwise (· < ·)) (hl : l.length ≤ 1000000) : W P (c_slices_BinarySearch_I F) (Done [.t 4, .t 5] [] (.tup [.int .i64 (cntB l x), .bool (decide (x ∈ l))]) []) (init [.lst 1 (ints l), .int .i64 x]) := by
 refine W_of ?_
 simp (disch := omega) only [go_sem, ↓reduceIte]
 refine W_loop (fun s : Nat × Nat => ⟨[(0, .lst 1 (ints l)), (1, .int .i64 x), (6, .int .i64 l.length), (7, .int .i64 s.1), (8, .int .i64 s.2)], [], 0⟩) (fun s => (s.1 ≤ s.2 ∧ s.2 ≤ l.length) ∧ (∀ k : Nat, k < s.1 → gt l k < x) ∧ ∀ k : Nat, s.2 ≤ k → k < l.length → x ≤ gt l k) (fun s => s.2 - s.1) (0, l.length) ?_ ?_ ?_
 ·simp (disch := omega) only [go_sem, ↓reduceIte]
  rfl
 ·exact ⟨by simp, fun k hk => by simp only at hk; omega, fun k h1 h2 => by simp only at h1; omega⟩
 ·rintro ⟨i, j⟩ ⟨⟨i1, i2⟩, i3, i4⟩
  simp only at i1 i2 i3 i4
  by_cases c : i < j
  ·have g1 : decide ((i : Int) < j) = true := decide_eq_true (by omega)
   have hh : ((i : Int) + j).fdiv (2 ^ min (1 : Int).toNat 64) = (((i + j) / 2 : Nat) : Int) := by
    rw [Int.fdiv_eq_ediv_of_nonneg _ (by decide)]
    simp
   have w1 : IntKind.u64.wrap ((i : Int) + j) = (i : Int) + j := by
    unfold IntKind.wrap
    simp [IntKind.bits, IntKind.signed]
    omega
   have r := hc (gt l (((i + j) / 2 : Nat) : Int)) x
   have z1 : ¬ ((1 : Int) < 0) := by omega
   have lt : (i + j) / 2 < j := by omega
   have le : i ≤ (i + j) / 2 := by omega
   rw [show (1 : Int).toNat = 1 from rfl] at hh
   generalize (i + j) / 2 = h at *
   by_cases d : gt l h < x
   ·rw [decide_eq_true d] at r
    simp (disch := omega) only [go_sem, ↓reduceIte, c_slices_BinarySearch_I_b8, g1, w1, z1, hh]
    refine call_by r ?_
    simp (disch := omega) only [go_sem, ↓reduceIte]
    refine ⟨(h + 1, j), by simp, ⟨⟨by simp only; omega, i2⟩, fun k hk => ?_, i4⟩, by simp only; omega⟩
    simp only at hk
    by_cases e : k = h
    ·subst e; exact d
    ·have := pair_gt hp (i := k) (j := h) (by omega) (by omega)
     omega
   ·rw [decide_eq_false d] at r
    simp (disch := omega) only [go_sem, ↓reduceIte, c_slices_BinarySearch_I_b8, g1, w1, z1, hh]
    refine call_by r ?_
    simp (disch := omega) only [go_sem, ↓reduceIte]
    refine ⟨(i, h), by simp, ⟨⟨by simp only; omega, by simp only; omega⟩, i3, fun k h1 h2 => ?_⟩, by simp only; omega⟩
    simp only at h1
    by_cases e : k = h
    ·subst e; omega
    ·have := pair_gt hp (i := h) (j := k) (by omega) (by omega)
     omega
  ·have g1 : decide ((i : Int) < j) = false := decide_eq_false (by omega)
   obtain rfl : i = j := by omega
   obtain ⟨e1, e2⟩ := cntB_eq hp i2 i3 i4
   rw [e1]
   by_cases c2 : i < l.length
   ·have g2 : decide ((i : Int) < l.length) = true := decide_eq_true (by omega)
    by_cases c3 : gt l i = x
    ·have g3 : decide (gt l i = x) = true := decide_eq_true c3
     have hx : x ∈ l := e2.2 ⟨c2, c3⟩
     rw [decide_eq_true hx]
     simp (disch := omega) only [go_sem, ↓reduceIte, c_slices_BinarySearch_I_b8, g1, g2, g3]
    ·have g3 : decide (gt l i = x) = false := decide_eq_false c3
     have hx : ¬ x ∈ l := fun h => c3 (e2.1 h).2
     rw [decide_eq_false hx]
     simp (disch := omega) only [go_sem, ↓reduceIte, c_slices_BinarySearch_I_b8, g1, g2, g3]
     refine call_by (hn _) ?_
     simp (disch := omega) only [go_sem, ↓reduceIte]
   ·have g2 : decide ((i : Int) < l.length) = false := decide_eq_false (by omega)
    have hx : ¬ x ∈ l := fun h => c2 (e2.1 h).1
    rw [decide_eq_false hx]
    simp (disch := omega) only [go_sem, ↓reduceIte, c_slices_BinarySearch_I_b8, g1, g2]
theorem w_subgraph_has (hb : K_slices_BinarySearch_I P F) (l : List Int) (x : Int) (hp : l.Pairwise (· < ·)) (hl : l.length ≤ 1000000) : W P (c_subgraph_has F) (Done [.t 4] [] (.bool (decide (x ∈ l))) []) (init [.lst 1 (ints l), .int .i64 x]) := by
 refine W_of ?_
 have r := hb l x hp hl
 simp (disch := omega) only [go_sem, ↓reduceIte]
 refine call_by r ?_
 simp (disch := omega) only [go_sem, ↓reduceIte]
theorem w_subgraph_list (l : List Int) (n : Int) (hl : l.length ≤ maxL) (h0 : 0 ≤ n) (h1 : n ≤ 1000000) : W P (c_subgraph_list F) (Done [.t 4] [] (.int .i64 (ascG n none l)) []) (init [.lst 1 (ints l), .int .i64 n]) := by
 refine W_of ?_
 unfold maxL at hl
 simp (disch := omega) only [go_sem, ↓reduceIte]
 refine W_loop (fun i : Nat => ⟨[(0, .lst 1 (ints l)), (1, .int .i64 n), (7, .lst 1 (ints l)), (8, .int .i64 l.length), (9, .int .i64 i)], [], 0⟩) (fun i => i ≤ l.length ∧ ascG n none l = ascG n (prevO l i) (l.drop i)) (fun i => l.length - i) 0 ?_ ?_ ?_
 ·simp (disch := omega) only [go_sem, ↓reduceIte]
  rfl
 ·simp [prevO]
 ·intro i hi
  simp (disch := omega) only [go_sem, ↓reduceIte, c_subgraph_list_b9]
  refine bran_dec (fun a => ?_) (fun a => ?_)
  ·have hs := asc_step n l i (by omega)
   simp (disch := omega) only [go_sem, ↓reduceIte]
   refine bran_dec (fun b => ?_) (fun b => ?_)
   ·simp (disch := omega) only [go_sem, ↓reduceIte, b]
    rw [hi.2, hs, if_neg (by omega)]
   ·simp (disch := omega) only [go_sem, ↓reduceIte, b]
    refine bran_dec (fun b2 => ?_) (fun b2 => ?_)
    ·simp (disch := omega) only [go_sem, ↓reduceIte]
     rw [hi.2, hs, if_neg (by omega)]
    ·rw [if_pos (by omega)] at hs
     simp (disch := omega) only [go_sem, ↓reduceIte]
     refine bran_dec (fun c => ?_) (fun c => ?_)
     ·simp (disch := omega) only [go_sem, ↓reduceIte, c]
      refine bran_dec (fun d => ?_) (fun d => ?_)
      ·simp (disch := omega) only [go_sem, ↓reduceIte]
       rw [hi.2, hs, if_pos ⟨by omega, d⟩]
      ·simp (disch := omega) only [go_sem, ↓reduceIte]
       exact ⟨i + 1, by simp, ⟨by omega, by rw [hi.2, hs, if_neg (fun e => d e.2)]⟩, by omega⟩
     ·simp (disch := omega) only [go_sem, ↓reduceIte, c]
      exact ⟨i + 1, by simp, ⟨by omega, by rw [hi.2, hs, if_neg (fun e => by omega)]⟩, by omega⟩
  ·simp (disch := omega) only [go_sem, ↓reduceIte]
   rw [hi.2, List.drop_of_length_le (by omega)]
   rfl
theorem w_subgraph_part (hl : K_subgraph_list P F) (hh : K_subgraph_has P F) (g : G) (p : Mo) (hv : validG g = 0) (h1 : p.n.length ≤ maxL) (h2 : p.e.length ≤ maxL) : W P (c_subgraph_part F) (Done [.t 4] [] (.int .i64 (rightP g p)) []) (init [gD g, mD p]) := by
 refine W_of ?_
 have vs := valid_spec hv
 have r1 := hl p.n g.n.length h1 (by omega) (by omega)
 have r2 := hl p.e g.e.length h2 (by omega) (by omega)
 have hR : rightP g p = if ascG g.n.length none p.n ≠ 0 then ascG g.n.length none p.n else if ascG g.e.length none p.e ≠ 0 then ascG g.e.length none p.e else if dangP g p = true then 14 else 0 := rfl
 rw [hR]
 by_cases c1 : ascG g.n.length none p.n = 0
 case neg =>
  rw [if_pos c1]
  generalize ascG g.n.length none p.n = v at *
  simp only [gD, mD] at *
  simp (disch := omega) only [go_sem, ↓reduceIte]
  refine call_by r1 ?_
  simp (disch := omega) only [go_sem, ↓reduceIte, c1]
 rw [if_neg (by simp [c1])]
 by_cases c2 : ascG g.e.length none p.e = 0
 case neg =>
  rw [if_pos c2]
  rw [c1] at r1
  generalize ascG g.e.length none p.e = v at *
  simp only [gD, mD] at *
  simp (disch := omega) only [go_sem, ↓reduceIte]
  refine call_by r1 ?_
  simp (disch := omega) only [go_sem, ↓reduceIte]
  refine call_by r2 ?_
  simp (disch := omega) only [go_sem, ↓reduceIte, c2]
 rw [if_neg (by simp [c2])]
 have a1 := ascG_iff.1 c1
 have a2 := ascG_iff.1 c2
 have q1 := asc_len a1
 have q2 := asc_len a2
 rw [c1] at r1
 rw [c2] at r2
 have hD : dangP g p = p.e.any fun x => !(decide ((gt g.e x).f ∈ p.n) && decide ((gt g.e x).o ∈ p.n)) := rfl
 have hx := fun x => hh p.n x a1.p (by omega)
 clear hR c1 c2
 obtain ⟨gn, ge⟩ := g
 obtain ⟨pn, pe⟩ := p
 simp only [gD, mD] at *
 simp (disch := omega) only [go_sem, ↓reduceIte]
 refine call_by r1 ?_
 simp (disch := omega) only [go_sem, ↓reduceIte]
 refine call_by r2 ?_
 simp (disch := omega) only [go_sem, ↓reduceIte]
 refine W_loop (fun i : Nat => ⟨[(2, .pt 0 0), (3, .pt 1 0), (28, .lst 1 (ints pe)), (29, .int .i64 pe.length), (30, .int .i64 i)], [(0, .box [.lst 1 (ints gn), .lst 3 (eds ge)]), (1, .box [.lst 1 (ints pn), .lst 1 (ints pe)])], 2⟩) (fun i => i ≤ pe.length ∧ ∀ k : Nat, k < i → (gt ge (gt pe k)).f ∈ pn ∧ (gt ge (gt pe k)).o ∈ pn) (fun i => pe.length - i) 0 ?_ ?_ ?_
 ·simp (disch := omega) only [go_sem, ↓reduceIte]
  rfl
 ·exact ⟨by omega, fun k hk => by omega⟩
 ·rintro i ⟨hi, hk⟩
  by_cases c : i < pe.length
  ·have g1 : decide ((i : Int) < pe.length) = true := decide_eq_true (by omega)
   have hb := a2.b _ (gt_mem (l := pe) (j := i) (by omega) (by omega))
   have x1 := hx (gt ge (gt pe i)).f
   have x2 := hx (gt ge (gt pe i)).o
   by_cases d1 : (gt ge (gt pe i)).f ∈ pn
   ·rw [decide_eq_true d1] at x1
    by_cases d2 : (gt ge (gt pe i)).o ∈ pn
    ·rw [decide_eq_true d2] at x2
     simp (disch := omega) only [go_sem, ↓reduceIte, c_subgraph_part_b13, g1]
     refine call_by x1 ?_
     simp (disch := omega) only [go_sem, ↓reduceIte]
     refine call_by x2 ?_
     simp (disch := omega) only [go_sem, ↓reduceIte]
     refine ⟨i + 1, by simp, ⟨by omega, fun k h => ?_⟩, by omega⟩
     by_cases e : k = i
     ·subst e; exact ⟨d1, d2⟩
     ·exact hk k (by omega)
    ·rw [decide_eq_false d2] at x2
     have hdt : dangP ⟨gn, ge⟩ ⟨pn, pe⟩ = true := by
      rw [hD, List.any_eq_true]
      exact ⟨_, gt_mem (l := pe) (j := i) (by omega) (by omega), by simp [d2]⟩
     rw [hdt]
     simp (disch := omega) only [go_sem, ↓reduceIte, c_subgraph_part_b13, g1]
     refine call_by x1 ?_
     simp (disch := omega) only [go_sem, ↓reduceIte]
     refine call_by x2 ?_
     simp (disch := omega) only [go_sem, ↓reduceIte]
     try rfl
   ·rw [decide_eq_false d1] at x1
    have hdt : dangP ⟨gn, ge⟩ ⟨pn, pe⟩ = true := by
     rw [hD, List.any_eq_true]
     exact ⟨_, gt_mem (l := pe) (j := i) (by omega) (by omega), by simp [d1]⟩
    rw [hdt]
    simp (disch := omega) only [go_sem, ↓reduceIte, c_subgraph_part_b13, g1]
    refine call_by x1 ?_
    simp (disch := omega) only [go_sem, ↓reduceIte]
    try rfl
  ·have g1 : decide ((i : Int) < pe.length) = false := decide_eq_false (by omega)
   obtain rfl : i = pe.length := by omega
   have hdt : dangP ⟨gn, ge⟩ ⟨pn, pe⟩ = false := by
    rw [hD, List.any_eq_false]
    intro x hx
    obtain ⟨k, k1, k2⟩ := mem_gt hx
    have := hk k k1
    rw [k2] at this
    simp [this]
   rw [hdt]
   simp (disch := omega) only [go_sem, ↓reduceIte, c_subgraph_part_b13, g1]
   try rfl
theorem w_subgraph_Valid (hv : K_graph_Valid P F) (hp : K_subgraph_part P F) (g : G) (p : Mo) (h1 : p.n.length ≤ maxL) (h2 : p.e.length ≤ maxL) : W P (c_subgraph_Valid F) (Done [.t 4] [] (.int .i64 (validP g p)) []) (init [gD g, mD p]) := by
 refine W_of ?_
 have r1 := hv g
 have hR : validP g p = if validG g ≠ 0 then validG g else rightP g p := rfl
 rw [hR]
 by_cases c : validG g = 0
 ·have r2 := hp g p c h1 h2
  rw [if_neg (by simp [c])]
  rw [c] at r1
  generalize rightP g p = v at *
  simp only [gD, mD] at *
  simp (disch := omega) only [go_sem, ↓reduceIte]
  refine call_by r1 ?_
  simp (disch := omega) only [go_sem, ↓reduceIte]
  refine call_by r2 ?_
  simp (disch := omega) only [go_sem, ↓reduceIte]
 ·rw [if_pos c]
  generalize validG g = v at *
  simp only [gD, mD] at *
  simp (disch := omega) only [go_sem, ↓reduceIte]
  refine call_by r1 ?_
  simp (disch := omega) only [go_sem, ↓reduceIte, c]
end
structure Cx where
 l : G
 g : G
 k : Mo
 m : Mo
 deriving DecidableEq, Inhabited
section
variable (P : Program) (F : String → Nat)
def Cx.sm (x : Cx) : Prop := x.k.n.length ≤ maxL ∧ x.k.e.length ≤ maxL
end
section
variable {P : Program} {F : String → Nat} {α : Type}
end
theorem ints_two (l : List Int) (a b : Int) : ints l ++ [.int .i64 a, .int .i64 b] = ints (l ++ [a, b]) := by simp [ints]
attribute [go_sem] ints_two
section
variable (P : Program) (F : String → Nat)
end
section
variable {P : Program} {F : String → Nat} {α : Type}
end
section
variable (P : Program) (F : String → Nat)
end
section
variable {P : Program} {F : String → Nat} {α : Type}
theorem PK.sm {g : G} {p : Mo} (h : PK g p) : p.sm := by
 have := h.len
 exact ⟨by unfold maxL; omega, by unfold maxL; omega⟩
end
section
theorem nodup_ix {l : List Int} (h : ∀ i j : Nat, i < l.length → j < l.length → gt l i = gt l j → i = j) : l.Nodup := by
 unfold List.Nodup
 rw [List.pairwise_iff_getElem]
 intro i j hi hj hij e
 have := h i j hi hj (by rw [gt_nat hi, gt_nat hj, e])
 omega
theorem covers_ix {l : List Int} {n : Nat} : covers l n = true ↔ ∀ k : Nat, k < n → ∃ i : Nat, i < l.length ∧ gt l i = k := by
 unfold covers
 rw [List.all_eq_true]
 simp only [List.mem_range, decide_eq_true_eq]
 exact ⟨fun h k hk => mem_gt (h k hk), fun h k hk => by obtain ⟨i, h1, h2⟩ := h k hk; rw [← h2]; exact gt_mem (by omega) (by omega)⟩
theorem injM_ok {a b : G} {m : Mo} (hm : MOk a b m) : injM a b m = true ↔ m.n.Nodup ∧ m.e.Nodup := by
 unfold injM distinct
 rw [mok.2 hm]
 simp
theorem surM_ok {a b : G} {m : Mo} (hm : MOk a b m) : surM a b m = true ↔ covers m.n b.n.length = true ∧ covers m.e b.e.length = true := by
 unfold surM
 rw [mok.2 hm]
 simp
section
variable {s : Sp}
theorem SOk.chk_grown (hs : SOk s) {x : G} {m : Mo} (hm : MOk (poG s) x m) : chkP s x (thenM (poP s) m) (thenM (poK s) m) = (injM (poG s) x m && surM (poG s) x m) := by
 have e : cocE s x (thenM (poP s) m) (thenM (poK s) m) = 0 := cocE_ok.2 ⟨hs, then_okP hs.p hm, then_okP hs.k hm, by rw [← then_assoc hs.f hs.p, ← then_assoc hs.g hs.k, hs.comm]⟩
 unfold chkP
 rw [e, hs.medU hm]
 rfl
theorem gen_inj {n nb : Nat} {F H : List Int} (hp : PrIn n (prL F H F.length)) (hF : ∀ i : Nat, i < F.length → gt F i < nb) (hH : ∀ i : Nat, i < F.length → (nb : Int) ≤ gt H i) (hn : ∀ i j : Nat, i < F.length → j < F.length → gt F i = gt F j → i = j)
  {x y : Nat} (hx : nb ≤ x ∧ x < n) (hy : nb ≤ y ∧ y < n) (e : gt (genL n (prL F H F.length)) x = gt (genL n (prL F H F.length)) y) : x = y := by
 let φ : Int → Int := fun v => if v < nb then (match (List.range F.length).find? (fun t : Nat => decide (gt F t = v)) with | some t => gt H t | none => -1 - v) else v
 have key : ∀ i : Nat, i < (prL F H F.length).length → φ (gt (prL F H F.length) i).a = φ (gt (prL F H F.length) i).b := fun i hi => by
  rw [prL_len] at hi
  rw [prL_gt hi]
  have h1 : φ (gt H i) = gt H i := if_neg (by have := hH i hi; omega)
  have h2 : φ (gt F i) = gt H i := by
   show (if gt F i < (nb : Int) then _ else _) = _
   rw [if_pos (hF i hi)]
   cases hf : (List.range F.length).find? (fun t : Nat => decide (gt F t = gt F i)) with
   | none =>
    have := List.find?_eq_none.1 hf i (by simpa using hi)
    simp at this
   | some t =>
    have ht := List.find?_some hf
    have hm := List.mem_of_find?_eq_some hf
    simp at ht hm
    rw [hn t i hm hi ht]
  rw [h1, h2]
 have f1 := gen_fun hp key _ (Nat.le_refl _) x hx.2
 have f2 := gen_fun hp key _ (Nat.le_refl _) y hy.2
 have e' : gt (genI n (prL F H F.length) (prL F H F.length).length) x = gt (genI n (prL F H F.length) (prL F H F.length).length) y := e
 rw [e', f2] at f1
 have g1 : φ (x : Int) = x := if_neg (by omega)
 have g2 : φ (y : Int) = y := if_neg (by omega)
 rw [g1, g2] at f1
 omega
theorem SOk.fN (hs : SOk s) {i : Nat} (hi : i < s.a.n.length) : gt (poF s).n i = gt s.f.n i ∧ gt (poH s).n i = (s.b.n.length : Int) + gt s.g.n i := by
 obtain ⟨k, hk, hk2⟩ := gtI (hs.f.nd i hi).1
 obtain ⟨j, hj, hj2⟩ := gtI (hs.g.nd i hi).1
 simp only [poF, poH, thenM, idM, inR]
 rw [thr_gt (by rw [hs.f.ln]; exact hi), thr_gt (by rw [hs.g.ln]; exact hi), hk2, hj2, nums_gt hk, nums_gtF hj]
 exact ⟨rfl, rfl⟩
theorem SOk.fE (hs : SOk s) {i : Nat} (hi : i < s.a.e.length) : gt (poF s).e i = gt s.f.e i ∧ gt (poH s).e i = (s.b.e.length : Int) + gt s.g.e i := by
 obtain ⟨k, hk, hk2⟩ := gtI (hs.f.ed i hi).1
 obtain ⟨j, hj, hj2⟩ := gtI (hs.g.ed i hi).1
 simp only [poF, poH, thenM, idM, inR]
 rw [thr_gt (by rw [hs.f.le]; exact hi), thr_gt (by rw [hs.g.le]; exact hi), hk2, hj2, nums_gt hk, nums_gtF hj]
 exact ⟨rfl, rfl⟩
theorem SOk.kN (hs : SOk s) {i : Nat} (hi : i < s.c.n.length) : gt (poK s).n i = gt (poQ s).n ((s.b.n.length + i : Nat) : Int) := by
 simp only [poK, thenM, inR]
 rw [thr_gt (by rw [nums_len]; exact hi), nums_gtF hi, show (s.b.n.length : Int) + i = ((s.b.n.length + i : Nat) : Int) by omega]
theorem SOk.kE (hs : SOk s) {i : Nat} (hi : i < s.c.e.length) : gt (poK s).e i = gt (poQ s).e ((s.b.e.length + i : Nat) : Int) := by
 simp only [poK, thenM, inR]
 rw [thr_gt (by rw [nums_len]; exact hi), nums_gtF hi, show (s.b.e.length : Int) + i = ((s.b.e.length + i : Nat) : Int) by omega]
theorem SOk.injN (hs : SOk s) (hn : s.f.n.Nodup) : (poK s).n.Nodup := by
 have hc := glu_cong hs.uF hs.uH
 have hl := un_len s.b s.c
 have lF := hs.uF.ln
 have lf := hs.f.ln
 refine nodup_ix fun i j hi hj e => ?_
 rw [hs.k.ln] at hi hj
 rw [hs.kN hi, hs.kN hj] at e
 have e2 := (hc.iffN (i := s.b.n.length + i) (k := s.b.n.length + j) (by omega) (by omega)).1 e
 have := gen_inj (nb := s.b.n.length) (glu_prN hs.uF hs.uH) (fun t ht => by rw [(hs.fN (by omega)).1]; exact (hs.f.nd t (by omega)).1.2) (fun t ht => by rw [(hs.fN (by omega)).2]; have := (hs.g.nd t (by omega)).1.1; omega)
  (fun t u ht hu e => by rw [(hs.fN (by omega)).1, (hs.fN (by omega)).1] at e; exact gt_inj hn (by omega) (by omega) e) (x := s.b.n.length + i) (y := s.b.n.length + j) (by omega) (by omega) e2
 omega
theorem SOk.injE (hs : SOk s) (hn : s.f.e.Nodup) : (poK s).e.Nodup := by
 have hc := glu_cong hs.uF hs.uH
 have hl := un_len s.b s.c
 have lF := hs.uF.le
 have lf := hs.f.le
 refine nodup_ix fun i j hi hj e => ?_
 rw [hs.k.le] at hi hj
 rw [hs.kE hi, hs.kE hj] at e
 have e2 := (hc.iffE (i := s.b.e.length + i) (k := s.b.e.length + j) (by omega) (by omega)).1 e
 have := gen_inj (nb := s.b.e.length) (glu_prE hs.uF hs.uH) (fun t ht => by rw [(hs.fE (by omega)).1]; exact (hs.f.ed t (by omega)).1.2) (fun t ht => by rw [(hs.fE (by omega)).2]; have := (hs.g.ed t (by omega)).1.1; omega)
  (fun t u ht hu e => by rw [(hs.fE (by omega)).1, (hs.fE (by omega)).1] at e; exact gt_inj hn (by omega) (by omega) e) (x := s.b.e.length + i) (y := s.b.e.length + j) (by omega) (by omega) e2
 omega
theorem SOk.inj (hs : SOk s) (h : injM s.a s.b s.f = true) : injM s.c (poG s) (poK s) = true := by
 obtain ⟨h1, h2⟩ := (injM_ok hs.f).1 h
 exact (injM_ok hs.k).2 ⟨hs.injN h1, hs.injE h2⟩
end
structure PermI (q : List Int) (n : Nat) : Prop where
 l : q.length = n
 b : ∀ i : Nat, i < n → 0 ≤ gt q i ∧ gt q i < n
 j : ∀ i k : Nat, i < n → k < n → gt q i = gt q k → i = k
theorem PermI.of {l : List Int} {n : Nat} (h : l.Perm (nums 0 n)) : PermI l n := by
 have hl : l.length = n := by rw [h.length_eq, nums_len]
 have hn : l.Nodup := h.symm.nodup_iff.1 (nums_nodup n)
 exact ⟨hl, fun i hi => nums_mem.1 (h.mem_iff.1 (gt_mem (by omega) (by omega))), fun i k hi hk e => gt_inj hn (by omega) (by omega) e⟩
theorem PermI.nodup {l : List Int} {n : Nat} (h : PermI l n) : l.Nodup := nodup_ix fun i j hi hj e => h.j i j (by rw [← h.l]; exact hi) (by rw [← h.l]; exact hj) e
end
@[go_sem] def c_subgraph_Extract_r0 : LL := [qB 2 0,qB 3 1,qa 4 [.nl 1,.nl 3],qa 5 [.nl 1,.nl 1],qi 6 0]
@[go_sem] def c_subgraph_Extract_r1 (F : Fn) : LL := [qL 14 2 2,qL 15 2 3,qc 16 (F "subgraph.Valid") [.t 14,.t 15],qm 7 16]
@[go_sem] def c_subgraph_Extract_r2 : LL := [qm 17 7,qk .neq 18 17 0]
@[go_sem] def c_subgraph_Extract_r3 : LL := [qu 19 [.nl 1,.nl 3] [],qu 20 [.nl 1,.nl 1] [],qm 21 7,qs 2 4 19,qs 2 5 20,qm 6 21]
@[go_sem] def c_subgraph_Extract_r4 : LL := [qa 8 [.nl 1,.nl 3]]
@[go_sem] def c_subgraph_Extract_r5 : LL := [qf 22 0 3,ql 23 1 22,qz 24 23,qi 25 0]
@[go_sem] def c_subgraph_Extract_r6 : LL := [qo .lss 26 25 24]
@[go_sem] def c_subgraph_Extract_r7 : LL := [qd 27 1 23 25,ql 28 1 27,qm 10 28]
@[go_sem] def c_subgraph_Extract_r8 : LL := [qf 29 0 8,ql 30 1 29,qf 31 0 2,ql 32 1 31,qm 33 10,qd 34 1 32 33,ql 35 1 34,⟨some 36,.buildSl 1 8 (.int .i64 (0)) 1 [(0,.t 35)],none⟩,qp 37 1 8 30 36,qf 38 0 8,qs 1 38 37]
@[go_sem] def c_subgraph_Extract_r9 : LL := [qk .add 39 25 1,qm 25 39]
def c_subgraph_Extract_b10 : LC := (.seq (.reg c_subgraph_Extract_r6 [2,3,4,5,8,23,24,25,26]) (.seq (.cond (.t 26) .skip (.exit 0)) (.seq (.block 1 (.seq (.reg c_subgraph_Extract_r7 [2,3,4,5,8,10,23,24,25]) (.dreg [(1,none,[],true),(7,none,[1],false)] c_subgraph_Extract_r8 [2,3,4,5,8,23,24,25]))) (.reg c_subgraph_Extract_r9 [2,3,4,5,8,23,24,25]))))
@[go_sem] def c_subgraph_Extract_r11 : LL := [qf 40 1 3,ql 41 1 40,qz 42 41,qi 43 0]
@[go_sem] def c_subgraph_Extract_r12 : LL := [qo .lss 44 43 42]
@[go_sem] def c_subgraph_Extract_r13 : LL := [qd 45 1 41 43,ql 46 1 45,qm 12 46]
@[go_sem] def c_subgraph_Extract_r14 : LL := [qf 47 1 2,ql 48 1 47,qm 49 12,qd 50 3 48 49,qL 51 3 50,qa 13 [.int .i64 (0),.int .i64 (0),.int .i64 (0)],qs 3 13 51]
@[go_sem] def c_subgraph_Extract_r15 (F : Fn) : LL := [qf 53 0 3,ql 54 1 53,qf 55 1 13,ql 56 1 55,qc 57 (F "slices.BinarySearch.I") [.t 54,.t 56],qm 52 57,qx 58 52 0,qx 59 52 1,qf 60 1 13,qs 1 60 58]
@[go_sem] def c_subgraph_Extract_r16 (F : Fn) : LL := [qf 62 0 3,ql 63 1 62,qf 64 2 13,ql 65 1 64,qc 66 (F "slices.BinarySearch.I") [.t 63,.t 65],qm 61 66,qx 67 61 0,qx 68 61 1,qf 69 2 13,qs 1 69 67]
@[go_sem] def c_subgraph_Extract_r17 : LL := [qf 70 1 8,ql 71 1 70,qL 72 3 13,⟨some 73,.buildSl 3 24 (.agg [.int .i64 (0),.int .i64 (0),.int .i64 (0)]) 1 [(0,.t 72)],none⟩,qp 74 3 24 71 73,qf 75 1 8,qs 1 75 74]
@[go_sem] def c_subgraph_Extract_r18 : LL := [qk .add 76 43 1,qm 43 76]
def c_subgraph_Extract_b19 (F : Fn) : LC := (.seq (.reg c_subgraph_Extract_r12 [2,3,4,5,8,41,42,43,44]) (.seq (.cond (.t 44) .skip (.exit 2)) (.seq (.block 3 (.seq (.reg c_subgraph_Extract_r13 [2,3,4,5,8,12,41,42,43]) (.seq (.reg c_subgraph_Extract_r14 [2,3,4,5,8,13,41,42,43]) (.seq (.reg (c_subgraph_Extract_r15 F) [2,3,4,5,8,13,41,42,43]) (.seq (.reg (c_subgraph_Extract_r16 F) [2,3,4,5,8,13,41,42,43]) (.reg c_subgraph_Extract_r17 [2,3,4,5,8,41,42,43])))))) (.reg c_subgraph_Extract_r18 [2,3,4,5,8,41,42,43]))))
@[go_sem] def c_subgraph_Extract_r20 (F : Fn) : LL := [qL 77 2 8,qf 78 0 3,ql 79 1 78,qc 80 (F "slices.Clone.I") [.t 79],qf 81 1 3,ql 82 1 81,qc 83 (F "slices.Clone.I") [.t 82],qu 84 [.nl 1,.nl 1] [(0,1,.t 80),(1,1,.t 83)],qs 2 4 77,qs 2 5 84,qi 6 0]
@[go_sem] def c_subgraph_Extract (F : Fn) : LC := (.seq (.reg c_subgraph_Extract_r0 [2,3,4,5]) (.seq (.seq (.reg (c_subgraph_Extract_r1 F) [2,3,4,5,7]) (.seq (.reg c_subgraph_Extract_r2 [2,3,4,5,7,18]) (.cond (.t 18) (.seq (.reg c_subgraph_Extract_r3 [4,5,6]) .ret) .skip))) (.seq (.reg c_subgraph_Extract_r4 [2,3,4,5,8]) (.seq (.seq (.reg c_subgraph_Extract_r5 [2,3,4,5,8,23,24,25]) (.block 0 (.loop [2,3,4,5,8,23,24,25] c_subgraph_Extract_b10))) (.seq (.seq (.reg c_subgraph_Extract_r11 [2,3,4,5,8,41,42,43]) (.block 2 (.loop [2,3,4,5,8,41,42,43] (c_subgraph_Extract_b19 F)))) (.seq (.dreg [(0,none,[],true),(3,none,[0],true),(5,(some 16),[3],false),(6,none,[0],false)] (c_subgraph_Extract_r20 F) [4,5,6]) .ret))))))
def h_subgraph_Extract : Hints := hOf [] (c_subgraph_Extract fun _ => 0)
def exL (g : G) (pn pe : List Int) : List E := pe.map fun k => ⟨(gt g.e k).t, (cntB pn (gt g.e k).f : Int), (cntB pn (gt g.e k).o : Int)⟩
def ptG (g : G) (p : Mo) : G := ⟨thr p.n g.n, exL g p.n p.e⟩
def exR (g : G) (p : Mo) : G × Mo × Int := if validP g p ≠ 0 then (g0, m0, validP g p) else (ptG g p, p, 0)
section
variable (P : Program) (F : String → Nat)
def K_subgraph_Extract : Prop := ∀ (g : G) (p : Mo), p.sm → FC P (F "subgraph.Extract") [gD g, mD p] (.tup [gA (exR g p).1, mA (exR g p).2.1, .int .i64 (exR g p).2.2]) []
end
section
variable {P : Program} {F : String → Nat} {α : Type}
theorem exL_len (g : G) (pn pe : List Int) : (exL g pn pe).length = pe.length := by simp [exL]
theorem exL_step {g : G} {pn pe : List Int} {i : Nat} (h : i < pe.length) : exL g pn (pe.take (i + 1)) = exL g pn (pe.take i) ++ [⟨(gt g.e (gt pe i)).t, (cntB pn (gt g.e (gt pe i)).f : Int), (cntB pn (gt g.e (gt pe i)).o : Int)⟩] := by
 rw [take_gt h]; simp [exL]
theorem w_subgraph_Extract (hv : K_subgraph_Valid P F) (hb : K_slices_BinarySearch_I P F) (hc : K_slices_Clone_I P F) (g : G) (p : Mo) (h1 : p.sm) : W P (c_subgraph_Extract F) (Done [.c 4 true 2, .c 5 true 2, .t 6] [] (.tup [gA (exR g p).1, mA (exR g p).2.1, .int .i64 (exR g p).2.2]) []) (init [gD g, mD p]) := by
 refine W_of ?_
 have r1 := hv g p h1.1 h1.2
 have hR : exR g p = if validP g p ≠ 0 then (g0, m0, validP g p) else (ptG g p, p, 0) := rfl
 have h0 : validP g p = 0 → PK g p := fun h => validP_ok.1 h
 generalize validP g p = v at *
 rw [hR]
 clear hR
 obtain ⟨gn, ge⟩ := g
 obtain ⟨pn, pe⟩ := p
 simp only [gD, mD] at *
 simp (disch := omega) only [go_sem, ↓reduceIte]
 refine call_by r1 ?_
 simp (disch := omega) only [go_sem, ↓reduceIte]
 refine bran_ndec (fun c => ?_) (fun c => ?_)
 ·simp (disch := omega) only [go_sem, ↓reduceIte]
  simp [c, mA, gA, m0, g0, ints, eds]
 have hk := h0 c
 have hl := hk.len
 have hs := valid_spec hk.v
 rw [if_neg (by simp [c])]
 clear h0 r1
 simp only [ptG, gA, mA] at *
 have rb := fun x => hb pn x hk.n.p (by omega)
 simp (disch := omega) only [go_sem, ↓reduceIte]
 refine W_loop (fun i : Nat => ⟨[(2, .pt 0 0), (3, .pt 1 0), (4, .pt 4 0), (5, .pt 7 0), (8, .pt 10 0), (23, .lst 1 (ints pn)), (24, .int .i64 pn.length), (25, .int .i64 i)],
  [(0, .box [.lst 1 (ints gn), .lst 3 (eds ge)]), (1, .box [.lst 1 (ints pn), .lst 1 (ints pe)]), (2, .arr 1 []), (3, .arr 3 []), (4, .box [.sl 2 0 0, .sl 3 0 0]), (5, .arr 1 []), (6, .arr 1 []), (7, .box [.sl 5 0 0, .sl 6 0 0]),
   (8, .arr 1 (ints (thr (pn.take i) gn))), (9, .arr 3 []), (10, .box [.sl 8 0 i, .sl 9 0 0])], 11⟩) (fun i => i ≤ pn.length) (fun i => pn.length - i) 0 ?_ ?_ ?_
 ·simp (disch := omega) only [go_sem, ↓reduceIte]
  rfl
 ·simp
 ·intro i hi
  have tl : (thr (pn.take i) gn).length = i := by rw [thr_len, List.length_take]; omega
  by_cases e : i < pn.length
  ·have d1 : decide ((i : Int) < pn.length) = true := decide_eq_true (by omega)
   have hb1 := hk.n.b _ (gt_mem (l := pn) (j := (i : Int)) (by omega) (by omega))
   simp only at hb1
   have hst := thr_step (b := gn) e
   simp (disch := omega) only [go_sem, ↓reduceIte, c_subgraph_Extract_b10, d1, tl]
   exact ⟨i + 1, by simp [hst], by omega, by omega⟩
  ·have d1 : decide ((i : Int) < pn.length) = false := decide_eq_false (by omega)
   obtain rfl : i = pn.length := by omega
   rw [List.take_length] at tl
   simp (disch := omega) only [go_sem, ↓reduceIte, c_subgraph_Extract_b10, d1, tl]
   refine W_loop (fun i : Nat => ⟨[(2, .pt 0 0), (3, .pt 1 0), (4, .pt 4 0), (5, .pt 7 0), (8, .pt 10 0), (41, .lst 1 (ints pe)), (42, .int .i64 pe.length), (43, .int .i64 i)],
    [(0, .box [.lst 1 (ints gn), .lst 3 (eds ge)]), (1, .box [.lst 1 (ints pn), .lst 1 (ints pe)]), (2, .arr 1 []), (3, .arr 3 []), (4, .box [.sl 2 0 0, .sl 3 0 0]), (5, .arr 1 []), (6, .arr 1 []), (7, .box [.sl 5 0 0, .sl 6 0 0]),
     (8, .arr 1 (ints (thr pn gn))), (9, .arr 3 (eds (exL ⟨gn, ge⟩ pn (pe.take i)))), (10, .box [.sl 8 0 pn.length, .sl 9 0 i])], 11⟩) (fun i => i ≤ pe.length) (fun i => pe.length - i) 0 ?_ ?_ ?_
   ·simp (disch := omega) only [go_sem, ↓reduceIte]
    rfl
   ·simp
   ·intro i hi
    have el : (exL ⟨gn, ge⟩ pn (pe.take i)).length = i := by rw [exL_len, List.length_take]; omega
    by_cases e : i < pe.length
    ·have d1 : decide ((i : Int) < pe.length) = true := decide_eq_true (by omega)
     have hb1 := hk.e.b _ (gt_mem (l := pe) (j := (i : Int)) (by omega) (by omega))
     simp only at hb1
     have hst := exL_step (g := ⟨gn, ge⟩) (pn := pn) e
     simp only at hst
     have rf := rb (gt ge (gt pe i)).f
     have ro := rb (gt ge (gt pe i)).o
     simp (disch := omega) only [go_sem, ↓reduceIte, c_subgraph_Extract_b19, d1, el]
     refine call_by rf ?_
     simp (disch := omega) only [go_sem, ↓reduceIte]
     refine call_by ro ?_
     simp (disch := omega) only [go_sem, ↓reduceIte, el]
     exact ⟨i + 1, by simp [hst], by omega, by omega⟩
    ·have d1 : decide ((i : Int) < pe.length) = false := decide_eq_false (by omega)
     obtain rfl : i = pe.length := by omega
     rw [List.take_length] at el
     have rc1 := hc pn (by omega)
     have rc2 := hc pe (by omega)
     simp (disch := omega) only [go_sem, ↓reduceIte, c_subgraph_Extract_b19, d1, tl, el]
     refine call_by rc1 ?_
     simp (disch := omega) only [go_sem, ↓reduceIte]
     refine call_by rc2 ?_
     simp (disch := omega) only [go_sem, ↓reduceIte, tl, el]
     rfl
theorem cntB_ix {l : List Int} (h : l.Pairwise (· < ·)) {i : Nat} (hi : i < l.length) : cntB l (gt l i) = i :=
 (cntB_eq h (Nat.le_of_lt hi) (fun k hk => pair_gt h hk hi) fun k hk hk2 => by
  by_cases e : i = k
  ·rw [e]; omega
  ·have := pair_gt h (i := i) (j := k) (by omega) hk2; omega).1
theorem idx_asc {l : List Int} (h : l.Pairwise (· < ·)) {x : Int} (hx : x ∈ l) : idx (fun y => decide (x = y)) l 0 = cntB l x := by
 have hne : idx (fun y => decide (x = y)) l 0 ≠ -1 := fun e => by
  have := idx_none _ l 0 (by omega) e x hx
  simp at this
 obtain ⟨k, h1, h2, h3, _⟩ := idx_some _ l 0 hne
 have hk : x = gt l k := by simpa using h3
 rw [h1, hk, cntB_ix h h2]
 omega
end
section
variable (P : Program) (F : String → Nat)
end
section
variable {P : Program} {F : String → Nat} {α : Type}
theorem MOk.nb {a b : G} {m : Mo} (k : MOk a b m) : ∀ x ∈ m.n, 0 ≤ x ∧ x < b.n.length := fun x hx => by
 obtain ⟨i, hi, rfl⟩ := mem_gt hx
 exact (k.nd i (by have := k.ln; omega)).1
theorem MOk.eb {a b : G} {m : Mo} (k : MOk a b m) : ∀ x ∈ m.e, 0 ≤ x ∧ x < b.e.length := fun x hx => by
 obtain ⟨i, hi, rfl⟩ := mem_gt hx
 exact (k.ed i (by have := k.le; omega)).1
end
@[go_sem] def c_square_valid_r0 : LL := [qB 1 0,qi 2 0]
@[go_sem] def c_square_valid_r1 (F : Fn) : LL := [qf 6 0 1,qL 7 2 6,qf 8 2 1,qL 9 2 8,qf 10 8 1,qL 11 2 10,qc 12 (F "morphism.Valid") [.t 7,.t 9,.t 11],qm 3 12]
@[go_sem] def c_square_valid_r2 : LL := [qm 13 3,qk .neq 14 13 0]
@[go_sem] def c_square_valid_r3 : LL := [qm 15 3,qm 2 15]
@[go_sem] def c_square_valid_r4 (F : Fn) : LL := [qf 16 0 1,qL 17 2 16,qf 18 4 1,qL 19 2 18,qf 20 10 1,qL 21 2 20,qc 22 (F "morphism.Valid") [.t 17,.t 19,.t 21],qm 4 22]
@[go_sem] def c_square_valid_r5 : LL := [qm 23 4,qk .neq 24 23 0]
@[go_sem] def c_square_valid_r6 : LL := [qm 25 4,qm 2 25]
@[go_sem] def c_square_valid_r7 (F : Fn) : LL := [qf 26 2 1,qL 27 2 26,qf 28 6 1,qL 29 2 28,qf 30 12 1,qL 31 2 30,qc 32 (F "morphism.Valid") [.t 27,.t 29,.t 31],qm 5 32]
@[go_sem] def c_square_valid_r8 : LL := [qm 33 5,qk .neq 34 33 0]
@[go_sem] def c_square_valid_r9 : LL := [qm 35 5,qm 2 35]
@[go_sem] def c_square_valid_r10 (F : Fn) : LL := [qf 36 4 1,qL 37 2 36,qf 38 6 1,qL 39 2 38,qf 40 14 1,qL 41 2 40,qc 42 (F "morphism.Valid") [.t 37,.t 39,.t 41],qm 2 42]
@[go_sem] def c_square_valid (F : Fn) : LC := (.seq (.reg c_square_valid_r0 [1]) (.seq (.seq (.reg (c_square_valid_r1 F) [1,3]) (.seq (.reg c_square_valid_r2 [1,3,14]) (.cond (.t 14) (.seq (.reg c_square_valid_r3 [2]) .ret) .skip))) (.seq (.seq (.reg (c_square_valid_r4 F) [1,4]) (.seq (.reg c_square_valid_r5 [1,4,24]) (.cond (.t 24) (.seq (.reg c_square_valid_r6 [2]) .ret) .skip))) (.seq (.seq (.reg (c_square_valid_r7 F) [1,5]) (.seq (.reg c_square_valid_r8 [1,5,34]) (.cond (.t 34) (.seq (.reg c_square_valid_r9 [2]) .ret) .skip))) (.seq (.reg (c_square_valid_r10 F) [2]) .ret)))))
def h_square_valid : Hints := hOf [] (c_square_valid fun _ => 0)
@[go_sem] def c_square_follow_r0 : LL := [qn 4 1]
@[go_sem] def c_square_follow_r1 : LL := [qm 8 0,qz 9 8,⟨some 10,.makeSl 1 8 (.int .i64 (0)) (.t 9),none⟩,qm 5 10]
@[go_sem] def c_square_follow_r2 : LL := [qm 11 0,qz 12 11,qi 13 0]
@[go_sem] def c_square_follow_r3 : LL := [qo .lss 14 13 12]
@[go_sem] def c_square_follow_r4 : LL := [qm 15 13,qd 16 1 11 13,ql 17 1 16,qm 6 15,qm 7 17]
@[go_sem] def c_square_follow_r5 : LL := [qm 18 5,qm 19 6,qm 20 1,qm 21 7,qd 22 1 20 21,ql 23 1 22,qd 24 1 18 19,qs 1 24 23]
@[go_sem] def c_square_follow_r6 : LL := [qk .add 25 13 1,qm 13 25]
def c_square_follow_b7 : LC := (.seq (.reg c_square_follow_r3 [1,5,11,12,13,14]) (.seq (.cond (.t 14) .skip (.exit 0)) (.seq (.block 1 (.seq (.reg c_square_follow_r4 [1,5,6,7,11,12,13]) (.reg c_square_follow_r5 [1,5,11,12,13]))) (.reg c_square_follow_r6 [1,5,11,12,13]))))
@[go_sem] def c_square_follow_r8 : LL := [qm 26 5,qm 4 26]
@[go_sem] def c_square_follow (F : Fn) : LC := (.seq (.reg c_square_follow_r0 [0,1]) (.seq (.reg c_square_follow_r1 [0,1,5]) (.seq (.seq (.reg c_square_follow_r2 [1,5,11,12,13]) (.block 0 (.loop [1,5,11,12,13] c_square_follow_b7))) (.seq (.reg c_square_follow_r8 [4]) .ret))))
def h_square_follow : Hints := hOf [] (c_square_follow fun _ => 0)
@[go_sem] def c_square_then_r0 : LL := [qB 2 0,qB 3 1,qa 4 [.nl 1,.nl 1]]
@[go_sem] def c_square_then_r1 (F : Fn) : LL := [qf 5 0 2,ql 6 1 5,qf 7 0 3,ql 8 1 7,qc 9 (F "square.follow") [.t 6,.t 8],qf 10 1 2,ql 11 1 10,qf 12 1 3,ql 13 1 12,qc 14 (F "square.follow") [.t 11,.t 13],qu 15 [.nl 1,.nl 1] [(0,1,.t 9),(1,1,.t 14)],
 qs 2 4 15]
@[go_sem] def c_square_then (F : Fn) : LC := (.seq (.reg c_square_then_r0 [2,3,4]) (.seq (.dreg [(4,none,[],true),(6,(some 32),[4],false),(8,(some 128),[4],false)] (c_square_then_r1 F) [4]) .ret))
def h_square_then : Hints := hOf [] (c_square_then fun _ => 0)
@[go_sem] def c_square_commutes_r0 : LL := [qB 1 0,qb 2 false]
@[go_sem] def c_square_commutes_r1 (F : Fn) : LL := [qf 3 8 1,qL 4 2 3,qf 5 12 1,qL 6 2 5,qc 7 (F "square.then") [.t 4,.t 6],qf 8 10 1,qL 9 2 8,qf 10 14 1,qL 11 2 10,qc 12 (F "square.then") [.t 9,.t 11],qc 13 (F "morphism.Same") [.t 7,.t 12],qm 2 13]
@[go_sem] def c_square_commutes (F : Fn) : LC := (.seq (.reg c_square_commutes_r0 [1]) (.seq (.dreg [(4,none,[],true),(6,(some 32),[4],false),(8,(some 128),[4],false)] (c_square_commutes_r1 F) [2]) .ret))
def h_square_commutes : Hints := hOf [] (c_square_commutes fun _ => 0)
@[go_sem] def c_square_copied_r0 : LL := [qB 1 0,qa 2 [.nl 1,.nl 3]]
@[go_sem] def c_square_copied_r1 (F : Fn) : LL := [qf 3 0 1,ql 4 1 3,qc 5 (F "slices.Clone.I") [.t 4],qf 6 1 1,ql 7 1 6,qc 8 (F "slices.Clone.E") [.t 7],qu 9 [.nl 1,.nl 3] [(0,1,.t 5),(1,1,.t 8)],qs 2 2 9]
@[go_sem] def c_square_copied (F : Fn) : LC := (.seq (.reg c_square_copied_r0 [1,2]) (.seq (.dreg [(2,none,[],true),(4,(some 8),[2],false)] (c_square_copied_r1 F) [2]) .ret))
def h_square_copied : Hints := hOf [] (c_square_copied fun _ => 0)
@[go_sem] def c_square_arrow_r0 : LL := [qB 1 0,qa 2 [.nl 1,.nl 1]]
@[go_sem] def c_square_arrow_r1 (F : Fn) : LL := [qf 3 0 1,ql 4 1 3,qc 5 (F "slices.Clone.I") [.t 4],qf 6 1 1,ql 7 1 6,qc 8 (F "slices.Clone.I") [.t 7],qu 9 [.nl 1,.nl 1] [(0,1,.t 5),(1,1,.t 8)],qs 2 2 9]
@[go_sem] def c_square_arrow (F : Fn) : LC := (.seq (.reg c_square_arrow_r0 [1,2]) (.seq (.dreg [(2,none,[],true),(4,(some 8),[2],false)] (c_square_arrow_r1 F) [2]) .ret))
def h_square_arrow : Hints := hOf [] (c_square_arrow fun _ => 0)
structure Sq where
 a : G
 b : G
 c : G
 d : G
 f : Mo
 g : Mo
 h : Mo
 k : Mo
 deriving DecidableEq
def sqD (s : Sq) : D := .agg [.lst 1 (ints s.a.n), .lst 3 (eds s.a.e), .lst 1 (ints s.b.n), .lst 3 (eds s.b.e), .lst 1 (ints s.c.n), .lst 3 (eds s.c.e), .lst 1 (ints s.d.n), .lst 3 (eds s.d.e),
 .lst 1 (ints s.f.n), .lst 1 (ints s.f.e), .lst 1 (ints s.g.n), .lst 1 (ints s.g.e), .lst 1 (ints s.h.n), .lst 1 (ints s.h.e), .lst 1 (ints s.k.n), .lst 1 (ints s.k.e)]
def sqA (s : Sq) : D := .agg [.arr 1 (ints s.a.n), .arr 3 (eds s.a.e), .arr 1 (ints s.b.n), .arr 3 (eds s.b.e), .arr 1 (ints s.c.n), .arr 3 (eds s.c.e), .arr 1 (ints s.d.n), .arr 3 (eds s.d.e),
 .arr 1 (ints s.f.n), .arr 1 (ints s.f.e), .arr 1 (ints s.g.n), .arr 1 (ints s.g.e), .arr 1 (ints s.h.n), .arr 1 (ints s.h.e), .arr 1 (ints s.k.n), .arr 1 (ints s.k.e)]
def sq0 : Sq := ⟨g0, g0, g0, g0, m0, m0, m0, m0⟩
def Sq.dn (s : Sq) : Sp := ⟨s.a, s.b, s.c, s.f, s.g⟩
def Sq.up (s : Sq) : Cs := ⟨s.b, s.c, s.d, s.h, s.k⟩
def Sq.sm (s : Sq) : Prop := s.f.sm ∧ s.g.sm ∧ s.h.sm ∧ s.k.sm
def sqE (s : Sq) : Int := if validM s.a s.b s.f ≠ 0 then validM s.a s.b s.f else if validM s.a s.c s.g ≠ 0 then validM s.a s.c s.g else if validM s.b s.d s.h ≠ 0 then validM s.b s.d s.h else validM s.c s.d s.k
def comB (s : Sq) : Bool := decide (thenM s.f s.h = thenM s.g s.k)
section
variable (P : Program) (F : String → Nat)
def K_square_valid : Prop := ∀ s : Sq, FC P (F "square.valid") [sqD s] (.int .i64 (sqE s)) []
def K_square_follow : Prop := ∀ l b : List Int, l.length ≤ 1000000 → (∀ x ∈ l, 0 ≤ x ∧ x < b.length) → FC P (F "square.follow") [.lst 1 (ints l), .lst 1 (ints b)] (.arr 1 (ints (thr l b))) []
def K_square_then : Prop := ∀ m n : Mo, m.n.length ≤ 1000000 → m.e.length ≤ 1000000 → (∀ x ∈ m.n, 0 ≤ x ∧ x < n.n.length) → (∀ x ∈ m.e, 0 ≤ x ∧ x < n.e.length) → FC P (F "square.then") [mD m, mD n] (mA (thenM m n)) []
def K_square_commutes : Prop := ∀ s : Sq, sqE s = 0 → FC P (F "square.commutes") [sqD s] (.bool (comB s)) []
def K_square_copied : Prop := ∀ g : G, g.n.length ≤ 1000000 → g.e.length ≤ 1000000 → FC P (F "square.copied") [gD g] (gA g) []
def K_square_arrow : Prop := ∀ m : Mo, m.n.length ≤ 1000000 → m.e.length ≤ 1000000 → FC P (F "square.arrow") [mD m] (mA m) []
end
section
variable {P : Program} {F : String → Nat} {α : Type}
theorem w_square_valid (hv : K_morphism_Valid P F) (s : Sq) : W P (c_square_valid F) (Done [.t 2] [] (.int .i64 (sqE s)) []) (init [sqD s]) := by
 refine W_of ?_
 have r1 := hv s.a s.b s.f
 have r2 := hv s.a s.c s.g
 have r3 := hv s.b s.d s.h
 have r4 := hv s.c s.d s.k
 unfold sqE
 generalize validM s.a s.b s.f = v1 at *
 generalize validM s.a s.c s.g = v2 at *
 generalize validM s.b s.d s.h = v3 at *
 generalize validM s.c s.d s.k = v4 at *
 simp only [gD, mD, sqD] at *
 simp (disch := omega) only [go_sem, ↓reduceIte]
 refine call_by r1 ?_
 simp (disch := omega) only [go_sem, ↓reduceIte]
 refine bran_ndec (fun c => ?_) (fun c => ?_)
 ·simp (disch := omega) only [go_sem, ↓reduceIte]
  try rw [if_pos c]
 rw [if_neg (by simp [c])]
 simp (disch := omega) only [go_sem, ↓reduceIte]
 refine call_by r2 ?_
 simp (disch := omega) only [go_sem, ↓reduceIte]
 refine bran_ndec (fun c => ?_) (fun c => ?_)
 ·simp (disch := omega) only [go_sem, ↓reduceIte]
  try rw [if_pos c]
 rw [if_neg (by simp [c])]
 simp (disch := omega) only [go_sem, ↓reduceIte]
 refine call_by r3 ?_
 simp (disch := omega) only [go_sem, ↓reduceIte]
 refine bran_ndec (fun c => ?_) (fun c => ?_)
 ·simp (disch := omega) only [go_sem, ↓reduceIte]
  try rw [if_pos c]
 rw [if_neg (by simp [c])]
 simp (disch := omega) only [go_sem, ↓reduceIte]
 refine call_by r4 ?_
 simp (disch := omega) only [go_sem, ↓reduceIte]
structure QOk (s : Sq) : Prop where
 f : MOk s.a s.b s.f
 g : MOk s.a s.c s.g
 h : MOk s.b s.d s.h
 k : MOk s.c s.d s.k
theorem sqE_ok {s : Sq} : sqE s = 0 ↔ QOk s := by
 unfold sqE
 constructor
 ·intro h
  split at h
  ·rename_i c; exact absurd h c
  ·rename_i c1
   split at h
   ·rename_i c; exact absurd h c
   ·rename_i c2
    split at h
    ·rename_i c; exact absurd h c
    ·rename_i c3
     exact ⟨mok.1 (Decidable.not_not.1 c1), mok.1 (Decidable.not_not.1 c2), mok.1 (Decidable.not_not.1 c3), mok.1 h⟩
 ·intro h
  rw [if_neg (by simp [mok.2 h.f]), if_neg (by simp [mok.2 h.g]), if_neg (by simp [mok.2 h.h])]
  exact mok.2 h.k
theorem MOk.fit {a b c : G} {m n : Mo} (hm : MOk a b m) (hn : MOk b c n) : (m.n.length ≤ 40 ∧ m.e.length ≤ 80) ∧ (∀ x ∈ m.n, 0 ≤ x ∧ x < n.n.length) ∧ ∀ x ∈ m.e, 0 ≤ x ∧ x < n.e.length := by
 have := valid_spec hm.va
 have h1 := hm.ln
 have h2 := hm.le
 refine ⟨by omega, fun x hx => ?_, fun x hx => ?_⟩
 ·rw [hn.ln]; exact hm.nb x hx
 ·rw [hn.le]; exact hm.eb x hx
theorem w_square_follow (l b : List Int) (hl : l.length ≤ 1000000) (hb : ∀ x ∈ l, 0 ≤ x ∧ x < b.length) : W P (c_square_follow F) (Done [.t 4] [] (.arr 1 (ints (thr l b))) []) (init [.lst 1 (ints l), .lst 1 (ints b)]) := by
 refine W_of ?_
 simp (config := { maxSteps := 1000000 }) (disch := first | omega | (simp only [go_sem]; omega)) only [go_sem, ↓reduceIte]
 refine W_loop (fun i : Nat => ⟨[(1, .lst 1 (ints b)), (5, .sl 0 0 l.length), (11, .lst 1 (ints l)), (12, .int .i64 l.length), (13, .int .i64 i)], [(0, .arr 1 (ints (thr (l.take i) b ++ List.replicate (l.length - i) 0)))], 1⟩) (fun i => i ≤ l.length) (fun i => l.length - i) 0 ?_ ?_ ?_
 ·simp (config := { maxSteps := 1000000 }) (disch := first | omega | (simp only [go_sem]; omega)) only [go_sem, ↓reduceIte]
  rfl
 ·simp
 ·intro i hi
  have el : (thr (l.take i) b).length = i := by rw [thr_len]; simp; omega
  simp (config := { maxSteps := 1000000 }) (disch := first | omega | (simp only [go_sem]; omega)) only [go_sem, ↓reduceIte, c_square_follow_b7]
  refine bran_dec (fun c => ?_) (fun c => ?_)
  ·have hx := hb _ (gt_mem (l := l) (j := i) (by omega) (by omega))
   have hf : (thr (l.take i) b ++ List.replicate (l.length - i) 0).set i (gt b (gt l i)) = thr (l.take (i + 1)) b ++ List.replicate (l.length - (i + 1)) 0 := by
    have := fillL (thr (l.take i) b) (gt b (gt l i)) 0 (l.length - (i + 1))
    rw [el, show l.length - (i + 1) + 1 = l.length - i by omega] at this
    rw [this, thr_step (by omega)]
   simp (config := { maxSteps := 1000000 }) (disch := first | omega | (simp only [go_sem]; omega)) only [go_sem, ↓reduceIte, el, hf]
   exact ⟨i + 1, by simp, by omega, by omega⟩
  ·obtain rfl : i = l.length := by omega
   rw [List.take_length] at el
   simp (config := { maxSteps := 1000000 }) (disch := first | omega | (simp only [go_sem]; omega)) only [go_sem, ↓reduceIte, el]
   simp
theorem w_square_then (ht : K_square_follow P F) (m n : Mo) (h1 : m.n.length ≤ 1000000) (h2 : m.e.length ≤ 1000000) (h3 : ∀ x ∈ m.n, 0 ≤ x ∧ x < n.n.length) (h4 : ∀ x ∈ m.e, 0 ≤ x ∧ x < n.e.length) :
  W P (c_square_then F) (Done [.c 4 true 2] [] (mA (thenM m n)) []) (init [mD m, mD n]) := by
 refine W_of ?_
 obtain ⟨mn, me⟩ := m
 obtain ⟨nn, ne⟩ := n
 have r1 := ht mn nn h1 h3
 have r2 := ht me ne h2 h4
 simp (disch := omega) only [go_sem, ↓reduceIte, mD]
 refine call_by r1 ?_
 simp (disch := omega) only [go_sem, ↓reduceIte]
 refine call_by r2 ?_
 simp (disch := omega) only [go_sem, ↓reduceIte, mA, thenM]
theorem w_square_commutes (ht : K_square_then P F) (hs : K_morphism_Same P F) (s : Sq) (h0 : sqE s = 0) : W P (c_square_commutes F) (Done [.t 2] [] (.bool (comB s)) []) (init [sqD s]) := by
 refine W_of ?_
 have q := sqE_ok.1 h0
 have f1 := q.f.fit q.h
 have f2 := q.g.fit q.k
 have r1 := ht s.f s.h (by omega) (by omega) f1.2.1 f1.2.2
 have r2 := ht s.g s.k (by omega) (by omega) f2.2.1 f2.2.2
 have e1 : (thenM s.f s.h).n.length = s.f.n.length := thr_len _ _
 have e2 : (thenM s.f s.h).e.length = s.f.e.length := thr_len _ _
 have r3 := hs (thenM s.f s.h) (thenM s.g s.k) (by unfold maxL; omega) (by unfold maxL; omega)
 unfold comB
 clear e1 e2 f1 f2 q h0
 generalize thenM s.f s.h = x at *
 generalize thenM s.g s.k = y at *
 obtain ⟨xn, xe⟩ := x
 obtain ⟨yn, ye⟩ := y
 simp only [mA, mD, sqD] at *
 simp (disch := omega) only [go_sem, ↓reduceIte]
 refine call_by r1 ?_
 simp (disch := omega) only [go_sem, ↓reduceIte]
 refine call_by r2 ?_
 simp (disch := omega) only [go_sem, ↓reduceIte]
 refine call_by r3 ?_
 simp (disch := omega) only [go_sem, ↓reduceIte]
theorem w_square_copied (h1 : K_slices_Clone_I P F) (h2 : K_slices_Clone_E P F) (g : G) (l1 : g.n.length ≤ 1000000) (l2 : g.e.length ≤ 1000000) : W P (c_square_copied F) (Done [.c 2 true 2] [] (gA g) []) (init [gD g]) := by
 refine W_of ?_
 have r1 := h1 g.n (by omega)
 have r2 := h2 g.e (by omega)
 simp only [gD, gA]
 simp (disch := omega) only [go_sem, ↓reduceIte]
 refine call_by r1 ?_
 simp (disch := omega) only [go_sem, ↓reduceIte]
 refine call_by r2 ?_
 simp (disch := omega) only [go_sem, ↓reduceIte]
 try rfl
theorem w_square_arrow (h1 : K_slices_Clone_I P F) (m : Mo) (l1 : m.n.length ≤ 1000000) (l2 : m.e.length ≤ 1000000) : W P (c_square_arrow F) (Done [.c 2 true 2] [] (mA m) []) (init [mD m]) := by
 refine W_of ?_
 have r1 := h1 m.n (by omega)
 have r2 := h1 m.e (by omega)
 simp only [mD, mA]
 simp (disch := omega) only [go_sem, ↓reduceIte]
 refine call_by r1 ?_
 simp (disch := omega) only [go_sem, ↓reduceIte]
 refine call_by r2 ?_
 simp (disch := omega) only [go_sem, ↓reduceIte]
 try rfl
end
@[go_sem] def c_square_Kind_r0 : LL := [qB 1 0,qi 2 0,qi 3 0]
@[go_sem] def c_square_Kind_r1 (F : Fn) : LL := [qL 16 16 1,qc 17 (F "square.valid") [.t 16],qm 4 17]
@[go_sem] def c_square_Kind_r2 : LL := [qm 18 4,qk .neq 19 18 0]
@[go_sem] def c_square_Kind_r3 : LL := [qm 20 4,qi 2 0,qm 3 20]
@[go_sem] def c_square_Kind_r4 (F : Fn) : LL := [qL 21 16 1,qc 22 (F "square.commutes") [.t 21],qv 23 22]
@[go_sem] def c_square_Kind_r5 : LL := [qi 2 0,qi 3 0]
@[go_sem] def c_square_Kind_r6 : LL := [qf 24 0 1,qL 25 2 24,qf 26 2 1,qL 27 2 26,qf 28 4 1,qL 29 2 28,qf 30 8 1,qL 31 2 30,qf 32 10 1,qL 33 2 32,
 qu 34 [.nl 1,.nl 3,.nl 1,.nl 3,.nl 1,.nl 3,.nl 1,.nl 1,.nl 1,.nl 1] [(0,2,.t 25),(2,2,.t 27),(4,2,.t 29),(6,2,.t 31),(8,2,.t 33)],
 qa 5 [.nl 1,.nl 3,.nl 1,.nl 3,.nl 1,.nl 3,.nl 1,.nl 1,.nl 1,.nl 1],qs 10 5 34]
@[go_sem] def c_square_Kind_r7 : LL := [qf 35 2 1,qL 36 2 35,qf 37 4 1,qL 38 2 37,qf 39 6 1,qL 40 2 39,qf 41 12 1,qL 42 2 41,qf 43 14 1,qL 44 2 43,
 qu 45 [.nl 1,.nl 3,.nl 1,.nl 3,.nl 1,.nl 3,.nl 1,.nl 1,.nl 1,.nl 1] [(0,2,.t 36),(2,2,.t 38),(4,2,.t 40),(6,2,.t 42),(8,2,.t 44)],
 qa 6 [.nl 1,.nl 3,.nl 1,.nl 3,.nl 1,.nl 3,.nl 1,.nl 1,.nl 1,.nl 1],qs 10 6 45]
@[go_sem] def c_square_Kind_r8 (F : Fn) : LL := [qL 47 10 5,qc 48 (F "pushout.Of") [.t 47],qm 46 48,qx 49 46 0,qx 50 46 1,qx 51 46 2,qx 52 46 3,qa 7 [.nl 1,.nl 3],qa 8 [.nl 1,.nl 1],qa 9 [.nl 1,.nl 1],qs 2 7 49,qs 2 8 50,qs 2 9 51,
 qm 10 52]
@[go_sem] def c_square_Kind_r9 : LL := [qm 53 10,qk .neq 54 53 0]
@[go_sem] def c_square_Kind_r10 : LL := [qm 55 10,qi 2 0,qm 3 55]
@[go_sem] def c_square_Kind_r11 (F : Fn) : LL := [qL 57 10 6,qc 58 (F "pullback.Of") [.t 57],qm 56 58,qx 59 56 0,qx 60 56 1,qx 61 56 2,qx 62 56 3,qa 11 [.nl 1,.nl 3],qa 12 [.nl 1,.nl 1],qa 13 [.nl 1,.nl 1],qs 2 11 59,qs 2 12 60,qs 2 13 61,
 qm 14 62]
@[go_sem] def c_square_Kind_r12 : LL := [qm 63 14,qk .neq 64 63 0]
@[go_sem] def c_square_Kind_r13 : LL := [qm 65 14,qi 2 0,qm 3 65]
@[go_sem] def c_square_Kind_r14 : LL := [qi 15 0]
@[go_sem] def c_square_Kind_r15 (F : Fn) : LL := [qL 66 10 5,qf 67 6 1,qL 68 2 67,qf 69 12 1,qL 70 2 69,qf 71 14 1,qL 72 2 71,qc 73 (F "pushout.Check") [.t 66,.t 68,.t 70,.t 72]]
@[go_sem] def c_square_Kind_r16 : LL := [qm 74 15,qk .add 75 74 1,qm 15 75]
@[go_sem] def c_square_Kind_r17 (F : Fn) : LL := [qL 76 10 6,qf 77 0 1,qL 78 2 77,qf 79 8 1,qL 80 2 79,qf 81 10 1,qL 82 2 81,qc 83 (F "pullback.Check") [.t 76,.t 78,.t 80,.t 82]]
@[go_sem] def c_square_Kind_r18 : LL := [qm 84 15,qk .add 85 84 2,qm 15 85]
@[go_sem] def c_square_Kind_r19 : LL := [qm 86 15,qm 2 86,qi 3 0]
@[go_sem] def c_square_Kind (F : Fn) : LC := (.seq (.reg c_square_Kind_r0 [1]) (.seq (.seq (.reg (c_square_Kind_r1 F) [1,4]) (.seq (.reg c_square_Kind_r2 [1,4,19]) (.cond (.t 19) (.seq (.reg c_square_Kind_r3 [2,3]) .ret) .skip))) (.seq (.seq (.reg (c_square_Kind_r4 F) [1,23]) (.cond (.t 23) (.seq (.reg c_square_Kind_r5 [2,3]) .ret) .skip)) (.seq (.reg c_square_Kind_r6 [1,5]) (.seq (.reg c_square_Kind_r7 [1,5,6]) (.seq (.seq (.reg (c_square_Kind_r8 F) [1,5,6,10]) (.seq (.reg c_square_Kind_r9 [1,5,6,10,54]) (.cond (.t 54) (.seq (.reg c_square_Kind_r10 [2,3]) .ret) .skip))) (.seq (.seq (.reg (c_square_Kind_r11 F) [1,5,6,14]) (.seq (.reg c_square_Kind_r12 [1,5,6,14,64]) (.cond (.t 64) (.seq (.reg c_square_Kind_r13 [2,3]) .ret) .skip))) (.seq (.reg c_square_Kind_r14 [1,5,6,15]) (.seq (.seq (.reg (c_square_Kind_r15 F) [1,6,15,73]) (.cond (.t 73) (.reg c_square_Kind_r16 [1,6,15]) .skip)) (.seq (.seq (.reg (c_square_Kind_r17 F) [15,83]) (.cond (.t 83) (.reg c_square_Kind_r18 [15]) .skip)) (.seq (.reg c_square_Kind_r19 [2,3]) .ret)))))))))))
def h_square_Kind : Hints := hOf [] (c_square_Kind fun _ => 0)
def kindV (s : Sq) : Int := (if chkP s.dn s.d s.h s.k = true then 1 else 0) + (if checkM s.up s.a s.f s.g = true then 2 else 0)
def kindR (s : Sq) : Int × Int := if sqE s ≠ 0 then (0, sqE s) else if comB s = false then (0, 0) else if poErr s.dn ≠ 0 then (0, poErr s.dn) else if pbErr s.up ≠ 0 then (0, pbErr s.up) else (kindV s, 0)
def pasS (s t : Sq) : Sq := ⟨s.a, t.b, s.c, t.d, thenM s.f t.f, s.g, t.h, thenM s.k t.k⟩
section
variable (P : Program) (F : String → Nat)
def K_square_Kind : Prop := ∀ s : Sq, FC P (F "square.Kind") [sqD s] (.tup [.int .i64 (kindR s).1, .int .i64 (kindR s).2]) []
end
section
variable {P : Program} {F : String → Nat} {α : Type}
set_option maxHeartbeats 1000000 in
theorem w_square_Kind (hv : K_square_valid P F) (hc : K_square_commutes P F) (ho : K_pushout_Of P F) (hb : K_pullback_Of P F) (h1 : K_pushout_Check P F) (h2 : K_pullback_Check P F) (s : Sq) : W P (c_square_Kind F) (Done [.t 2, .t 3] [] (.tup [.int .i64 (kindR s).1, .int .i64 (kindR s).2]) []) (init [sqD s]) := by
 refine W_of ?_
 have r1 := hv s
 have r2 := hc s
 have r3 := ho s.dn
 have r4 := hb s.up
 have r5 := h1 s.dn s.d s.h s.k
 have r6 := h2 s.up s.a s.f s.g
 have e3 : (poR s.dn).2.2.2 = poErr s.dn := by unfold poR; split <;> simp_all
 unfold kindR kindV
 generalize sqE s = v1 at *
 generalize comB s = v2 at *
 generalize chkP s.dn s.d s.h s.k = v5 at *
 generalize checkM s.up s.a s.f s.g = v6 at *
 generalize poErr s.dn = v3 at *
 generalize pbErr s.up = v4 at *
 generalize poR s.dn = R at *
 generalize pbG s.up = pg at *
 generalize pbP s.up = pp at *
 generalize pbQ s.up = pq at *
 obtain ⟨⟨rn, re⟩, ⟨an, ae⟩, ⟨bn, be⟩, v⟩ := R
 simp only at e3
 subst e3
 simp only [gD, mD, gA, mA, sqD, spD, csD, poD, Sq.dn, Sq.up] at *
 simp (disch := omega) only [go_sem, ↓reduceIte]
 refine call_by r1 ?_
 simp (disch := omega) only [go_sem, ↓reduceIte]
 refine bran_ndec (fun c => ?_) (fun c => ?_)
 ·simp (disch := omega) only [go_sem, ↓reduceIte]
  try simp [c]
 rw [if_neg (by simp [c])]
 have r2 := r2 c
 cases v2
 ·simp (disch := omega) only [go_sem, ↓reduceIte]
  refine call_by r2 ?_
  simp (disch := omega) only [go_sem, ↓reduceIte]
  try simp
 rw [if_neg (by simp)]
 simp (disch := omega) only [go_sem, ↓reduceIte]
 refine call_by r2 ?_
 simp (disch := omega) only [go_sem, ↓reduceIte]
 refine call_by r3 ?_
 simp (disch := omega) only [go_sem, ↓reduceIte]
 refine bran_ndec (fun c => ?_) (fun c => ?_)
 ·simp (disch := omega) only [go_sem, ↓reduceIte]
  try simp [c]
 rw [if_neg (by simp [c])]
 simp (disch := omega) only [go_sem, ↓reduceIte]
 refine call_by r4 ?_
 simp (disch := omega) only [go_sem, ↓reduceIte]
 refine bran_ndec (fun c => ?_) (fun c => ?_)
 ·simp (disch := omega) only [go_sem, ↓reduceIte]
  try simp [c]
 rw [if_neg (by simp [c])]
 simp (disch := omega) only [go_sem, ↓reduceIte]
 refine call_by r5 ?_
 cases v5 <;> cases v6
 all_goals
  simp (disch := omega) only [go_sem, ↓reduceIte]
  refine call_by r6 ?_
  simp (disch := omega) only [go_sem, ↓reduceIte]
  try simp
end
end Go.Am
