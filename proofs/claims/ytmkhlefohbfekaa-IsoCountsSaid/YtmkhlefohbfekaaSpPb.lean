/- Searching and joining lists of lists; the colours of signs: the program's walks. -/
import Derived.Test.YtmkhlefohbfekaaSpPa
namespace Go.Am
open Go
set_option linter.unusedVariables false
set_option linter.unusedSimpArgs false
attribute [local irreducible] W
@[go_sem] def c_iso_colour_r0 : LL := [qn 2 1,qi 3 0]
@[go_sem] def c_iso_colour_r1 (F : Fn) : LL := [qm 10 0,qc 11 (F "slices.Clone.int3") [.t 10],qm 4 11]
@[go_sem] def c_iso_colour_r2 (F : Fn) : LL := [qm 12 4,⟨some 13,.call (F "slices.SortFunc.int3") [.t 12,.k (.clo (F "slices.Compare.I") [])] [.mu,.rd],none⟩]
@[go_sem] def c_iso_colour_r3 (F : Fn) : LL := [qm 14 4,⟨some 15,.call (F "slices.CompactFunc.int3") [.t 14,.k (.clo (F "slices.Equal.I") [])] [.ow,.rd],none⟩,qm 4 15]
@[go_sem] def c_iso_colour_r4 : LL := [qn 5 1]
@[go_sem] def c_iso_colour_r5 : LL := [qm 16 0,qz 17 16,qi 18 0]
@[go_sem] def c_iso_colour_r6 : LL := [qo .lss 19 18 17]
@[go_sem] def c_iso_colour_r7 : LL := [qd 20 1 16 18,ql 21 1 20,qm 7 21]
@[go_sem] def c_iso_colour_r8 (F : Fn) : LL := [qm 23 4,qm 24 7,⟨some 25,.call (F "slices.BinarySearchFunc.int4") [.t 23,.t 24,.k (.clo (F "slices.Compare.I") [])] [],none⟩,qm 22 25,qx 26 22 0,qx 27 22 1,qm 8 26,qm 9 27]
@[go_sem] def c_iso_colour_r9 : LL := [qm 28 5,qm 29 8,⟨some 30,.buildSl 1 8 (.int .i64 (0)) 1 [(0,.t 29)],none⟩,qp 31 1 8 28 30,qm 5 31]
@[go_sem] def c_iso_colour_r10 : LL := [qk .add 32 18 1,qm 18 32]
def c_iso_colour_b11 (F : Fn) : LC := (.seq (.reg c_iso_colour_r6 [4,5,16,17,18,19]) (.seq (.cond (.t 19) .skip (.exit 0)) (.seq (.block 1 (.seq (.reg c_iso_colour_r7 [4,5,7,16,17,18]) (.seq (.reg (c_iso_colour_r8 F) [4,5,8,16,17,18]) (.reg c_iso_colour_r9 [4,5,16,17,18])))) (.reg c_iso_colour_r10 [4,5,16,17,18]))))
@[go_sem] def c_iso_colour_r12 : LL := [qm 33 5,qm 34 4,qz 35 34,qm 2 33,qm 3 35]
@[go_sem] def c_iso_colour (F : Fn) : LC := (.seq (.reg c_iso_colour_r0 [0]) (.seq (.reg (c_iso_colour_r1 F) [0,4]) (.seq (.reg (c_iso_colour_r2 F) [0,4]) (.seq (.reg (c_iso_colour_r3 F) [0,4]) (.seq (.reg c_iso_colour_r4 [0,4,5]) (.seq (.seq (.reg c_iso_colour_r5 [4,5,16,17,18]) (.block 0 (.loop [4,5,16,17,18] (c_iso_colour_b11 F)))) (.seq (.reg c_iso_colour_r12 [2,3]) .ret)))))))
def h_iso_colour : Hints := hOf [] (c_iso_colour fun _ => 0)
def insL (l : List (List Int)) (x : List Int) : List (List Int) := match l with
 | [] => [x]
 | y :: l => if scmp x y < 0 then x :: y :: l else y :: insL l x
def sortL : List (List Int) → List (List Int)
 | [] => []
 | x :: l => insL (sortL l) x
def dstL (l : List (List Int)) : List (List Int) := cptL (sortL l)
def colL (l : List (List Int)) : List Int := l.map fun s => (below (dstL l) s : Int)
section
variable (P : Program) (F : String → Nat)
def K_iso_colour : Prop := ∀ l : List (List Int), l.length ≤ 1000000 → (∀ x ∈ l, x.length ≤ 1000000) → FC P (F "iso.colour") [.lst 1 (iis l)] (.tup [.arr 1 (ints (colL l)), .int .i64 (dstL l).length]) []
end
section
variable {α : Type}
theorem insL_perm : ∀ (l : List (List Int)) (x : List Int), (insL l x).Perm (x :: l)
 | [], x => .refl _
 | y :: l, x => by
  simp only [insL]
  split
  ·exact .refl _
  ·exact ((insL_perm l x).cons y).trans (.swap x y l)
theorem insL_sorted : ∀ {l : List (List Int)} {x : List Int}, l.Pairwise (fun a b => scmp a b ≤ 0) → (insL l x).Pairwise (fun a b => scmp a b ≤ 0)
 | [], x, _ => by simp [insL]
 | y :: l, x, h => by
  rw [List.pairwise_cons] at h
  simp only [insL]
  split
  ·rename_i hx
   rw [List.pairwise_cons, List.pairwise_cons]
   refine ⟨fun z hz => ?_, h⟩
   rcases List.mem_cons.1 hz with rfl | hz
   ·omega
   ·have := scmp_cmp.lt_le hx (h.1 z hz); omega
  ·rename_i hx
   rw [List.pairwise_cons]
   refine ⟨fun z hz => ?_, insL_sorted h.2⟩
   have hz := (insL_perm l x).mem_iff.1 hz
   rcases List.mem_cons.1 hz with rfl | hz
   ·have := scmp_neg y z; omega
   ·exact h.1 z hz
theorem sortL_perm : ∀ l : List (List Int), (sortL l).Perm l
 | [] => .refl _
 | x :: l => (insL_perm _ x).trans ((sortL_perm l).cons x)
theorem sortL_sorted : ∀ l : List (List Int), (sortL l).Pairwise (fun a b => scmp a b ≤ 0)
 | [] => .nil
 | x :: l => insL_sorted (sortL_sorted l)
theorem dstL_mem {l : List (List Int)} {x : List Int} : x ∈ dstL l ↔ x ∈ l := by
 rw [dstL, cptL_mem, (sortL_perm l).mem_iff]
theorem dstL_strict (l : List (List Int)) : (dstL l).Pairwise (fun a b => scmp a b < 0) := cptL_strict (sortL_sorted l)
theorem dstL_len (l : List (List Int)) : (dstL l).length ≤ l.length := by
 have := cptL_len (sortL l)
 rw [(sortL_perm l).length_eq] at this
 exact this
theorem colL_length (l : List (List Int)) : (colL l).length = l.length := by simp [colL]
end
section
variable {P : Program} {F : String → Nat} {α : Type}
theorem FC.nl {P : Program} {f a b : Nat} {args : List D} {r : D} {outs : List (Nat × D)} (h : FC P f (.nl a :: args) r outs) : FC P f (.nl b :: args) r outs := by
 unfold FC at *
 simp only [DRs, DR] at *
 exact h
theorem half_nat (a b : Nat) : ((a + b : Nat) : Int).fdiv (2 ^ (min (Int.toNat 1) 64)) = ((a + b) / 2 : Nat) := by
 simp only [Int.toNat_one]
 rw [show min 1 64 = 1 from rfl, Int.pow_one, Int.fdiv_eq_ediv_of_nonneg _ (by omega)]
 omega
theorem w_slices_BinarySearchFunc_int4 (S : List (List Int)) (t : List Int) (g : Nat) (hl : S.length ≤ 1000000) (hs : S.Pairwise (fun a b => scmp a b < 0)) (hg : ∀ x ∈ S, FC P g [.lst 1 (ints x), .lst 1 (ints t)] (.int .i64 (scmp x t)) []) :
  W P (c_slices_BinarySearchFunc_int4 F) (Done [.t 6, .t 7] [] (.tup [.int .i64 (below S t), .bool (decide (t ∈ S))]) []) (init [.lst 1 (iis S), .lst 1 (ints t), .clo g []]) := by
 refine W_of ?_
 have hb := below_split hs t
 have hle := below_le S t
 simp (disch := omega) only [go_sem, ↓reduceIte]
 refine W_loop (fun s : Nat × Nat => ⟨[(0, .lst 1 (iis S)), (1, .lst 1 (ints t)), (2, .clo g []), (8, .int .i64 S.length), (9, .int .i64 s.1), (10, .int .i64 s.2)], [], 0⟩) (fun s => s.1 ≤ below S t ∧ below S t ≤ s.2 ∧ s.2 ≤ S.length) (fun s => s.2 - s.1) (0, S.length) ?_ ?_ ?_
 ·simp (disch := omega) only [go_sem, ↓reduceIte]
  rfl
 ·exact ⟨by simp, hle, Nat.le_refl _⟩
 ·rintro ⟨i, j⟩ ⟨h1, h2, h3⟩
  simp only at h1 h2 h3
  simp (disch := omega) only [go_sem, ↓reduceIte, c_slices_BinarySearchFunc_int4_b8]
  refine bran_dec (fun c => ?_) (fun c => ?_)
  ·have e1 : IntKind.u64.wrap ((i : Int) + j) = ((i + j : Nat) : Int) := by
    have : IntKind.u64.wrap ((i : Int) + j) = ((i : Int) + j) % 18446744073709551616 := rfl
    rw [this]; omega
   have e2 := half_nat i j
   have e0 : ((1 : Int) < 0) = False := by simp
   obtain ⟨m, hm⟩ : ∃ m, m = (i + j) / 2 := ⟨_, rfl⟩
   rw [← hm] at e2
   rw [Int.toNat_one] at e2
   have m1 : i ≤ m := by omega
   have m2 : m < j := by omega
   have rg := hg _ (gt_mem (l := S) (j := (m : Int)) (by omega) (by omega))
   have hbm := hb m (by omega)
   generalize scmp (gt S (m : Int)) t = z at *
   clear hm
   simp (disch := omega) only [go_sem, ↓reduceIte, e1, e2, e0]
   refine call_by rg ?_
   simp (disch := omega) only [go_sem, ↓reduceIte]
   refine bran_dec (fun d => ?_) (fun d => ?_)
   ·have := hbm.1 d
    simp (disch := omega) only [go_sem, ↓reduceIte]
    exact ⟨(m + 1, j), by simp, ⟨by simp only; omega, h2, h3⟩, by simp only; omega⟩
   ·have : ¬ m < below S t := fun h => d (hbm.2 h)
    simp (disch := omega) only [go_sem, ↓reduceIte]
    exact ⟨(i, m), by simp, ⟨h1, by simp only; omega, by simp only; omega⟩, by simp only; omega⟩
  ·obtain rfl : i = below S t := by omega
   have hmem : (t ∈ S ↔ below S t < S.length ∧ scmp (gt S (below S t : Int)) t = 0) := by
    constructor
    ·intro ht
     obtain ⟨k, hk, rfl⟩ := List.mem_iff_getElem.1 ht
     have hk2 : ¬ k < below S S[k] := fun h => by
      have := (hb k hk).2 h
      rw [gt_nat hk, scmp_self] at this
      omega
     have hb2 : ¬ below S S[k] < k := fun h => by
      have h3 := hb (below S S[k]) (by omega)
      have h4 : ¬ scmp (gt S (below S S[k] : Int)) S[k] < 0 := fun h => by have := h3.1 h; omega
      rw [gt_nat (by omega)] at h4
      rw [List.pairwise_iff_getElem] at hs
      exact h4 (hs _ _ (by omega) hk h)
     have e : below S S[k] = k := by omega
     rw [e, gt_nat hk]
     exact ⟨hk, scmp_self _⟩
    ·rintro ⟨h, e⟩
     rw [gt_nat h] at e
     rw [← scmp_eq _ _ e]
     exact List.getElem_mem _
   simp (disch := omega) only [go_sem, ↓reduceIte]
   refine bran_dec (fun d => ?_) (fun d => ?_)
   ·have rg := hg _ (gt_mem (l := S) (j := (below S t : Int)) (by omega) (by omega))
    have hz : decide (t ∈ S) = decide (scmp (gt S (below S t : Int)) t = 0) := by
     rw [decide_eq_decide, hmem]
     exact ⟨fun h => h.2, fun h => ⟨by omega, h⟩⟩
    rw [hz]
    generalize scmp (gt S (below S t : Int)) t = z at *
    have d1 : decide ((below S t : Int) < S.length) = true := decide_eq_true d
    simp (disch := omega) only [go_sem, ↓reduceIte, d1]
    refine call_by rg ?_
    simp (disch := omega) only [go_sem, ↓reduceIte]
   ·have hz : decide (t ∈ S) = false := decide_eq_false fun h => d (by have := (hmem.1 h).1; omega)
    have d1 : decide ((below S t : Int) < S.length) = false := decide_eq_false d
    rw [hz]
    simp (disch := omega) only [go_sem, ↓reduceIte, d1]
theorem w_slices_Grow_I (n : Nat) (hn : n ≤ 10000000000000) : W P (c_slices_Grow_I F) (Done [.t 4] [] (.arr 1 []) []) (init [.nl 1, .int .i64 n]) := by
 refine W_of ?_
 simp (disch := omega) only [go_sem, ↓reduceIte]
 refine bran_dec (fun c => ?_) (fun c => ?_)
 ·omega
 ·simp (disch := omega) only [go_sem, ↓reduceIte]
  refine bran_dec (fun c => ?_) (fun c => ?_)
  ·simp (disch := omega) only [go_sem, ↓reduceIte]
   rw [if_neg (by omega)]
   rfl
  ·simp (disch := omega) only [go_sem, ↓reduceIte]
theorem flat_take {l : List (List Int)} {i : Nat} (h : i < l.length) : (l.take (i + 1)).flatten = (l.take i).flatten ++ gt l (i : Int) := by
 rw [take_gt h, List.flatten_append]
 simp
theorem flat_len {l : List (List Int)} {n : Nat} (h : ∀ x ∈ l, x.length ≤ n) : l.flatten.length ≤ l.length * n := by
 induction l with
 | nil => simp
 | cons a l ih =>
  have h1 := h a (by simp)
  have h2 := ih fun x hx => h x (by simp [hx])
  simp only [List.flatten_cons, List.length_append, List.length_cons]
  rw [Nat.add_mul]; omega
theorem w_slices_Concat_I (hg : K_slices_Grow_I P F) (l : List (List Int)) (hl : l.length ≤ 1000000) (hx : ∀ x ∈ l, x.length ≤ 1000000) : W P (c_slices_Concat_I F) (Done [.t 2] [] (.arr 1 (ints l.flatten)) []) (init [.lst 1 (iis l)]) := by
 refine W_of ?_
 have hb : ∀ i, i ≤ l.length → (l.take i).flatten.length ≤ 1000000000000 := fun i hi => by
  have h1 := flat_len (l := l.take i) (n := 1000000) fun x h => hx x (List.mem_of_mem_take h)
  have h2 : (l.take i).length ≤ 1000000 := by simp; omega
  have := Nat.mul_le_mul_right 1000000 h2
  omega
 have hx1 : ∀ i : Nat, i < l.length → (gt l (i : Int)).length ≤ 1000000 := fun i hi => hx _ (gt_mem (by omega) (by omega))
 simp (disch := omega) only [go_sem, ↓reduceIte]
 refine W_loop (fun i : Nat => ⟨[(0, .lst 1 (iis l)), (3, .int .i64 (l.take i).flatten.length), (9, .lst 1 (iis l)), (10, .int .i64 l.length), (11, .int .i64 i)], [], 0⟩) (fun i => i ≤ l.length) (fun i => l.length - i) 0 ?_ ?_ ?_
 ·simp (disch := omega) only [go_sem, ↓reduceIte]
  rfl
 ·omega
 ·intro i hi
  have hbi := hb i hi
  simp (disch := omega) only [go_sem, ↓reduceIte, c_slices_Concat_I_b9]
  refine bran_dec (fun c => ?_) (fun c => ?_)
  ·have h1 := hx1 i (by omega)
   have h2 := flat_take (l := l) (i := i) (by omega)
   have h3 : (l.take (i + 1)).flatten.length = (l.take i).flatten.length + (gt l (i : Int)).length := by rw [h2, List.length_append]
   generalize (l.take i).flatten.length = n at *
   simp (disch := omega) only [go_sem, ↓reduceIte]
   refine bran_dec (fun c => by omega) (fun c => ?_)
   simp (disch := omega) only [go_sem, ↓reduceIte]
   exact ⟨i + 1, by simp [h3], by omega, by omega⟩
  ·obtain rfl : i = l.length := by omega
   have r := FC.nl (b := 0) (hg (l.take l.length).flatten.length (by omega))
   generalize (l.take l.length).flatten.length = n at *
   simp (disch := omega) only [go_sem, ↓reduceIte]
   refine call_by r ?_
   simp (disch := omega) only [go_sem, ↓reduceIte]
   refine W_loop (fun i : Nat => ⟨[(6, .sl 0 0 (l.take i).flatten.length), (25, .lst 1 (iis l)), (26, .int .i64 l.length), (27, .int .i64 i)], [(0, .arr 1 (ints (l.take i).flatten))], 1⟩) (fun i => i ≤ l.length) (fun i => l.length - i) 0 ?_ ?_ ?_
   ·simp (disch := omega) only [go_sem, ↓reduceIte]
    rfl
   ·omega
   ·intro i hi
    have hbi := hb i hi
    simp (disch := omega) only [go_sem, ↓reduceIte, c_slices_Concat_I_b16]
    refine bran_dec (fun c => ?_) (fun c => ?_)
    ·have h1 := hx1 i (by omega)
     have h2 := flat_take (l := l) (i := i) (by omega)
     simp (disch := omega) only [go_sem, ↓reduceIte]
     exact ⟨i + 1, by simp [h2], by omega, by omega⟩
    ·obtain rfl : i = l.length := by omega
     simp (disch := omega) only [go_sem, ↓reduceIte]
theorem w_iso_colour (hcl : K_slices_Clone_int3 P F) (hso : K_slices_SortFunc_int3 P F) (hco : K_slices_CompactFunc_int3 P F) (hbs : K_slices_BinarySearchFunc_int4 P F) (hcm : K_slices_Compare_I P F) (heq : K_slices_Equal_I P F)
  (l : List (List Int)) (hl : l.length ≤ 1000000) (hx : ∀ x ∈ l, x.length ≤ 1000000) : W P (c_iso_colour F) (Done [.t 2, .t 3] [] (.tup [.arr 1 (ints (colL l)), .int .i64 (dstL l).length]) []) (init [.lst 1 (iis l)]) := by
 refine W_of ?_
 have hsp := sortL_perm l
 have hsl : (sortL l).length = l.length := hsp.length_eq
 have r1 := hcl l hl
 have r2 := hso l (sortL l) (F "slices.Compare.I") scmp hl scmp_cmp hsp (sortL_sorted l) fun x h1 y h2 => hcm x y (hx x h1) (hx y h2)
 have r3 := hco (sortL l) (F "slices.Equal.I") (by omega) fun x h1 y h2 => heq x y (by have := hx x (hsp.mem_iff.1 h1); unfold maxL; omega)
 have hdl := dstL_len l
 have hsx : ∀ x ∈ dstL l, x.length ≤ 1000000 := fun x h => hx x (dstL_mem.1 h)
 have r4 : ∀ t ∈ l, FC P (F "slices.BinarySearchFunc.int4") [.lst 1 (iis (dstL l)), .lst 1 (ints t), .clo (F "slices.Compare.I") []] (.tup [.int .i64 (below (dstL l) t), .bool (decide (t ∈ dstL l))]) [] := fun t ht =>
  hbs (dstL l) t (F "slices.Compare.I") (by omega) (dstL_strict l) fun x h => hcm x t (hsx x h) (hx t ht)
 have hbl : ∀ t, below (dstL l) t ≤ 1000000 := fun t => by have := below_le (dstL l) t; omega
 simp (disch := omega) only [go_sem, ↓reduceIte]
 refine call_fz r1 ?_
 simp (disch := omega) only [go_sem, ↓reduceIte]
 refine call_fz r2 ?_
 rw [show cptL (sortL l) = dstL l from rfl] at r3
 have hc : colL l = l.map fun s => (below (dstL l) s : Int) := rfl
 generalize dstL l = S at *
 simp (disch := omega) only [go_sem, ↓reduceIte, hsl]
 refine call_fz r3 ?_
 simp (disch := omega) only [go_sem, ↓reduceIte]
 refine W_loop (fun i : Nat => ⟨[(4, .sl 0 0 S.length), (5, .sl 1 0 i), (16, .lst 1 (iis l)), (17, .int .i64 l.length), (18, .int .i64 i)], [(0, .arr 1 (iis S)), (1, .arr 1 (ints ((colL l).take i)))], 2⟩) (fun i => i ≤ l.length) (fun i => l.length - i) 0 ?_ ?_ ?_
 ·simp (disch := omega) only [go_sem, ↓reduceIte]
  rfl
 ·omega
 ·intro i hi
  have hcl : (colL l).length = l.length := by rw [hc]; simp
  simp (disch := omega) only [go_sem, ↓reduceIte, c_iso_colour_b11]
  refine bran_dec (fun c => ?_) (fun c => ?_)
  ·have hm := gt_mem (l := l) (j := (i : Int)) (by omega) (by omega)
   have hb := hbl (gt l (i : Int))
   have ht : (colL l).take (i + 1) = (colL l).take i ++ [(below S (gt l (i : Int)) : Int)] := by
    rw [take_gt (by omega)]
    congr 2
    rw [gt_nat (by omega), gt_nat (by omega)]
    simp only [hc, List.getElem_map]
   have hti : ((colL l).take i).length = i := by simp; omega
   simp (disch := omega) only [go_sem, ↓reduceIte]
   refine call_by (r4 _ hm) ?_
   generalize below S (gt l (i : Int)) = b at *
   simp (disch := omega) only [go_sem, ↓reduceIte, hti]
   exact ⟨i + 1, by simp [ht], by omega, by omega⟩
  ·obtain rfl : i = l.length := by omega
   have hti : (colL l).take l.length = colL l := List.take_of_length_le (by omega)
   rw [hti]
   simp (disch := omega) only [go_sem, ↓reduceIte, hcl]
end
@[go_sem] def c_iso_join_r0 : LL := [qa 2 [.nl 1,.nl 3]]
@[go_sem] def c_iso_join_r1 : LL := [qa 3 [.nl 1,.nl 3]]
@[go_sem] def c_iso_join_r2 : LL := [qm 9 0,qz 10 9,qi 11 0]
@[go_sem] def c_iso_join_r3 : LL := [qo .lss 12 11 10]
@[go_sem] def c_iso_join_r4 : LL := [qd 13 2 9 11,qL 14 2 13,qa 5 [.nl 1,.nl 3],qs 2 5 14]
@[go_sem] def c_iso_join_r5 : LL := [qf 15 0 3,ql 16 1 15,qz 17 16,qm 6 17]
@[go_sem] def c_iso_join_r6 : LL := [qf 18 0 3,ql 19 1 18,qf 20 0 5,ql 21 1 20,qp 22 1 8 19 21,qf 23 0 3,qs 1 23 22]
@[go_sem] def c_iso_join_r7 : LL := [qf 24 1 5,ql 25 1 24,qz 26 25,qi 27 0]
@[go_sem] def c_iso_join_r8 : LL := [qo .lss 28 27 26]
@[go_sem] def c_iso_join_r9 : LL := [qd 29 3 25 27,qL 30 3 29,qa 8 [.int .i64 (0),.int .i64 (0),.int .i64 (0)],qs 3 8 30]
@[go_sem] def c_iso_join_r10 : LL := [qf 31 1 3,ql 32 1 31,qf 33 0 8,ql 34 1 33,qf 35 1 8,ql 36 1 35,qm 37 6,qo .add 38 36 37,qf 39 2 8,ql 40 1 39,qm 41 6,qo .add 42 40 41,
 qu 43 [.int .i64 (0),.int .i64 (0),.int .i64 (0)] [(0,1,.t 34),(1,1,.t 38),(2,1,.t 42)],
 ⟨some 44,.buildSl 3 24 (.agg [.int .i64 (0),.int .i64 (0),.int .i64 (0)]) 1 [(0,.t 43)],none⟩,qp 45 3 24 32 44,qf 46 1 3,qs 1 46 45]
@[go_sem] def c_iso_join_r11 : LL := [qk .add 47 27 1,qm 27 47]
def c_iso_join_b12 : LC := (.seq (.reg c_iso_join_r8 [2,3,6,9,10,11,25,26,27,28]) (.seq (.cond (.t 28) .skip (.exit 2)) (.seq (.block 3 (.seq (.reg c_iso_join_r9 [2,3,6,8,9,10,11,25,26,27]) (.reg c_iso_join_r10 [2,3,6,9,10,11,25,26,27]))) (.reg c_iso_join_r11 [2,3,6,9,10,11,25,26,27]))))
@[go_sem] def c_iso_join_r13 : LL := [qk .add 48 11 1,qm 11 48]
def c_iso_join_b14 : LC := (.seq (.reg c_iso_join_r3 [2,3,9,10,11,12]) (.seq (.cond (.t 12) .skip (.exit 0)) (.seq (.block 1 (.seq (.reg c_iso_join_r4 [2,3,5,9,10,11]) (.seq (.reg c_iso_join_r5 [2,3,5,6,9,10,11]) (.seq (.reg c_iso_join_r6 [2,3,5,6,9,10,11]) (.seq (.reg c_iso_join_r7 [2,3,6,9,10,11,25,26,27]) (.block 2 (.loop [2,3,6,9,10,11,25,26,27] c_iso_join_b12))))))) (.reg c_iso_join_r13 [2,3,9,10,11]))))
@[go_sem] def c_iso_join_r15 : LL := [qL 49 2 3,qs 2 2 49]
@[go_sem] def c_iso_join (F : Fn) : LC := (.seq (.reg c_iso_join_r0 [0,2]) (.seq (.reg c_iso_join_r1 [0,2,3]) (.seq (.seq (.reg c_iso_join_r2 [2,3,9,10,11]) (.block 0 (.loop [2,3,9,10,11] c_iso_join_b14))) (.seq (.reg c_iso_join_r15 [2]) .ret))))
def h_iso_join : Hints := hOf [] (c_iso_join fun _ => 0)
@[go_sem] def c_iso_joined_first_r0 : LL := [qB 1 0,qn 2 1]
@[go_sem] def c_iso_joined_first_r1 : LL := [qn 3 1]
@[go_sem] def c_iso_joined_first_r2 : LL := [qf 6 0 1,ql 7 1 6,qz 8 7,qi 9 0]
@[go_sem] def c_iso_joined_first_r3 : LL := [qo .lss 10 9 8]
@[go_sem] def c_iso_joined_first_r4 : LL := [qd 11 1 7 9,ql 12 1 11,qm 5 12]
@[go_sem] def c_iso_joined_first_r5 : LL := [qm 13 3,qm 14 5,⟨some 15,.buildSl 1 8 (.int .i64 (0)) 1 [(0,.t 14)],none⟩,⟨some 16,.buildSl 1 24 (.lst 1 []) 1 [(0,.t 15)],none⟩,qp 17 1 24 13 16,qm 3 17]
@[go_sem] def c_iso_joined_first_r6 : LL := [qk .add 18 9 1,qm 9 18]
def c_iso_joined_first_b7 : LC := (.seq (.reg c_iso_joined_first_r3 [3,7,8,9,10]) (.seq (.cond (.t 10) .skip (.exit 0)) (.seq (.block 1 (.seq (.reg c_iso_joined_first_r4 [3,5,7,8,9]) (.reg c_iso_joined_first_r5 [3,7,8,9]))) (.reg c_iso_joined_first_r6 [3,7,8,9]))))
@[go_sem] def c_iso_joined_first_r8 : LL := [qm 19 3,qm 2 19]
@[go_sem] def c_iso_joined_first (F : Fn) : LC := (.seq (.reg c_iso_joined_first_r0 [1]) (.seq (.reg c_iso_joined_first_r1 [1,3]) (.seq (.seq (.reg c_iso_joined_first_r2 [3,7,8,9]) (.block 0 (.loop [3,7,8,9] c_iso_joined_first_b7))) (.seq (.reg c_iso_joined_first_r8 [2]) .ret))))
def h_iso_joined_first : Hints := hOf [] (c_iso_joined_first fun _ => 0)
@[go_sem] def c_iso_joined_next_r0 : LL := [qB 2 0,qn 4 1]
@[go_sem] def c_iso_joined_next_r1 : LL := [qf 11 0 2,ql 12 1 11,qz 13 12,⟨some 14,.mkn 1 24 (.t 13),none⟩,qm 5 14]
@[go_sem] def c_iso_joined_next_r2 : LL := [qf 15 1 2,ql 16 1 15,qz 17 16,qi 18 0]
@[go_sem] def c_iso_joined_next_r3 : LL := [qo .lss 19 18 17]
@[go_sem] def c_iso_joined_next_r4 : LL := [qd 20 3 16 18,qL 21 3 20,qa 7 [.int .i64 (0),.int .i64 (0),.int .i64 (0)],qs 3 7 21]
@[go_sem] def c_iso_joined_next_r5 : LL := [qm 22 5,qf 23 1 7,ql 24 1 23,qm 25 5,qf 26 1 7,ql 27 1 26,qd 28 1 25 27,⟨some 29,.tk (.t 28),none⟩,qf 30 0 7,ql 31 1 30,qm 32 1,qf 33 2 7,ql 34 1 33,qd 35 1 32 34,ql 36 1 35,
 ⟨some 37,.buildSl 1 8 (.int .i64 (0)) 3 [(0,.k (.int .i64 (0))),(1,.t 31),(2,.t 36)],none⟩,⟨some 38,.buildSl 1 24 (.lst 1 []) 1 [(0,.t 37)],none⟩,qp 39 1 24 29 38,
 qd 40 1 22 24,⟨none,.pu (.t 40) (.t 39),none⟩]
@[go_sem] def c_iso_joined_next_r6 : LL := [qm 41 5,qf 42 2 7,ql 43 1 42,qm 44 5,qf 45 2 7,ql 46 1 45,qd 47 1 44 46,⟨some 48,.tk (.t 47),none⟩,qf 49 0 7,ql 50 1 49,qm 51 1,qf 52 1 7,ql 53 1 52,qd 54 1 51 53,ql 55 1 54,
 ⟨some 56,.buildSl 1 8 (.int .i64 (0)) 3 [(0,.k (.int .i64 (1))),(1,.t 50),(2,.t 55)],none⟩,⟨some 57,.buildSl 1 24 (.lst 1 []) 1 [(0,.t 56)],none⟩,qp 58 1 24 48 57,
 qd 59 1 41 43,⟨none,.pu (.t 59) (.t 58),none⟩]
@[go_sem] def c_iso_joined_next_r7 : LL := [qk .add 60 18 1,qm 18 60]
def c_iso_joined_next_b8 : LC := (.seq (.reg c_iso_joined_next_r3 [1,5,16,17,18,19]) (.seq (.cond (.t 19) .skip (.exit 0)) (.seq (.block 1 (.seq (.reg c_iso_joined_next_r4 [1,5,7,16,17,18]) (.seq (.dreg [(2,none,[],true),(5,none,[],true),(6,none,[],true),(7,none,[2],true),(9,(some 256),[7],false),(12,(some 2048),[7],false),(13,(some 7168),[7],false),(14,(some 15360),[7],false),(15,(some 32512),[2,5,6,7],false),(16,(some 65280),[2,5,6,7],false),(17,none,[2],false)] c_iso_joined_next_r5 [1,5,7,16,17,18]) (.dreg [(2,none,[],true),(5,none,[],true),(6,none,[],true),(7,none,[2],true),(9,(some 256),[7],false),(12,(some 2048),[7],false),(13,(some 7168),[7],false),(14,(some 15360),[7],false),(15,(some 32512),[2,5,6,7],false),(16,(some 65280),[2,5,6,7],false),(17,none,[2],false)] c_iso_joined_next_r6 [1,5,16,17,18])))) (.reg c_iso_joined_next_r7 [1,5,16,17,18]))))
@[go_sem] def c_iso_joined_next_r9 : LL := [qn 8 1]
@[go_sem] def c_iso_joined_next_r10 : LL := [qm 61 5,qz 62 61,qi 63 0]
@[go_sem] def c_iso_joined_next_r11 : LL := [qo .lss 64 63 62]
@[go_sem] def c_iso_joined_next_r12 : LL := [qm 65 63,qd 66 1 61 63,⟨some 67,.tk (.t 66),none⟩,qm 9 65,qm 10 67]
@[go_sem] def c_iso_joined_next_r13 (F : Fn) : LL := [qm 68 10,⟨some 69,.call (F "slices.SortFunc.int3") [.t 68,.k (.clo (F "slices.Compare.I") [])] [.mu,.rd],none⟩]
@[go_sem] def c_iso_joined_next_r14 (F : Fn) : LL := [qm 70 8,qm 71 1,qm 72 9,qd 73 1 71 72,ql 74 1 73,⟨some 75,.buildSl 1 8 (.int .i64 (0)) 1 [(0,.t 74)],none⟩,qm 76 10,qc 77 (F "slices.Concat.I") [.t 76],
 ⟨some 78,.buildSl 1 24 (.lst 1 []) 2 [(0,.t 75),(1,.t 77)],none⟩,qc 79 (F "slices.Concat.I") [.t 78],⟨some 80,.buildSl 1 24 (.lst 1 []) 1 [(0,.t 79)],none⟩,qp 81 1 24 70 80,qm 8 81]
@[go_sem] def c_iso_joined_next_r15 : LL := [qk .add 82 63 1,qm 63 82]
def c_iso_joined_next_b16 (F : Fn) : LC := (.seq (.reg c_iso_joined_next_r11 [1,8,61,62,63,64]) (.seq (.cond (.t 64) .skip (.exit 2)) (.seq (.block 3 (.seq (.reg c_iso_joined_next_r12 [1,8,9,10,61,62,63]) (.seq (.reg (c_iso_joined_next_r13 F) [1,8,9,10,61,62,63]) (.dreg [(3,none,[],true),(4,none,[],true),(5,none,[],true),(7,(some 64),[3,4,5],false)] (c_iso_joined_next_r14 F) [1,8,61,62,63])))) (.reg c_iso_joined_next_r15 [1,8,61,62,63]))))
@[go_sem] def c_iso_joined_next_r17 : LL := [qm 83 8,qm 4 83]
@[go_sem] def c_iso_joined_next (F : Fn) : LC := (.seq (.reg c_iso_joined_next_r0 [1,2]) (.seq (.reg c_iso_joined_next_r1 [1,2,5]) (.seq (.seq (.reg c_iso_joined_next_r2 [1,5,16,17,18]) (.block 0 (.loop [1,5,16,17,18] c_iso_joined_next_b8))) (.seq (.reg c_iso_joined_next_r9 [1,5,8]) (.seq (.seq (.reg c_iso_joined_next_r10 [1,8,61,62,63]) (.block 2 (.loop [1,8,61,62,63] (c_iso_joined_next_b16 F)))) (.seq (.reg c_iso_joined_next_r17 [4]) .ret))))))
def h_iso_joined_next : Hints := hOf [] (c_iso_joined_next fun _ => 0)
def trE (c : List Int) (i : Nat) (x : E) : List (List Int) := (if x.f = i then [[0, x.t, gt c x.o]] else []) ++ (if x.o = i then [[1, x.t, gt c x.f]] else [])
def trL (es : List E) (c : List Int) (i : Nat) : List (List Int) := es.flatMap (trE c i)
def sgnO (es : List E) (c : List Int) (i : Nat) : List Int := gt c (i : Int) :: (sortL (trL es c i)).flatten
def nextL (g : G) (c : List Int) : List (List Int) := (List.range g.n.length).map (sgnO g.e c)
def frstL (g : G) : List (List Int) := g.n.map fun x => [x]
def shJ (k : Nat) (x : E) : E := ⟨x.t, x.f + k, x.o + k⟩
def join2 (a g : G) : G := ⟨a.n ++ g.n, a.e ++ g.e.map (shJ a.n.length)⟩
def joinG (l : List G) : G := l.foldl join2 ⟨[], []⟩
def InG (g : G) : Prop := g.n.length ≤ 100 ∧ g.e.length ≤ 200 ∧ ∀ x ∈ g.e, 0 ≤ x.f ∧ x.f < g.n.length ∧ 0 ≤ x.o ∧ x.o < g.n.length
def nstL (n : Nat) (f : Nat → List D) : List (Option (List D)) := (List.range n).map fun i => some (f i)
def gDs (l : List G) : List D := l.map gD
section
variable (P : Program) (F : String → Nat)
def K_iso_join : Prop := ∀ l : List G, l.length ≤ 2 → (∀ g ∈ l, validG g = 0) → FC P (F "iso.join") [.lst 2 (gDs l)] (gA (joinG l)) []
def K_iso_joined_first : Prop := ∀ g : G, g.n.length ≤ 100 → FC P (F "iso.joined.first") [gD g] (.arr 1 (iis (frstL g))) []
def K_iso_joined_next : Prop := ∀ (g : G) (c : List Int), InG g → c.length = g.n.length → FC P (F "iso.joined.next") [gD g, .lst 1 (ints c)] (.arr 1 (iis (nextL g c))) []
end
section
variable {α : Type}
theorem nstL_length {n : Nat} {f : Nat → List D} : (nstL n f).length = n := by simp [nstL]
attribute [go_sem] nstL_length
theorem nstL_get {n : Nat} {f : Nat → List D} {i : Nat} (h : i < n) : (nstL n f)[i]? = some (some (f i)) := by simp [nstL, h]
theorem nstL_upd {n : Nat} {f : Nat → List D} {i : Nat} {x : List D} (h : i < n) : ((nstL n f).set i none).set i (some x) = nstL n fun j => if j = i then x else f j := by
 rw [List.set_set]
 refine List.ext_getElem (by simp [nstL]) fun j h1 h2 => ?_
 rw [List.getElem_set]
 simp only [nstL, List.getElem_map, List.getElem_range]
 split
 ·rename_i e; subst e; simp
 ·rename_i e; rw [if_neg (fun h => e h.symm)]
theorem iis_snoc3 (l : List (List Int)) (a b c : Int) : iis l ++ [.lst 1 [.int .i64 a, .int .i64 b, .int .i64 c]] = iis (l ++ [[a, b, c]]) := by simp [iis, ints]
theorem trL_len (es : List E) (c : List Int) (i : Nat) : (trL es c i).length ≤ 2 * es.length := by
 induction es with
 | nil => simp [trL]
 | cons x es ih =>
  have : (trE c i x).length ≤ 2 := by unfold trE; split <;> split <;> simp
  simp only [trL, List.flatMap_cons, List.length_append, List.length_cons] at ih ⊢
  omega
theorem trL_take {es : List E} {c : List Int} {i k : Nat} (h : k < es.length) : trL (es.take (k + 1)) c i = trL (es.take k) c i ++ trE c i (gt es (k : Int)) := by
 rw [take_gt h, trL, List.flatMap_append]
 simp [trL]
theorem trL_mem {es : List E} {c : List Int} {i : Nat} : ∀ x ∈ trL es c i, x.length = 3 := by
 intro x hx
 obtain ⟨e, _, he⟩ := List.mem_flatMap.1 hx
 unfold trE at he
 rcases List.mem_append.1 he with he | he <;> (split at he <;> simp at he <;> simp [he])
theorem nstL_rep {n : Nat} : List.replicate n (some ([] : List D)) = nstL n fun _ => [] := by
 refine List.ext_getElem (by simp [nstL]) fun j h1 h2 => ?_
 simp [nstL]
def nstM (n : Nat) (f : Nat → List D) (j : Nat) : List (Option (List D)) := (List.range n).map fun i => if i < j then none else some (f i)
theorem nstM_zero {n : Nat} {f : Nat → List D} : nstL n f = nstM n f 0 := by simp [nstL, nstM]
theorem nstM_get {n : Nat} {f : Nat → List D} {j : Nat} (h : j < n) : (nstM n f j)[j]? = some (some (f j)) := by simp [nstM, h]
theorem nstM_set {n : Nat} {f : Nat → List D} {j : Nat} : (nstM n f j).set j none = nstM n f (j + 1) := by
 refine List.ext_getElem (by simp [nstM]) fun i h1 h2 => ?_
 rw [List.getElem_set]
 simp only [nstM, List.getElem_map, List.getElem_range]
 split
 ·rename_i e; subst e; simp
 ·rename_i e
  by_cases hi : i < j
  ·rw [if_pos hi, if_pos (by omega)]
  ·rw [if_neg hi, if_neg (by omega)]
theorem sgn_len {es : List E} {c : List Int} {i : Nat} (h : es.length ≤ 200) : (∀ x ∈ sortL (trL es c i), x.length ≤ 1000000) ∧ (sortL (trL es c i)).length ≤ 400 ∧ (sortL (trL es c i)).flatten.length ≤ 1200 := by
 have h1 := trL_len es c i
 have hp := sortL_perm (trL es c i)
 have h2 : ∀ x ∈ sortL (trL es c i), x.length ≤ 3 := fun x hx => by rw [trL_mem x (hp.mem_iff.1 hx)]; omega
 have h3 := hp.length_eq
 have h4 := flat_len h2
 refine ⟨fun x hx => by have := h2 x hx; omega, by omega, ?_⟩
 have : (sortL (trL es c i)).length * 3 ≤ 400 * 3 := Nat.mul_le_mul_right 3 (by omega)
 omega
theorem nextL_length (g : G) (c : List Int) : (nextL g c).length = g.n.length := by simp [nextL]
theorem nstL_congr {n : Nat} {f g : Nat → List D} (h : ∀ i, i < n → f i = g i) : nstL n f = nstL n g := by
 unfold nstL
 refine List.map_congr_left fun i hi => ?_
 rw [h i (by simpa using hi)]
end
section
variable {P : Program} {F : String → Nat} {α : Type}
theorem w_iso_joined_next (hso : K_slices_SortFunc_int3 P F) (hcm : K_slices_Compare_I P F) (hcc : K_slices_Concat_I P F) (g : G) (c : List Int) (hi : InG g) (hc : c.length = g.n.length) : W P (c_iso_joined_next F) (Done [.t 4] [] (.arr 1 (iis (nextL g c))) []) (init [gD g, .lst 1 (ints c)]) := by
 obtain ⟨ns, es⟩ := g
 obtain ⟨i1, i2, i3⟩ := hi
 simp only at i1 i2 i3 hc
 refine W_of ?_
 simp only [gD]
 simp (disch := omega) only [go_sem, ↓reduceIte, nstL_rep]
 refine W_loop (fun k : Nat => ⟨[(1, .lst 1 (ints c)), (5, .sl 0 0 ns.length), (16, .lst 3 (eds es)), (17, .int .i64 es.length), (18, .int .i64 k)], [(0, .nst 1 (nstL ns.length fun i => iis (trL (es.take k) c i)))], 1⟩) (fun k => k ≤ es.length) (fun k => es.length - k) 0 ?_ ?_ ?_
 ·simp (disch := omega) only [go_sem, ↓reduceIte, nstL_rep]
  rfl
 ·omega
 ·intro k hk
  simp (disch := omega) only [go_sem, ↓reduceIte, c_iso_joined_next_b8]
  refine bran_dec (fun d => ?_) (fun d => ?_)
  ·have hm := i3 _ (gt_mem (l := es) (j := (k : Int)) (by omega) (by omega))
   have ht := take_gt (l := es) (i := k) (by omega)
   obtain ⟨⟨t, f, o⟩, hx⟩ : ∃ x, gt es (k : Int) = x := ⟨_, rfl⟩
   rw [hx] at hm ht
   simp only at hm
   obtain ⟨m1, m2, m3, m4⟩ := hm
   obtain ⟨f, rfl⟩ := Int.eq_ofNat_of_zero_le m1
   obtain ⟨o, rfl⟩ := Int.eq_ofNat_of_zero_le m3
   have hl1 := trL_len (es.take k) c f
   have hl2 := trL_len (es.take k) c o
   have hl3 : (es.take k).length ≤ 200 := by simp; omega
   have g1 := nstL_get (n := ns.length) (f := fun i => iis (trL (es.take k) c i)) (i := f) (by omega)
   obtain ⟨A, hA⟩ : ∃ A : List (List Int), A = if o = f then trL (es.take k) c f ++ [[0, t, gt c (o : Int)]] else trL (es.take k) c o := ⟨_, rfl⟩
   have hAl : A.length ≤ 401 := by rw [hA]; split <;> (try simp) <;> omega
   have g2 : (nstL ns.length fun j => if j = f then iis (trL (es.take k) c f ++ [[0, t, gt c (o : Int)]]) else iis (trL (es.take k) c j))[o]? = some (some (iis A)) := by
    rw [nstL_get (by omega), hA]
    split <;> rfl
   simp (disch := omega) only [go_sem, ↓reduceIte, hx, g1, iis_snoc3, nstL_upd, g2]
   refine ⟨k + 1, ?_, by omega, by omega⟩
   congr 4
   refine nstL_congr fun j hj => ?_
   rw [trL_take (by omega), hx]
   unfold trE
   simp only
   by_cases e1 : j = o
   ·subst e1
    rw [if_pos rfl, hA]
    by_cases e2 : j = f
    ·subst e2; simp
    ·rw [if_neg e2, if_neg (by omega)]; simp
   ·rw [if_neg e1]
    by_cases e2 : j = f
    ·subst e2
     rw [if_pos rfl, if_pos rfl, if_neg (by omega)]; simp
    ·rw [if_neg e2, if_neg (by omega), if_neg (by omega)]; simp
  ·obtain rfl : k = es.length := by omega
   rw [List.take_length]
   have hnl : (nextL ⟨ns, es⟩ c).length = ns.length := nextL_length _ _
   have hng : ∀ j : Nat, j < ns.length → gt (nextL ⟨ns, es⟩ c) (j : Int) = gt c (j : Int) :: (sortL (trL es c j)).flatten := fun j hj => by
    rw [gt_nat (by omega)]
    simp [nextL, sgnO]
   generalize nextL ⟨ns, es⟩ c = R at *
   simp (disch := omega) only [go_sem, ↓reduceIte, nstM_zero]
   refine W_loop (fun j : Nat => ⟨[(1, .lst 1 (ints c)), (8, .sl 0 0 j), (61, .sl 1 0 ns.length), (62, .int .i64 ns.length), (63, .int .i64 j)], [(0, .arr 1 (iis (R.take j))), (1, .nst 1 (nstM ns.length (fun i => iis (trL es c i)) j))], 2⟩) (fun j => j ≤ ns.length) (fun j => ns.length - j) 0 ?_ ?_ ?_
   ·simp (disch := omega) only [go_sem, ↓reduceIte, nstM_zero]
    rfl
   ·omega
   ·intro j hj
    simp (disch := omega) only [go_sem, ↓reduceIte, c_iso_joined_next_b16]
    refine bran_dec (fun d => ?_) (fun d => ?_)
    ·have hjl : j < ns.length := by omega
     have g1 := nstM_get (f := fun i => iis (trL es c i)) hjl
     have hp := sortL_perm (trL es c j)
     have hle := hp.length_eq
     have htl := trL_len es c j
     have hty : ∀ x ∈ trL es c j, x.length ≤ 1000000 := fun x hx => by rw [trL_mem x hx]; omega
     have r1 := hso (trL es c j) (sortL (trL es c j)) (F "slices.Compare.I") scmp (by omega) scmp_cmp hp (sortL_sorted _) fun x h1 y h2 => hcm x y (hty x h1) (hty y h2)
     obtain ⟨s1, s2, s3⟩ := sgn_len (c := c) (i := j) i2
     have r2 := hcc (sortL (trL es c j)) (by omega) s1
     have r3 : FC P (F "slices.Concat.I") [.lst 1 [.lst 1 [.int .i64 (gt c (j : Int))], .lst 1 (ints (sortL (trL es c j)).flatten)]] (.arr 1 (ints (gt c (j : Int) :: (sortL (trL es c j)).flatten))) [] := by
      have := hcc [[gt c (j : Int)], (sortL (trL es c j)).flatten] (by simp) (by
       intro x hx
       simp only [List.mem_cons, List.not_mem_nil, or_false] at hx
       rcases hx with rfl | rfl
       ·simp
       ·omega)
      simpa [iis, ints] using this
     have hR : R.take (j + 1) = R.take j ++ [gt c (j : Int) :: (sortL (trL es c j)).flatten] := by rw [take_gt (by omega), hng j hjl]
     have hRl : (R.take j).length = j := by simp; omega
     generalize sortL (trL es c j) = S at *
     generalize S.flatten = fl at *
     simp (disch := omega) only [go_sem, ↓reduceIte, g1, nstM_set]
     refine call_fz r1 ?_
     simp (disch := omega) only [go_sem, ↓reduceIte, hle]
     refine call_by r2 ?_
     simp (disch := omega) only [go_sem, ↓reduceIte]
     refine call_by r3 ?_
     simp (disch := omega) only [go_sem, ↓reduceIte, hRl]
     exact ⟨j + 1, by simp [hR], by omega, by omega⟩
    ·obtain rfl : j = ns.length := by omega
     have hti : R.take ns.length = R := List.take_of_length_le (by omega)
     rw [hti]
     simp (disch := omega) only [go_sem, ↓reduceIte, hnl]
theorem gDs_length {l : List G} : (gDs l).length = l.length := by simp [gDs]
theorem gDs_get {l : List G} {i : Nat} (h : i < l.length) : (gDs l)[i]? = some (.agg [.lst 1 (ints (gt l (i : Int)).n), .lst 3 (eds (gt l (i : Int)).e)]) := by
 rw [gt_nat h]
 simp [gDs, h, gD]
attribute [go_sem] gDs_length gDs_get
theorem w_iso_join (l : List G) (hl : l.length ≤ 2) (hv : ∀ g ∈ l, validG g = 0) : W P (c_iso_join F) (Done [.c 2 true 2] [] (gA (joinG l)) []) (init [.lst 2 (gDs l)]) := by
 refine W_of ?_
 have hb : ∀ i, i ≤ l.length → (joinG (l.take i)).n.length ≤ 40 * i ∧ (joinG (l.take i)).e.length ≤ 80 * i := by
  intro i
  induction i with
  | zero => intro _; simp [joinG]
  | succ i ih =>
   intro h
   obtain ⟨h1, h2⟩ := ih (by omega)
   obtain ⟨v1, v2, _⟩ := valid_spec (hv _ (gt_mem (l := l) (j := (i : Int)) (by omega) (by omega)))
   rw [take_gt (by omega), joinG, List.foldl_append]
   simp only [List.foldl_cons, List.foldl_nil]
   rw [show List.foldl join2 ⟨[], []⟩ (l.take i) = joinG (l.take i) from rfl]
   simp only [join2, List.length_append, List.length_map]
   omega
 simp (disch := omega) only [go_sem, ↓reduceIte]
 refine W_loop (fun i : Nat => ⟨[(2, .pt 2 0), (3, .pt 5 0), (9, .lst 2 (gDs l)), (10, .int .i64 l.length), (11, .int .i64 i)],
   [(0, .arr 1 (ints [])), (1, .arr 3 (eds [])), (2, .box [.sl 0 0 0, .sl 1 0 0]), (3, .arr 1 (ints (joinG (l.take i)).n)), (4, .arr 3 (eds (joinG (l.take i)).e)), (5, .box [.sl 3 0 (joinG (l.take i)).n.length, .sl 4 0 (joinG (l.take i)).e.length])], 6⟩) (fun i => i ≤ l.length) (fun i => l.length - i) 0 ?_ ?_ ?_
 ·simp (disch := omega) only [go_sem, ↓reduceIte]
  rfl
 ·omega
 ·intro i hi
  simp (disch := omega) only [go_sem, ↓reduceIte, c_iso_join_b14]
  refine bran_dec (fun d => ?_) (fun d => ?_)
  ·have hj : joinG (l.take (i + 1)) = join2 (joinG (l.take i)) (gt l (i : Int)) := by
    rw [take_gt (by omega), joinG, List.foldl_append]
    rfl
   obtain ⟨b1, b2⟩ := hb i (by omega)
   have hv1 := hv _ (gt_mem (l := l) (j := (i : Int)) (by omega) (by omega))
   obtain ⟨⟨ns, es⟩, hx⟩ : ∃ x, gt l (i : Int) = x := ⟨_, rfl⟩
   rw [hx] at hv1 hj
   obtain ⟨v1, v2, _, v4⟩ := valid_spec hv1
   simp only at v1 v2 v4
   generalize joinG (l.take i) = a at *
   obtain ⟨an, ae⟩ := a
   simp only at b1 b2
   simp (disch := omega) only [go_sem, ↓reduceIte, hx]
   refine W_loop (fun k : Nat => ⟨[(2, .pt 2 0), (3, .pt 5 0), (6, .int .i64 an.length), (9, .lst 2 (gDs l)), (10, .int .i64 l.length), (11, .int .i64 i), (25, .lst 3 (eds es)), (26, .int .i64 es.length), (27, .int .i64 k)],
    [(0, .arr 1 (ints [])), (1, .arr 3 (eds [])), (2, .box [.sl 0 0 0, .sl 1 0 0]), (3, .arr 1 (ints (an ++ ns))), (4, .arr 3 (eds (ae ++ (es.take k).map (shJ an.length)))), (5, .box [.sl 3 0 (an.length + ns.length), .sl 4 0 (ae.length + k)])], 6⟩) (fun k => k ≤ es.length) (fun k => es.length - k) 0 ?_ ?_ ?_
   ·simp (disch := omega) only [go_sem, ↓reduceIte]
    simp
   ·omega
   ·intro k hk
    simp (disch := omega) only [go_sem, ↓reduceIte, c_iso_join_b12]
    refine bran_dec (fun d => ?_) (fun d => ?_)
    ·have hm := v4 _ (gt_mem (l := es) (j := (k : Int)) (by omega) (by omega))
     have ht := take_gt (l := es) (i := k) (by omega)
     obtain ⟨⟨t, f, o⟩, hy⟩ : ∃ x, gt es (k : Int) = x := ⟨_, rfl⟩
     rw [hy] at hm ht
     simp only [fitsE, Bool.and_eq_true, decide_eq_true_eq] at hm
     have hl : (ae ++ (es.take k).map (shJ an.length)).length = ae.length + k := by simp; omega
     simp (disch := omega) only [go_sem, ↓reduceIte, hy, hl]
     refine ⟨k + 1, ?_, by omega, by omega⟩
     simp [ht, shJ, Nat.add_assoc]
    ·obtain rfl : k = es.length := by omega
     simp (disch := omega) only [go_sem, ↓reduceIte]
     refine ⟨i + 1, ?_, by omega, by omega⟩
     rw [hj]
     simp [join2]
  ·obtain rfl : i = l.length := by omega
   rw [List.take_length]
   generalize joinG l = a at *
   simp (disch := omega) only [go_sem, ↓reduceIte]
   rfl
theorem w_iso_joined_first (g : G) (hg : g.n.length ≤ 100) : W P (c_iso_joined_first F) (Done [.t 2] [] (.arr 1 (iis (frstL g))) []) (init [gD g]) := by
 obtain ⟨ns, es⟩ := g
 refine W_of ?_
 simp only [gD]
 have hn : ns.length ≤ 100 := hg
 clear hg
 have hf : (frstL ⟨ns, es⟩).length = ns.length := by simp [frstL]
 have hg : ∀ i : Nat, i < ns.length → gt (frstL ⟨ns, es⟩) (i : Int) = [gt ns (i : Int)] := fun i hi => by
  rw [gt_nat (by omega), gt_nat hi]
  simp [frstL]
 generalize frstL ⟨ns, es⟩ = R at *
 simp (disch := omega) only [go_sem, ↓reduceIte]
 refine W_loop (fun i : Nat => ⟨[(3, .sl 0 0 i), (7, .lst 1 (ints ns)), (8, .int .i64 ns.length), (9, .int .i64 i)], [(0, .arr 1 (iis (R.take i)))], 1⟩) (fun i => i ≤ ns.length) (fun i => ns.length - i) 0 ?_ ?_ ?_
 ·simp (disch := omega) only [go_sem, ↓reduceIte]
  rfl
 ·omega
 ·intro i hi
  simp (disch := omega) only [go_sem, ↓reduceIte, c_iso_joined_first_b7]
  refine bran_dec (fun d => ?_) (fun d => ?_)
  ·have ht : R.take (i + 1) = R.take i ++ [[gt ns (i : Int)]] := by rw [take_gt (by omega), hg i (by omega)]
   have hRl : (R.take i).length = i := by simp; omega
   have e1 : ∀ (l : List (List Int)) (x : Int), iis l ++ [.lst 1 [.int .i64 x]] = iis (l ++ [[x]]) := fun l x => by simp [iis, ints]
   simp (disch := omega) only [go_sem, ↓reduceIte, hRl, e1]
   exact ⟨i + 1, by simp [ht], by omega, by omega⟩
  ·obtain rfl : i = ns.length := by omega
   have hti : R.take ns.length = R := List.take_of_length_le (by omega)
   rw [hti]
   simp (disch := omega) only [go_sem, ↓reduceIte, hf]
end
def colA (l S : List (List Int)) : List Int := l.map fun s => (below S s : Int)
section
variable (P : Program) (F : String → Nat)
end
section
variable {α : Type}
end
section
variable {P : Program} {F : String → Nat} {α : Type}
end
@[go_sem] def c_iso_joined_stable_r0 : LL := [qB 1 0,qn 2 1]
@[go_sem] def c_iso_joined_stable_r1 (F : Fn) : LL := [qL 8 2 1,qc 9 (F "iso.joined.first") [.t 8],qc 10 (F "iso.colour") [.t 9],qm 7 10,qx 11 7 0,qx 12 7 1,qm 3 11,qm 4 12]
@[go_sem] def c_iso_joined_stable_r2 (F : Fn) : LL := [qL 14 2 1,qm 15 3,qc 16 (F "iso.joined.next") [.t 14,.t 15],qc 17 (F "iso.colour") [.t 16],qm 13 17,qx 18 13 0,qx 19 13 1,qm 5 18,qm 6 19]
@[go_sem] def c_iso_joined_stable_r3 : LL := [qm 20 6,qm 21 4,qo .eql 22 20 21]
@[go_sem] def c_iso_joined_stable_r4 : LL := [qm 23 3,qm 2 23]
@[go_sem] def c_iso_joined_stable_r5 : LL := [qm 24 5,qm 25 6,qm 3 24,qm 4 25]
def c_iso_joined_stable_b6 (F : Fn) : LC := (.block 1 (.seq (.reg (c_iso_joined_stable_r2 F) [1,3,4,5,6]) (.seq (.seq (.reg c_iso_joined_stable_r3 [1,3,5,6,22]) (.cond (.t 22) (.seq (.reg c_iso_joined_stable_r4 [2]) .ret) .skip)) (.reg c_iso_joined_stable_r5 [1,3,4]))))
@[go_sem] def c_iso_joined_stable (F : Fn) : LC := (.seq (.reg c_iso_joined_stable_r0 [1]) (.seq (.reg (c_iso_joined_stable_r1 F) [1,3,4]) (.block 0 (.loop [1,3,4] (c_iso_joined_stable_b6 F)))))
def h_iso_joined_stable : Hints := hOf [] (c_iso_joined_stable fun _ => 0)
@[go_sem] def c_iso_Refine_r0 : LL := [qB 1 0,qn 2 1,qi 3 0]
@[go_sem] def c_iso_Refine_r1 (F : Fn) : LL := [qL 5 2 1,qc 6 (F "graph.Valid") [.t 5],qm 4 6]
@[go_sem] def c_iso_Refine_r2 : LL := [qm 7 4,qk .neq 8 7 0]
@[go_sem] def c_iso_Refine_r3 : LL := [qm 9 4,qn 2 1,qm 3 9]
@[go_sem] def c_iso_Refine_r4 (F : Fn) : LL := [qL 10 2 1,⟨some 11,.buildSl 2 48 (.agg [.lst 1 [],.lst 3 []]) 1 [(0,.t 10)],none⟩,qc 12 (F "iso.join") [.t 11],qc 13 (F "iso.joined.stable") [.t 12],qm 2 13,qi 3 0]
@[go_sem] def c_iso_Refine (F : Fn) : LC := (.seq (.reg c_iso_Refine_r0 [1]) (.seq (.seq (.reg (c_iso_Refine_r1 F) [1,4]) (.seq (.reg c_iso_Refine_r2 [1,4,8]) (.cond (.t 8) (.seq (.reg c_iso_Refine_r3 [2,3]) .ret) .skip))) (.seq (.reg (c_iso_Refine_r4 F) [2,3]) .ret)))
def h_iso_Refine : Hints := hOf [] (c_iso_Refine fun _ => 0)
@[go_sem] def c_iso_both_r0 : LL := [qB 2 0,qB 3 1,qi 4 0]
@[go_sem] def c_iso_both_r1 (F : Fn) : LL := [qL 6 2 2,qc 7 (F "graph.Valid") [.t 6],qm 5 7]
@[go_sem] def c_iso_both_r2 : LL := [qm 8 5,qk .neq 9 8 0]
@[go_sem] def c_iso_both_r3 : LL := [qm 10 5,qm 4 10]
@[go_sem] def c_iso_both_r4 (F : Fn) : LL := [qL 11 2 3,qc 12 (F "graph.Valid") [.t 11],qm 4 12]
@[go_sem] def c_iso_both (F : Fn) : LC := (.seq (.reg c_iso_both_r0 [2,3]) (.seq (.seq (.reg (c_iso_both_r1 F) [3,5]) (.seq (.reg c_iso_both_r2 [3,5,9]) (.cond (.t 9) (.seq (.reg c_iso_both_r3 [4]) .ret) .skip))) (.seq (.reg (c_iso_both_r4 F) [4]) .ret)))
def h_iso_both : Hints := hOf [] (c_iso_both fun _ => 0)
@[go_sem] def c_iso_shaped_r0 : LL := [qB 2 0,qB 3 1,qb 4 false]
@[go_sem] def c_iso_shaped_r1 : LL := [qf 5 0 2,ql 6 1 5,qz 7 6,qf 8 0 3,ql 9 1 8,qz 10 9,qo .eql 11 7 10,qm 12 11,qg 12 true (qf 13 1 2),qg 12 true (ql 14 1 13),qg 12 true (qz 15 14),qg 12 true (qf 16 1 3),
 qg 12 true (ql 17 1 16),qg 12 true (qz 18 17),qg 12 true (qo .eql 19 15 18),qP 20 12 19,qm 4 20]
@[go_sem] def c_iso_shaped (F : Fn) : LC := (.seq (.reg c_iso_shaped_r0 [2,3]) (.seq (.reg c_iso_shaped_r1 [4]) .ret))
def h_iso_shaped : Hints := hOf [] (c_iso_shaped fun _ => 0)
def ndL (l : List (List Int)) : Nat := (dstL l).length
def stb (g : G) : Nat → List (List Int) → List Int
 | 0, s => colL s
 | k + 1, s => if ndL (nextL g (colL s)) = ndL s then colL s else stb g k (nextL g (colL s))
def stabL (g : G) : List Int := stb g (g.n.length + 1) (frstL g)
def refD (g : G) : D := if validG g = 0 then .tup [.lst 1 (ints (stabL g)), .int .i64 0] else .tup [.arr 1 [], .int .i64 (validG g)]
def bothE (a b : G) : Int := if validG a = 0 then validG b else validG a
section
variable (P : Program) (F : String → Nat)
def K_iso_joined_stable : Prop := ∀ g : G, InG g → FC P (F "iso.joined.stable") [gD g] (.lst 1 (ints (stabL g))) []
def K_iso_Refine : Prop := ∀ g : G, FC P (F "iso.Refine") [gD g] (refD g) []
def K_iso_both : Prop := ∀ a b : G, FC P (F "iso.both") [gD a, gD b] (.int .i64 (bothE a b)) []
def K_iso_shaped : Prop := ∀ a b : G, FC P (F "iso.shaped") [gD a, gD b] (.bool (decide (a.n.length = b.n.length) && decide (a.e.length = b.e.length))) []
end
section
variable {α : Type}
theorem ndL_le (l : List (List Int)) : ndL l ≤ l.length := dstL_len l
theorem dstL_nodup (l : List (List Int)) : (dstL l).Nodup := (dstL_strict l).imp fun {a b} h e => by subst e; rw [scmp_self] at h; omega
theorem below_lt {S : List (List Int)} {x y : List Int} (hx : x ∈ S) (h : scmp x y < 0) : below S x < below S y := by
 have hsub : ∀ z, z ∈ x :: S.filter (fun z => decide (scmp z x < 0)) → z ∈ x :: S := fun z hz => by
  rcases List.mem_cons.1 hz with rfl | hz
  ·simp
  ·exact List.mem_cons_of_mem _ (List.mem_filter.1 hz).1
 unfold below
 have h1 : ∀ z ∈ S, decide (scmp z x < 0) = true → decide (scmp z y < 0) = true := fun z _ hz => by
  simp only [decide_eq_true_eq] at *
  exact scmp_tr _ _ _ hz h
 induction S with
 | nil => cases hx
 | cons a S ih =>
  simp only [List.filter_cons]
  rcases List.mem_cons.1 hx with rfl | hx
  ·rw [if_neg (by simp [scmp_self]), if_pos (by simpa using h)]
   have : (S.filter fun z => decide (scmp z x < 0)).length ≤ (S.filter fun z => decide (scmp z y < 0)).length := by
    rw [← List.countP_eq_length_filter, ← List.countP_eq_length_filter]
    exact List.countP_mono_left fun z hz hzx => h1 z (by simp [hz]) hzx
   simp only [List.length_cons]
   omega
  ·have ih := ih hx (fun z hz => by
    rcases List.mem_cons.1 hz with rfl | hz
    ·simp
    ·exact List.mem_cons_of_mem _ (List.mem_filter.1 hz).1) fun z hz => h1 z (by simp [hz])
   by_cases ha : scmp a x < 0
   ·have hay : scmp a y < 0 := scmp_tr _ _ _ ha h
    rw [if_pos (by simpa using ha), if_pos (by simpa using hay)]
    simp only [List.length_cons]
    omega
   ·rw [if_neg (by simpa using ha)]
    split
    ·simp only [List.length_cons]; omega
    ·exact ih
theorem below_inj {S : List (List Int)} {x y : List Int} (hx : x ∈ S) (hy : y ∈ S) (h : below S x = below S y) : x = y := by
 have h1 : ¬ scmp x y < 0 := fun k => by have := below_lt hx k; omega
 have h2 : ¬ scmp y x < 0 := fun k => by have := below_lt hy k; omega
 have := scmp_neg x y
 exact scmp_eq _ _ (by omega)
theorem colL_gt {l : List (List Int)} {i : Nat} (h : i < l.length) : gt (colL l) (i : Int) = (below (dstL l) (gt l (i : Int)) : Int) := by
 rw [gt_nat (by simp [colL]; omega), gt_nat h]
 simp [colL]
theorem nextL_gt {g : G} {c : List Int} {i : Nat} (h : i < g.n.length) : gt (nextL g c) (i : Int) = sgnO g.e c i := by
 rw [gt_nat (by simp [nextL]; omega)]
 simp [nextL]
theorem frstL_length (g : G) : (frstL g).length = g.n.length := by simp [frstL]
theorem ndL_next {g : G} {s : List (List Int)} (hs : s.length = g.n.length) : ndL s ≤ ndL (nextL g (colL s)) := by
 have hnd : ((dstL s).map fun x => (below (dstL s) x : Int)).Nodup := by
  rw [List.nodup_iff_pairwise_ne, List.pairwise_map]
  have := dstL_nodup s
  rw [List.nodup_iff_pairwise_ne] at this
  refine List.Pairwise.imp_of_mem (fun {x y} hx hy hne e => hne (below_inj hx hy (by omega))) this
 have hsub : ((dstL s).map fun x => (below (dstL s) x : Int)) ⊆ (dstL (nextL g (colL s))).map fun l => l.headD 0 := by
  intro v hv
  obtain ⟨x, hx, rfl⟩ := List.mem_map.1 hv
  obtain ⟨i, hi, rfl⟩ := List.mem_iff_getElem.1 (dstL_mem.1 hx)
  refine List.mem_map.2 ⟨gt (nextL g (colL s)) (i : Int), dstL_mem.2 (gt_mem (by omega) (by rw [nextL_length]; omega)), ?_⟩
  rw [nextL_gt (by omega)]
  simp only [sgnO, List.headD_cons]
  rw [colL_gt hi, gt_nat hi]
 have := List.Nodup.length_le_of_subset hnd hsub
 simpa [ndL] using this
theorem InG.of_valid {g : G} (h : validG g = 0) : InG g := by
 obtain ⟨h1, h2, _, h4⟩ := valid_spec h
 refine ⟨by omega, by omega, fun x hx => ?_⟩
 have := h4 x hx
 simp only [fitsE, Bool.and_eq_true, decide_eq_true_eq] at this
 omega
theorem joinG_one (g : G) : joinG [g] = g := by
 obtain ⟨n, e⟩ := g
 simp only [joinG, List.foldl_cons, List.foldl_nil, join2, List.nil_append, List.length_nil, G.mk.injEq, true_and]
 have : shJ 0 = id := by
  funext x
  obtain ⟨t, f, o⟩ := x
  simp [shJ]
 rw [this, List.map_id]
theorem sgnO_len {es : List E} {c : List Int} {i : Nat} (h : es.length ≤ 200) : (sgnO es c i).length ≤ 1000000 := by
 obtain ⟨_, _, s3⟩ := sgn_len (c := c) (i := i) h
 simp only [sgnO, List.length_cons]
 omega
theorem nextL_len {g : G} {c : List Int} (h : g.e.length ≤ 200) : ∀ x ∈ nextL g c, x.length ≤ 1000000 := fun x hx => by
 obtain ⟨i, _, rfl⟩ := List.mem_map.1 hx
 exact sgnO_len h
theorem frstL_len (g : G) : ∀ x ∈ frstL g, x.length ≤ 1000000 := fun x hx => by
 obtain ⟨i, _, rfl⟩ := List.mem_map.1 hx
 simp
end
section
variable {P : Program} {F : String → Nat} {α : Type}
theorem w_iso_joined_stable (hf : K_iso_joined_first P F) (hc : K_iso_colour P F) (hn : K_iso_joined_next P F) (g : G) (hi : InG g) : W P (c_iso_joined_stable F) (DoneF [.t 2] [] (.lst 1 (ints (stabL g))) []) (init [gD g]) := by
 have r1 := hf g hi.1
 have r2 := hc (frstL g) (by have := hi.1; rw [frstL_length]; omega) (frstL_len g)
 have rn := fun c h => hn g c hi h
 have rc := fun s (h1 : s.length = g.n.length) (h2 : ∀ x ∈ s, x.length ≤ 1000000) => hc s (by have := hi.1; omega) h2
 have hst : stabL g = stb g (g.n.length + 1) (frstL g) := rfl
 have hlen := fun c => nextL_len (g := g) (c := c) hi.2.1
 have hfl := frstL_length g
 have hfx := frstL_len g
 have hnl := nextL_length g
 have hmono := fun s => ndL_next (g := g) (s := s)
 generalize stabL g = R at *
 generalize hN : g.n.length = N at *
 have hN2 := hi.1
 simp only [gD] at *
 refine W_ofF ?_
 simp (disch := omega) only [go_sem, ↓reduceIte]
 refine call_fz r1 ?_
 simp (disch := omega) only [go_sem, ↓reduceIte]
 refine call_by r2 ?_
 simp (disch := omega) only [go_sem, ↓reduceIte, colL_length]
 refine W_loop (fun s : List (List Int) => ⟨[(1, .pt 0 0), (3, .sl 1 0 (colL s).length), (4, .int .i64 (dstL s).length)], [(0, .box [.lst 1 (ints g.n), .lst 3 (eds g.e)]), (1, .arr 1 (ints (colL s)))], 2⟩)
  (fun s => s.length = N ∧ (∀ x ∈ s, x.length ≤ 1000000) ∧ ∃ k, R = stb g k s ∧ N < k + ndL s) (fun s => N - ndL s) (frstL g) ?_ ?_ ?_
 ·simp (disch := omega) only [go_sem, ↓reduceIte, colL_length]
 ·exact ⟨hfl, hfx, N + 1, hst, by omega⟩
 ·rintro s ⟨h1, h2, k, h3, h4⟩
  have hcl := colL_length s
  have q1 := rn (colL s) (by omega)
  have q2 := rc (nextL g (colL s)) (by rw [hnl]) (hlen (colL s))
  have hm := hmono s (by omega)
  have hle := ndL_le s
  have hle2 := ndL_le (nextL g (colL s))
  rw [hnl] at hle2
  obtain ⟨k, rfl⟩ : ∃ j, k = j + 1 := ⟨k - 1, by omega⟩
  rw [stb] at h3
  have hcl2 := colL_length (nextL g (colL s))
  rw [hnl] at hcl2
  have hnx := hnl (colL s)
  have hx2 := hlen (colL s)
  unfold ndL at *
  simp (disch := omega) only [go_sem, ↓reduceIte, c_iso_joined_stable_b6, hcl, h1]
  refine call_fz q1 ?_
  simp (disch := omega) only [go_sem, ↓reduceIte]
  refine call_by q2 ?_
  simp (disch := omega) only [go_sem, ↓reduceIte]
  refine bran_dec (fun d => ?_) (fun d => ?_)
  ·rw [if_pos (by omega)] at h3
   simp (disch := omega) only [go_sem, ↓reduceIte, hcl, h1]
   rw [h3]
  ·rw [if_neg (by omega)] at h3
   simp (disch := omega) only [go_sem, ↓reduceIte, hcl2]
   exact ⟨nextL g (colL s), by simp [hcl2], ⟨by omega, hx2, k, h3, by omega⟩, by omega⟩
theorem w_iso_Refine (hv : K_graph_Valid P F) (hj : K_iso_join P F) (hs : K_iso_joined_stable P F) (g : G) : W P (c_iso_Refine F) (DoneF [.t 2, .t 3] [] (refD g) []) (init [gD g]) := by
 have r1 := hv g
 have r2 := fun h : validG g = 0 => hj [g] (by simp) (by simpa using h)
 have r3 := fun h : validG g = 0 => hs g (InG.of_valid h)
 rw [joinG_one] at r2
 unfold refD
 generalize validG g = v at *
 generalize stabL g = R at *
 simp only [gDs, List.map_cons, List.map_nil, gD, gA] at *
 refine W_ofF ?_
 simp (disch := omega) only [go_sem, ↓reduceIte]
 refine call_by r1 ?_
 simp (disch := omega) only [go_sem, ↓reduceIte]
 refine bran_ndec (fun d => ?_) (fun d => ?_)
 ·rw [if_neg d]
  simp (disch := omega) only [go_sem, ↓reduceIte]
 ·subst d
  rw [if_pos rfl]
  simp (disch := omega) only [go_sem, ↓reduceIte]
  refine call_by (r2 rfl) ?_
  simp (disch := omega) only [go_sem, ↓reduceIte]
  refine call_fz (r3 rfl) ?_
  simp (disch := omega) only [go_sem, ↓reduceIte]
theorem w_iso_both (hv : K_graph_Valid P F) (a b : G) : W P (c_iso_both F) (Done [.t 4] [] (.int .i64 (bothE a b)) []) (init [gD a, gD b]) := by
 have r1 := hv a
 have r2 := hv b
 unfold bothE
 generalize validG a = v at *
 generalize validG b = u at *
 simp only [gD] at *
 refine W_of ?_
 simp (disch := omega) only [go_sem, ↓reduceIte]
 refine call_by r1 ?_
 simp (disch := omega) only [go_sem, ↓reduceIte]
 refine bran_ndec (fun d => ?_) (fun d => ?_)
 ·rw [if_neg d]
  simp (disch := omega) only [go_sem, ↓reduceIte]
 ·rw [if_pos d]
  simp (disch := omega) only [go_sem, ↓reduceIte]
  refine call_by r2 ?_
  simp (disch := omega) only [go_sem, ↓reduceIte]
theorem w_iso_shaped (a b : G) : W P (c_iso_shaped F) (Done [.t 4] [] (.bool (decide (a.n.length = b.n.length) && decide (a.e.length = b.e.length))) []) (init [gD a, gD b]) := by
 simp only [gD] at *
 refine W_of ?_
 have e1 : decide ((a.n.length : Int) = b.n.length) = decide (a.n.length = b.n.length) := by rw [decide_eq_decide]; omega
 have e2 : decide ((a.e.length : Int) = b.e.length) = decide (a.e.length = b.e.length) := by rw [decide_eq_decide]; omega
 by_cases c : a.n.length = b.n.length
 ·rw [decide_eq_true c] at *
  simp (disch := omega) only [go_sem, ↓reduceIte, e1, e2]
 ·rw [decide_eq_false c] at *
  simp (disch := omega) only [go_sem, ↓reduceIte, e1, e2]
end
@[go_sem] def c_iso_rounds_r0 : LL := [qB 3 0,qB 4 1]
@[go_sem] def c_iso_rounds_r1 (F : Fn) : LL := [qL 11 2 3,qL 12 2 4,⟨some 13,.buildSl 2 48 (.agg [.lst 1 [],.lst 3 []]) 2 [(0,.t 11),(1,.t 12)],none⟩,qc 14 (F "iso.join") [.t 13],qa 6 [.nl 1,.nl 3],qs 2 6 14]
@[go_sem] def c_iso_rounds_r2 (F : Fn) : LL := [qL 15 2 6,qc 16 (F "iso.joined.first") [.t 15],qm 7 16]
@[go_sem] def c_iso_rounds_r3 : LL := [qi 8 0]
@[go_sem] def c_iso_rounds_r4 : LL := [qm 17 8,qk .leq 18 17 40]
@[go_sem] def c_iso_rounds_r5 : LL := [qm 21 2,qm 22 8,qm 23 7,⟨some 24,.callm (.t 21) [.t 22,.t 23],none⟩]
@[go_sem] def c_iso_rounds_r6 (F : Fn) : LL := [qm 26 7,qc 27 (F "iso.colour") [.t 26],qm 25 27,qx 28 25 0,qx 29 25 1,qm 9 28,qm 10 29]
@[go_sem] def c_iso_rounds_r7 (F : Fn) : LL := [qL 30 2 6,qm 31 9,qc 32 (F "iso.joined.next") [.t 30,.t 31],qm 7 32]
@[go_sem] def c_iso_rounds_r8 : LL := [qm 19 8,qk .add 20 19 1,qm 8 20]
def c_iso_rounds_b9 (F : Fn) : LC := (.seq (.seq (.reg c_iso_rounds_r4 [2,6,7,8,18]) (.cond (.t 18) .skip (.exit 0))) (.seq (.block 1 (.seq (.seq (.reg c_iso_rounds_r5 [2,6,7,8,24]) (.cond (.t 24) .ret .skip)) (.seq (.reg (c_iso_rounds_r6 F) [2,6,8,9]) (.reg (c_iso_rounds_r7 F) [2,6,7,8])))) (.reg c_iso_rounds_r8 [2,6,7,8])))
@[go_sem] def c_iso_rounds (F : Fn) : LC := (.seq (.reg c_iso_rounds_r0 [2,3,4]) (.seq (.reg (c_iso_rounds_r1 F) [2,6]) (.seq (.reg (c_iso_rounds_r2 F) [2,6,7]) (.seq (.reg c_iso_rounds_r3 [2,6,7,8]) (.block 0 (.loop [2,6,7,8] (c_iso_rounds_b9 F)))))))
def h_iso_rounds : Hints := hn [2] [(0,[2,3,4]),(1,[2,6]),(2,[2,6,7]),(3,[2,6,7,8]),(4,[2,6,7,8,18]),(5,[2,6,7,8]),(6,[2,6,7,8,24]),(7,[2,6,8,9]),(8,[2,6,7,8])] [(4,[2,6,7,8])]
@[go_sem] def c_iso_count_r0 : LL := [qi 6 0,qi 7 0]
@[go_sem] def c_iso_count_r1 : LL := [qi 8 0,qi 9 0]
@[go_sem] def c_iso_count_r2 : LL := [qm 12 0,qz 13 12,qi 14 0]
@[go_sem] def c_iso_count_r3 : LL := [qo .lss 15 14 13]
@[go_sem] def c_iso_count_r4 : LL := [qm 16 14,qd 17 1 12 14,ql 18 1 17,qm 10 16,qm 11 18]
@[go_sem] def c_iso_count_r5 (F : Fn) : LL := [qm 22 11,qm 23 2,qc 24 (F "slices.Equal.I") [.t 22,.t 23],qv 25 24,qm 21 25]
@[go_sem] def c_iso_count_r6 : LL := [qm 27 10,qm 28 1,qo .lss 29 27 28,qm 26 29]
@[go_sem] def c_iso_count_r7 : LL := [qm 30 8,qk .add 31 30 1,qm 8 31]
@[go_sem] def c_iso_count_r8 : LL := [qm 19 9,qk .add 20 19 1,qm 9 20]
@[go_sem] def c_iso_count_r9 : LL := [qk .add 32 14 1,qm 14 32]
def c_iso_count_b10 (F : Fn) : LC := (.seq (.reg c_iso_count_r3 [1,2,8,9,12,13,14,15]) (.seq (.cond (.t 15) .skip (.exit 0)) (.seq (.block 1 (.seq (.reg c_iso_count_r4 [1,2,8,9,10,11,12,13,14]) (.block 2 (.seq (.reg (c_iso_count_r5 F) [1,2,8,9,10,12,13,14,21]) (.cond (.t 21) .skip (.seq (.reg c_iso_count_r6 [1,2,8,9,12,13,14,26]) (.cond (.t 26) (.reg c_iso_count_r7 [1,2,8,9,12,13,14]) (.reg c_iso_count_r8 [1,2,8,9,12,13,14])))))))) (.reg c_iso_count_r9 [1,2,8,9,12,13,14]))))
@[go_sem] def c_iso_count_r11 : LL := [qm 33 8,qm 34 9,qm 6 33,qm 7 34]
@[go_sem] def c_iso_count (F : Fn) : LC := (.seq (.reg c_iso_count_r0 [0,1,2]) (.seq (.reg c_iso_count_r1 [0,1,2,8,9]) (.seq (.seq (.reg c_iso_count_r2 [1,2,8,9,12,13,14]) (.block 0 (.loop [1,2,8,9,12,13,14] (c_iso_count_b10 F)))) (.seq (.reg c_iso_count_r11 [6,7]) .ret))))
def h_iso_count : Hints := hn [] [(0,[0,1,2]),(1,[0,1,2,8,9]),(2,[1,2,8,9,12,13,14]),(3,[1,2,8,9,12,13,14,15]),(4,[1,2,8,9,10,11,12,13,14]),(5,[1,2,8,9,12,13,14]),(6,[1,2,8,9,10,12,13,14,21]),(7,[1,2,8,9,12,13,14,26]),(8,[1,2,8,9,12,13,14]),(9,[1,2,8,9,12,13,14]),(10,[6,7])] [(3,[1,2,8,9,12,13,14])]
@[go_sem] def c_iso_Reason_1_r0 : LL := [qb 7 false]
@[go_sem] def c_iso_Reason_1_r1 (F : Fn) : LL := [qm 13 1,qc 14 (F "slices.Clone.int3") [.t 13],qm 8 14]
@[go_sem] def c_iso_Reason_1_r2 (F : Fn) : LL := [qm 15 8,⟨some 16,.call (F "slices.SortFunc.int3") [.t 15,.k (.clo (F "slices.Compare.I") [])] [.mu,.rd],none⟩]
@[go_sem] def c_iso_Reason_1_r3 : LL := [qm 17 8,qz 18 17,qi 19 0]
@[go_sem] def c_iso_Reason_1_r4 : LL := [qo .lss 20 19 18]
@[go_sem] def c_iso_Reason_1_r5 : LL := [qd 21 1 17 19,ql 22 1 21,qm 10 22]
@[go_sem] def c_iso_Reason_1_r6 (F : Fn) : LL := [qm 24 1,qf 25 0 2,ql 26 1 25,qz 27 26,qm 28 10,qc 29 (F "iso.count") [.t 24,.t 27,.t 28],qm 23 29,qx 30 23 0,qx 31 23 1,qm 11 30,qm 12 31]
@[go_sem] def c_iso_Reason_1_r7 : LL := [qm 32 11,qm 33 12,qo .neq 34 32 33]
@[go_sem] def c_iso_Reason_1_r8 (F : Fn) : LL := [qm 35 0,qm 36 10,qc 37 (F "slices.Clone.I") [.t 36],qm 38 11,qm 39 12,qu 40 [.int .i64 (0),.nl 1,.int .i64 (0),.int .i64 (0)] [(0,1,.t 35),(1,1,.t 37),(2,1,.t 38),(3,1,.t 39)],
 qs 4 3 40,⟨none,.store 1 (.t 4) (.k (.bool true)),none⟩]
@[go_sem] def c_iso_Reason_1_r9 : LL := [qb 7 true]
@[go_sem] def c_iso_Reason_1_r10 : LL := [qk .add 41 19 1,qm 19 41]
def c_iso_Reason_1_b11 (F : Fn) : LC := (.seq (.reg c_iso_Reason_1_r4 [0,1,2,3,4,17,18,19,20]) (.seq (.cond (.t 20) .skip (.exit 0)) (.seq (.block 1 (.seq (.reg c_iso_Reason_1_r5 [0,1,2,3,4,10,17,18,19]) (.seq (.reg (c_iso_Reason_1_r6 F) [0,1,2,3,4,10,11,12,17,18,19]) (.seq (.reg c_iso_Reason_1_r7 [0,1,2,3,4,10,11,12,17,18,19,34]) (.cond (.t 34) (.seq (.reg (c_iso_Reason_1_r8 F) [2,3,4]) (.seq (.reg c_iso_Reason_1_r9 [2,3,4,7]) .ret)) .skip))))) (.reg c_iso_Reason_1_r10 [0,1,2,3,4,17,18,19]))))
@[go_sem] def c_iso_Reason_1_r12 : LL := [qb 7 false]
@[go_sem] def c_iso_Reason_1 (F : Fn) : LC := (.seq (.reg c_iso_Reason_1_r0 [0,1,2,3,4]) (.seq (.reg (c_iso_Reason_1_r1 F) [0,1,2,3,4,8]) (.seq (.reg (c_iso_Reason_1_r2 F) [0,1,2,3,4,8]) (.seq (.seq (.reg c_iso_Reason_1_r3 [0,1,2,3,4,17,18,19]) (.block 0 (.loop [0,1,2,3,4,17,18,19] (c_iso_Reason_1_b11 F)))) (.seq (.reg c_iso_Reason_1_r12 [2,3,4,7]) .ret)))))
def h_iso_Reason_1 : Hints := hOf [2, 3, 4] (c_iso_Reason_1 fun _ => 0)
def sgR (g : G) : Nat → List (List Int)
 | 0 => frstL g
 | r + 1 => nextL g (colL (sgR g r))
def runR {σ : Type} (f : σ → Nat → σ × Bool) : Nat → σ → Nat → σ
 | 0, s, _ => s
 | k + 1, s, r => if (f s r).2 then (f s r).1 else runR f k (f s r).1 (r + 1)
def plainC : D → Bool
 | .int .. | .bool _ | .lst .. => true
 | _ => false
def cntL (l : List (List Int)) (x : List Int) : Nat := (l.filter fun y => decide (y = x)).length
section
variable (P : Program) (F : String → Nat)
def K_iso_rounds : Prop := ∀ (σ : Type) (c1 c2 c3 : σ → List D) (f : σ → Nat → σ × Bool) (g : Nat) (a b : G), validG a = 0 → validG b = 0 → (∀ s, (c1 s).all plainC = true ∧ (c2 s).all plainC = true ∧ (c3 s).all plainC = true) →
 (∀ s (r : Nat), r ≤ 40 → FC P g [.int .i64 r, .lst 1 (iis (sgR (joinG [a, b]) r)), .box (c1 s), .box (c2 s), .box (c3 s)] (.bool (f s r).2) [(2, .box (c1 (f s r).1)), (3, .box (c2 (f s r).1)), (4, .box (c3 (f s r).1))]) →
 ∀ s : σ, FC P (F "iso.rounds") [gD a, gD b, .clb g [.box (c1 s), .box (c2 s), .box (c3 s)]] (.tup []) [(2, .clb g [.box (c1 (runR f 41 s 0)), .box (c2 (runR f 41 s 0)), .box (c3 (runR f 41 s 0))])]
def K_iso_count : Prop := ∀ (l : List (List Int)) (k : Nat) (x : List Int), l.length ≤ 1000000 → (∀ y ∈ l, y.length ≤ 1000000) → FC P (F "iso.count") [.lst 1 (iis l), .int .i64 k, .lst 1 (ints x)] (.tup [.int .i64 (cntL (l.take k) x), .int .i64 (cntL (l.drop k) x)]) []
end
section
variable {α : Type}
theorem pl_adopt : ∀ {c : List D} {n : Nat}, c.all plainC = true → adopts adopt0 n c = (c, [], n)
 | [], n, _ => rfl
 | d :: c, n, h => by
  simp only [List.all_cons, Bool.and_eq_true] at h
  have h0 : adopt0 n d = (d, [], n) := by cases d <;> first | rfl | (simp [plainC] at h)
  simp only [adopts, h0, pl_adopt (n := n) h.2, List.nil_append]
theorem pl_expel : ∀ {c : List D} {hp : List (Nat × Ent)}, c.all plainC = true → expels expel0 hp c = some (c, hp)
 | [], hp, _ => rfl
 | d :: c, hp, h => by
  simp only [List.all_cons, Bool.and_eq_true] at h
  have h0 : expel0 hp d = some (d, hp) := by cases d <;> first | rfl | (simp [plainC] at h)
  simp only [expels, h0, pl_expel (hp := hp) h.2]
theorem pl_expelP : ∀ {c : List D} {hp : List (Nat × Ent)}, c.all plainC = true → expels expelP hp c = some (c, hp)
 | [], hp, _ => rfl
 | d :: c, hp, h => by
  simp only [List.all_cons, Bool.and_eq_true] at h
  have h0 : expelP hp d = some (d, hp) := by cases d <;> first | rfl | (simp [plainC] at h)
  simp only [expels, h0, pl_expelP (hp := hp) h.2]
theorem pl_ren : ∀ {c : List D} {hp : List (Nat × Ent)} {n : NS}, c.all plainC = true → renL (ren0 hp) n c = (c, n)
 | [], hp, n, _ => rfl
 | d :: c, hp, n, h => by
  simp only [List.all_cons, Bool.and_eq_true] at h
  have h0 : ren0 hp n d = (d, n) := by cases d <;> first | rfl | (simp [plainC] at h)
  simp only [renL, h0, pl_ren (hp := hp) (n := n) h.2]
theorem pl_ok {c : List D} (h : c.all plainC = true) : c.all okA0 = true := by
 rw [List.all_eq_true] at *
 intro d hd
 have := h d hd
 cases d <;> first | rfl | (simp [plainC] at this)
theorem InG.join {a b : G} (ha : validG a = 0) (hb : validG b = 0) : InG (joinG [a, b]) ∧ (joinG [a, b]).n.length = a.n.length + b.n.length := by
 have h1 := InG.of_valid ha
 have h2 := InG.of_valid hb
 obtain ⟨v1, v2, _⟩ := valid_spec ha
 obtain ⟨u1, u2, _⟩ := valid_spec hb
 have e : joinG [a, b] = join2 a b := by
  have := joinG_one a
  simp only [joinG, List.foldl_cons, List.foldl_nil] at this ⊢
  rw [this]
 rw [e]
 refine ⟨⟨by simp [join2]; omega, by simp [join2]; omega, fun x hx => ?_⟩, by simp [join2]⟩
 simp only [join2, List.length_append]
 rcases List.mem_append.1 hx with hx | hx
 ·have := h1.2.2 x hx; omega
 ·obtain ⟨y, hy, rfl⟩ := List.mem_map.1 hx
  have := h2.2.2 y hy
  simp only [shJ]
  omega
theorem sgR_length (g : G) : ∀ r, (sgR g r).length = g.n.length
 | 0 => frstL_length g
 | r + 1 => nextL_length g _
theorem sgR_len {g : G} (h : g.e.length ≤ 200) : ∀ r, ∀ x ∈ sgR g r, x.length ≤ 1000000
 | 0 => frstL_len g
 | r + 1 => nextL_len h
end
section
variable {P : Program} {F : String → Nat} {α : Type}
theorem w_iso_rounds (hj : K_iso_join P F) (hf : K_iso_joined_first P F) (hc : K_iso_colour P F) (hn : K_iso_joined_next P F) (σ : Type) (c1 c2 c3 : σ → List D) (f : σ → Nat → σ × Bool) (g : Nat) (a b : G) (va : validG a = 0) (vb : validG b = 0)
  (hp : ∀ s, (c1 s).all plainC = true ∧ (c2 s).all plainC = true ∧ (c3 s).all plainC = true)
  (hg : ∀ s (r : Nat), r ≤ 40 → FC P g [.int .i64 r, .lst 1 (iis (sgR (joinG [a, b]) r)), .box (c1 s), .box (c2 s), .box (c3 s)] (.bool (f s r).2) [(2, .box (c1 (f s r).1)), (3, .box (c2 (f s r).1)), (4, .box (c3 (f s r).1))]) (s : σ) :
  W P (c_iso_rounds F) (Done [] [2] (.tup []) [(2, .clb g [.box (c1 (runR f 41 s 0)), .box (c2 (runR f 41 s 0)), .box (c3 (runR f 41 s 0))])]) (init [gD a, gD b, .clb g [.box (c1 s), .box (c2 s), .box (c3 s)]]) := by
 have r1 := hj [a, b] (by simp) (by simp [va, vb])
 obtain ⟨hi, _⟩ := InG.join va vb
 have r2 := hf _ hi.1
 have hsl := sgR_length (joinG [a, b])
 have hsx := sgR_len (g := joinG [a, b]) hi.2.1
 have hsc := fun r => hc (sgR (joinG [a, b]) r) (by have := hi.1; rw [hsl]; omega) (hsx r)
 have hsn := fun r => hn (joinG [a, b]) (colL (sgR (joinG [a, b]) r)) hi (by rw [colL_length, hsl])
 have hs0 : frstL (joinG [a, b]) = sgR (joinG [a, b]) 0 := rfl
 have hss : ∀ r, nextL (joinG [a, b]) (colL (sgR (joinG [a, b]) r)) = sgR (joinG [a, b]) (r + 1) := fun _ => rfl
 rw [hs0] at r2
 simp only [hss] at hsn
 have hN := hi.1
 clear hs0 hss hi hc hn hf hj
 simp only [gDs, List.map_cons, List.map_nil, gD, gA] at *
 generalize joinG [a, b] = J at *
 have ad : ∀ s n, adopts adopt0 n (c1 s) = (c1 s, [], n) ∧ adopts adopt0 n (c2 s) = (c2 s, [], n) ∧ adopts adopt0 n (c3 s) = (c3 s, [], n) := fun s n => ⟨pl_adopt (hp s).1, pl_adopt (hp s).2.1, pl_adopt (hp s).2.2⟩
 have ex : ∀ s hp', expels expel0 hp' (c1 s) = some (c1 s, hp') ∧ expels expel0 hp' (c2 s) = some (c2 s, hp') ∧ expels expel0 hp' (c3 s) = some (c3 s, hp') := fun s _ => ⟨pl_expel (hp s).1, pl_expel (hp s).2.1, pl_expel (hp s).2.2⟩
 have ep : ∀ s hp', expels expelP hp' (c1 s) = some (c1 s, hp') ∧ expels expelP hp' (c2 s) = some (c2 s, hp') ∧ expels expelP hp' (c3 s) = some (c3 s, hp') := fun s _ => ⟨pl_expelP (hp s).1, pl_expelP (hp s).2.1, pl_expelP (hp s).2.2⟩
 have rn : ∀ s hp' n, renL (ren0 hp') n (c1 s) = (c1 s, n) ∧ renL (ren0 hp') n (c2 s) = (c2 s, n) ∧ renL (ren0 hp') n (c3 s) = (c3 s, n) := fun s _ _ => ⟨pl_ren (hp s).1, pl_ren (hp s).2.1, pl_ren (hp s).2.2⟩
 have ok : ∀ s, (c1 s).all okA0 = true ∧ (c2 s).all okA0 = true ∧ (c3 s).all okA0 = true := fun s => ⟨pl_ok (hp s).1, pl_ok (hp s).2.1, pl_ok (hp s).2.2⟩
 refine W_of ?_
 simp (disch := omega) only [go_sem, ↓reduceIte, ad]
 refine call_by r1 ?_
 simp (disch := omega) only [go_sem, ↓reduceIte, ad]
 refine call_fz r2 ?_
 simp (disch := omega) only [go_sem, ↓reduceIte]
 generalize hU : runR f 41 s 0 = U
 refine W_loop (fun p : Nat × σ => ⟨[(2, .clo g [.pt 0 0, .pt 1 0, .pt 2 0]), (6, .pt 5 0), (7, .sl 6 0 (sgR J p.1).length), (8, .int .i64 p.1)],
   [(0, .box (c1 p.2)), (1, .box (c2 p.2)), (2, .box (c3 p.2)), (3, .imm 1 (ints J.n)), (4, .imm 3 (eds J.e)), (5, .box [.sl 3 0 J.n.length, .sl 4 0 J.e.length]), (6, .arr 1 (iis (sgR J p.1)))], 7⟩) (fun p => p.1 ≤ 41 ∧ U = runR f (41 - p.1) p.2 p.1) (fun p => 41 - p.1) (0, s) ?_ ?_ ?_
 ·simp (disch := omega) only [go_sem, ↓reduceIte, rn]
  rfl
 ·exact ⟨by simp, hU.symm⟩
 ·rintro ⟨r, t⟩ ⟨h1, h2⟩
  simp only at h1 h2
  simp (disch := omega) only [go_sem, ↓reduceIte, c_iso_rounds_b9]
  refine bran_dec (fun d => ?_) (fun d => ?_)
  ·have q := hg t r (by omega)
   have qc := hsc r
   have qn := hsn r
   rw [show 41 - r = (40 - r) + 1 by omega, runR] at h2
   cases hb : (f t r).2 with
   | true =>
    rw [hb, if_pos rfl] at h2
    rw [hb] at q
    simp (disch := omega) only [go_sem, ↓reduceIte, ad, ex, ep, ok]
    refine call_fz q ?_
    rw [← h2] at *
    simp (disch := omega) only [go_sem, ↓reduceIte, ad, ex, ep, ok, rn]
   | false =>
    rw [hb, if_neg (by simp)] at h2
    rw [hb] at q
    generalize (f t r).1 = u at *
    simp (disch := omega) only [go_sem, ↓reduceIte, ad, ex, ep, ok]
    refine call_fz q ?_
    simp (disch := omega) only [go_sem, ↓reduceIte, ad, ex, ep, ok, rn]
    refine call_by qc ?_
    simp (disch := omega) only [go_sem, ↓reduceIte, ad, ex, ep, ok, rn]
    refine call_fz qn ?_
    simp (disch := omega) only [go_sem, ↓reduceIte, ad, ex, ep, ok, rn]
    refine ⟨(r + 1, u), by simp, ⟨by simp only; omega, ?_⟩, by simp only; omega⟩
    rw [h2]
    simp only
    congr 1
    omega
  ·obtain rfl : r = 41 := by omega
   rw [Nat.sub_self, runR] at h2
   rw [h2]
   simp (disch := omega) only [go_sem, ↓reduceIte, ad, ex, ep, ok]
theorem pl_okA0 {c : List D} (h : c.all plainC = true) : okB (.box c) = true := by
 show c.all okA0 = true
 rw [List.all_eq_true] at *
 intro d hd
 have := h d hd
 cases d <;> first | rfl | (simp [plainC] at this)
theorem rounds_ok {a b : G} {g : Nat} {c1 c2 c3 : List D} (h : c1.all plainC = true ∧ c2.all plainC = true ∧ c3.all plainC = true) : [gD a, gD b, .clb g [.box c1, .box c2, .box c3]].all okA1 = true := by
 have : okA1 (.clb g [.box c1, .box c2, .box c3]) = true := by
  show [D.box c1, .box c2, .box c3].all okB = true
  simp only [List.all_cons, List.all_nil, pl_okA0 h.1, pl_okA0 h.2.1, pl_okA0 h.2.2, Bool.and_true]
 simp only [List.all_cons, List.all_nil, this, Bool.and_true]
 rfl
end
@[go_sem] def c_iso_Reason_r0 : LL := [qB 2 0,qB 3 1,qa 4 [.int .i64 (0),.nl 1,.int .i64 (0),.int .i64 (0)],qi 5 0]
@[go_sem] def c_iso_Reason_r1 (F : Fn) : LL := [qL 9 2 2,qL 10 2 3,qc 11 (F "iso.both") [.t 9,.t 10],qm 6 11]
@[go_sem] def c_iso_Reason_r2 : LL := [qm 12 6,qk .neq 13 12 0]
@[go_sem] def c_iso_Reason_r3 : LL := [qu 14 [.int .i64 (0),.nl 1,.int .i64 (0),.int .i64 (0)] [],qm 15 6,qs 4 4 14,qm 5 15]
@[go_sem] def c_iso_Reason_r4 : LL := [qu 16 [.int .i64 (0),.nl 1,.int .i64 (0),.int .i64 (0)] [],qa 7 [.int .i64 (0),.nl 1,.int .i64 (0),.int .i64 (0)],qa 8 [.bool false],qs 4 7 16,
 ⟨none,.store 1 (.t 8) (.k (.bool false)),none⟩]
@[go_sem] def c_iso_Reason_r5 (F : Fn) : LL := [qL 17 2 2,qL 18 2 3,⟨some 19,.mkf (F "iso.Reason.1") [.t 2,.t 7,.t 8],none⟩,⟨some 20,.call (F "iso.rounds") [.t 17,.t 18,.t 19] [.rd,.rd,.mp],none⟩]
@[go_sem] def c_iso_Reason_r6 : LL := [ql 21 1 8,qv 22 21]
@[go_sem] def c_iso_Reason_r7 : LL := [qu 23 [.int .i64 (0),.nl 1,.int .i64 (0),.int .i64 (0)] [],qs 4 4 23,qi 5 10]
@[go_sem] def c_iso_Reason_r8 : LL := [qL 24 4 7,qs 4 4 24,qi 5 0]
@[go_sem] def c_iso_Reason (F : Fn) : LC := (.seq (.reg c_iso_Reason_r0 [2,3,4]) (.seq (.seq (.reg (c_iso_Reason_r1 F) [2,3,4,6]) (.seq (.reg c_iso_Reason_r2 [2,3,4,6,13]) (.cond (.t 13) (.seq (.reg c_iso_Reason_r3 [4,5]) .ret) .skip))) (.seq (.reg c_iso_Reason_r4 [2,3,4,7,8]) (.seq (.reg (c_iso_Reason_r5 F) [4,7,8]) (.seq (.seq (.reg c_iso_Reason_r6 [4,7,22]) (.cond (.t 22) (.seq (.reg c_iso_Reason_r7 [4,5]) .ret) .skip)) (.seq (.reg c_iso_Reason_r8 [4,5]) .ret))))))
def h_iso_Reason : Hints := hOf [] (c_iso_Reason fun _ => 0)
structure Df where
 r : Int
 c : List Int
 x : Int
 y : Int
 deriving DecidableEq, Inhabited
def dfC (d : Df) : List D := [.int .i64 d.r, .lst 1 (ints d.c), .int .i64 d.x, .int .i64 d.y]
def difS (l : List (List Int)) (k : Nat) : Option (List Int) := (sortL l).find? fun x => !decide (cntL (l.take k) x = cntL (l.drop k) x)
def stpR (J : G) (k : Nat) (s : Df × Bool) (r : Nat) : (Df × Bool) × Bool := match difS (sgR J r) k with
 | some x => ((⟨r, x, cntL ((sgR J r).take k) x, cntL ((sgR J r).drop k) x⟩, true), true)
 | none => (s, false)
def rsnR (a b : G) : Df × Bool := runR (stpR (joinG [a, b]) a.n.length) 41 (⟨0, [], 0, 0⟩, false) 0
def zdf : D := .agg [.int .i64 0, .arr 1 [], .int .i64 0, .int .i64 0]
def rsnD (a b : G) : D := if bothE a b = 0 then (if (rsnR a b).2 = true then .tup [.agg (dfC (rsnR a b).1), .int .i64 0] else .tup [zdf, .int .i64 10]) else .tup [zdf, .int .i64 (bothE a b)]
section
variable (P : Program) (F : String → Nat)
def K_iso_Reason_1 : Prop := ∀ (l : List (List Int)) (r : Nat) (a : G) (d : Df) (b : Bool), r ≤ 1000 → l.length ≤ 1000 → a.n.length ≤ 1000 → (∀ y ∈ l, y.length ≤ 1000000) →
 FC P (F "iso.Reason.1") [.int .i64 r, .lst 1 (iis l), .box [.lst 1 (ints a.n), .lst 3 (eds a.e)], .box (dfC d), .box [.bool b]] (.bool (difS l a.n.length).isSome)
  [(2, .box [.lst 1 (ints a.n), .lst 3 (eds a.e)]), (3, .box (dfC (match difS l a.n.length with | some x => ⟨r, x, cntL (l.take a.n.length) x, cntL (l.drop a.n.length) x⟩ | none => d))), (4, .box [.bool (b || (difS l a.n.length).isSome)])]
def dfD (d : Df) : D := .agg (dfC d)
def K_iso_Reason : Prop := ∀ a b : G, FC P (F "iso.Reason") [gD a, gD b] (rsnD a b) []
end
section
variable {P : Program} {F : String → Nat} {α : Type}
theorem cntL_le (l : List (List Int)) (x : List Int) : cntL l x ≤ l.length := List.length_filter_le _ _
theorem cntL_snoc (l : List (List Int)) (y x : List Int) : cntL (l ++ [y]) x = cntL l x + (if y = x then 1 else 0) := by
 unfold cntL
 rw [List.filter_append, List.length_append]
 simp only [List.filter_cons, List.filter_nil, decide_eq_true_eq]
 split <;> simp
theorem w_iso_count (he : K_slices_Equal_I P F) (l : List (List Int)) (k : Nat) (x : List Int) (hl : l.length ≤ 1000000) (hy : ∀ y ∈ l, y.length ≤ 1000000) :
  W P (c_iso_count F) (Done [.t 6, .t 7] [] (.tup [.int .i64 (cntL (l.take k) x), .int .i64 (cntL (l.drop k) x)]) []) (init [.lst 1 (iis l), .int .i64 k, .lst 1 (ints x)]) := by
 refine W_of ?_
 simp (disch := omega) only [go_sem, ↓reduceIte]
 refine W_loop (fun i : Nat => ⟨[(1, .int .i64 k), (2, .lst 1 (ints x)), (8, .int .i64 (cntL ((l.take i).take k) x)), (9, .int .i64 (cntL ((l.take i).drop k) x)), (12, .lst 1 (iis l)), (13, .int .i64 l.length), (14, .int .i64 i)], [], 0⟩) (fun i => i ≤ l.length) (fun i => l.length - i) 0 ?_ ?_ ?_
 ·simp (disch := omega) only [go_sem, ↓reduceIte]
  simp [cntL]
 ·omega
 ·intro i hi
  have b1 := cntL_le ((l.take i).take k) x
  have b2 := cntL_le ((l.take i).drop k) x
  have b3 : ((l.take i).take k).length ≤ 1000000 := by simp; omega
  have b4 : ((l.take i).drop k).length ≤ 1000000 := by simp; omega
  simp (disch := omega) only [go_sem, ↓reduceIte, c_iso_count_b10]
  refine bran_dec (fun d => ?_) (fun d => ?_)
  ·have r := he (gt l (i : Int)) x (by have := hy _ (gt_mem (l := l) (j := (i : Int)) (by omega) (by omega)); unfold maxL; omega)
   have ht := take_gt (l := l) (i := i) (by omega)
   have h1 : i < k → cntL ((l.take (i + 1)).take k) x = cntL ((l.take i).take k) x + (if gt l (i : Int) = x then 1 else 0) ∧ cntL ((l.take (i + 1)).drop k) x = cntL ((l.take i).drop k) x := fun h => by
    rw [List.take_take, List.take_take, show min k (i + 1) = i + 1 by omega, show min k i = i by omega, ht, cntL_snoc, List.drop_of_length_le (by simp; omega), List.drop_of_length_le (by simp; omega)]
    exact ⟨rfl, rfl⟩
   have h2 : ¬ i < k → cntL ((l.take (i + 1)).take k) x = cntL ((l.take i).take k) x ∧ cntL ((l.take (i + 1)).drop k) x = cntL ((l.take i).drop k) x + (if gt l (i : Int) = x then 1 else 0) := fun h => by
    rw [List.take_take, List.take_take, show min k (i + 1) = k by omega, show min k i = k by omega, ht, List.drop_append_of_le_length (by simp; omega), cntL_snoc]
    exact ⟨rfl, rfl⟩
   generalize cntL ((l.take i).take k) x = p at *
   generalize cntL ((l.take i).drop k) x = q at *
   simp (disch := omega) only [go_sem, ↓reduceIte]
   refine call_by r ?_
   simp (disch := omega) only [go_sem, ↓reduceIte]
   refine bran_ndec (fun e => ?_) (fun e => ?_)
   ·rw [if_neg e] at h1 h2
    simp (disch := omega) only [go_sem, ↓reduceIte]
    refine ⟨i + 1, ?_, by omega, by omega⟩
    by_cases hk : i < k
    ·simp [h1 hk]
    ·simp [h2 hk]
   ·rw [if_pos e] at h1 h2
    simp (disch := omega) only [go_sem, ↓reduceIte]
    refine bran_dec (fun f => ?_) (fun f => ?_)
    ·have := h1 (by omega)
     simp (disch := omega) only [go_sem, ↓reduceIte]
     exact ⟨i + 1, by simp [this], by omega, by omega⟩
    ·have := h2 (by omega)
     simp (disch := omega) only [go_sem, ↓reduceIte]
     exact ⟨i + 1, by simp [this], by omega, by omega⟩
  ·obtain rfl : i = l.length := by omega
   rw [List.take_length] at *
   simp (disch := omega) only [go_sem, ↓reduceIte]
theorem w_iso_Reason_1 (hcl : K_slices_Clone_int3 P F) (hso : K_slices_SortFunc_int3 P F) (hcm : K_slices_Compare_I P F) (hct : K_iso_count P F) (hci : K_slices_Clone_I P F) (l : List (List Int)) (r : Nat) (a : G) (d : Df) (b : Bool) (h1 : r ≤ 1000) (h2 : l.length ≤ 1000) (h3 : a.n.length ≤ 1000) (hy : ∀ y ∈ l, y.length ≤ 1000000) :
  W P (c_iso_Reason_1 F) (DoneF [.t 7] [2, 3, 4] (.bool (difS l a.n.length).isSome)
  [(2, .box [.lst 1 (ints a.n), .lst 3 (eds a.e)]), (3, .box (dfC (match difS l a.n.length with | some x => ⟨r, x, cntL (l.take a.n.length) x, cntL (l.drop a.n.length) x⟩ | none => d))), (4, .box [.bool (b || (difS l a.n.length).isSome)])]) (init [.int .i64 r, .lst 1 (iis l), .box [.lst 1 (ints a.n), .lst 3 (eds a.e)], .box (dfC d), .box [.bool b]]) := by
 have hsp := sortL_perm l
 have hsl : (sortL l).length = l.length := hsp.length_eq
 have r1 := hcl l (by omega)
 have r2 := hso l (sortL l) (F "slices.Compare.I") scmp (by omega) scmp_cmp hsp (sortL_sorted l) fun x h1 y h2 => hcm x y (hy x h1) (hy y h2)
 have r3 : ∀ x, FC P (F "iso.count") [.lst 1 (iis l), .int .i64 a.n.length, .lst 1 (ints x)] (.tup [.int .i64 (cntL (l.take a.n.length) x), .int .i64 (cntL (l.drop a.n.length) x)]) [] := fun x => hct l a.n.length x (by omega) hy
 have r4 : ∀ x ∈ l, FC P (F "slices.Clone.I") [.lst 1 (ints x)] (.arr 1 (ints x)) [] := fun x hx => hci x (by have := hy x hx; omega)
 have hS : ∀ x ∈ sortL l, x ∈ l := fun x hx => hsp.mem_iff.1 hx
 have hc1 := fun x => cntL_le (l.take a.n.length) x
 have hc2 := fun x => cntL_le (l.drop a.n.length) x
 have hl1 : (l.take a.n.length).length ≤ 1000 := by simp; omega
 have hl2 : (l.drop a.n.length).length ≤ 1000 := by simp; omega
 have hdf : difS l a.n.length = (sortL l).find? fun x => !decide (cntL (l.take a.n.length) x = cntL (l.drop a.n.length) x) := rfl
 generalize difS l a.n.length = o at *
 generalize sortL l = S at *
 obtain ⟨dr, dc, dx, dy⟩ := d
 refine W_ofF ?_
 simp only [dfC]
 simp (disch := omega) only [go_sem, ↓reduceIte]
 refine call_fz r1 ?_
 simp (disch := omega) only [go_sem, ↓reduceIte]
 refine call_fz r2 ?_
 simp (disch := omega) only [go_sem, ↓reduceIte, hsl]
 refine W_loop (fun i : Nat => ⟨[(0, .int .i64 r), (1, .lst 1 (iis l)), (2, .pt 0 0), (3, .pt 1 0), (4, .pt 2 0), (17, .sl 3 0 l.length), (18, .int .i64 l.length), (19, .int .i64 i)],
  [(0, .box [.lst 1 (ints a.n), .lst 3 (eds a.e)]), (1, .box [.int .i64 dr, .lst 1 (ints dc), .int .i64 dx, .int .i64 dy]), (2, .box [.bool b]), (3, .arr 1 (iis S))], 4⟩)
  (fun i => i ≤ l.length ∧ o = (S.drop i).find? fun x => !decide (cntL (l.take a.n.length) x = cntL (l.drop a.n.length) x)) (fun i => l.length - i) 0 ?_ ?_ ?_
 ·simp (disch := omega) only [go_sem, ↓reduceIte, hsl]
  rfl
 ·exact ⟨Nat.zero_le _, hdf⟩
 ·rintro i ⟨hi, ho⟩
  simp (disch := omega) only [go_sem, ↓reduceIte, c_iso_Reason_1_b11, hsl]
  refine bran_dec (fun e => ?_) (fun e => ?_)
  ·have hx := gt_mem (l := S) (j := (i : Int)) (by omega) (by omega)
   rw [drop_gt (l := S) (by omega), List.find?_cons] at ho
   have q := r3 (gt S (i : Int))
   have q4 := r4 _ (hS _ hx)
   have b1 := hc1 (gt S (i : Int))
   have b2 := hc2 (gt S (i : Int))
   generalize hgx : gt S (i : Int) = x at *
   generalize hp : cntL (l.take a.n.length) x = p at *
   generalize hq : cntL (l.drop a.n.length) x = u at *
   simp (disch := omega) only [go_sem, ↓reduceIte, hsl, hgx]
   refine call_by q ?_
   simp (disch := omega) only [go_sem, ↓reduceIte]
   refine bran_ndec (fun f => ?_) (fun f => ?_)
   ·have hd : decide (p = u) = false := decide_eq_false (by omega)
    rw [hd] at ho
    simp only [Bool.not_false] at ho
    subst ho
    simp (disch := omega) only [go_sem, ↓reduceIte, hgx]
    refine call_by q4 ?_
    simp (disch := omega) only [go_sem, ↓reduceIte]
    simp [dfC, hp, hq]
   ·have hd : decide (p = u) = true := decide_eq_true (by omega)
    rw [hd] at ho
    simp only [Bool.not_true] at ho
    simp (disch := omega) only [go_sem, ↓reduceIte, hsl]
    exact ⟨i + 1, by simp, ⟨by omega, ho⟩, by omega⟩
  ·obtain rfl : i = l.length := by omega
   rw [List.drop_of_length_le (l := S) (by omega)] at ho
   simp only [List.find?_nil] at ho
   subst ho
   simp (disch := omega) only [go_sem, ↓reduceIte]
   simp [dfC]
theorem w_iso_Reason (hb : K_iso_both P F) (hr : K_iso_rounds P F) (h1 : K_iso_Reason_1 P F) (a b : G) : W P (c_iso_Reason F) (DoneF [.c 4 true 4, .t 5] [] (rsnD a b) []) (init [gD a, gD b]) := by
 have r1 := hb a b
 by_cases hv : bothE a b = 0
 ·have va : validG a = 0 := by unfold bothE at hv; split at hv <;> first | assumption | (exact absurd hv (by assumption))
  have vb : validG b = 0 := by unfold bothE at hv; rw [if_pos va] at hv; exact hv
  have hrs : rsnD a b = if (rsnR a b).2 = true then .tup [.agg (dfC (rsnR a b).1), .int .i64 0] else .tup [zdf, .int .i64 10] := if_pos hv
  rw [hrs]
  rw [hv] at r1
  obtain ⟨hi, hnl⟩ := InG.join va vb
  have hsl := sgR_length (joinG [a, b])
  have hsx := sgR_len (g := joinG [a, b]) hi.2.1
  have hN := hi.1
  have r2 := hr (Df × Bool) (fun _ => [.lst 1 (ints a.n), .lst 3 (eds a.e)]) (fun s => dfC s.1) (fun s => [.bool s.2]) (stpR (joinG [a, b]) a.n.length) (F "iso.Reason.1") a b va vb (fun s => ⟨rfl, rfl, rfl⟩) (fun s r hr => by
   have q := h1 (sgR (joinG [a, b]) r) r a s.1 s.2 (by omega) (by rw [hsl]; omega) (by omega) (hsx r)
   unfold stpR
   cases ho : difS (sgR (joinG [a, b]) r) a.n.length with
   | none => rw [ho] at q; simpa using q
   | some x => rw [ho] at q; simpa using q) (⟨0, [], 0, 0⟩, false)
  rw [show runR (stpR (joinG [a, b]) a.n.length) 41 (⟨0, [], 0, 0⟩, false) 0 = rsnR a b from rfl] at r2
  generalize rsnR a b = R at *
  obtain ⟨⟨dr, dc, dx, dy⟩, f⟩ := R
  simp only [gD, dfC, zdf] at *
  rw [show ints [] = [] from rfl] at r2
  refine W_ofF ?_
  have d0 : decide ((0 : Int) = 0) = true := rfl
  simp (disch := omega) only [go_sem, ↓reduceIte]
  refine call_by r1 ?_
  simp (disch := omega) only [go_sem, ↓reduceIte, d0]
  refine call_fz r2 ?_
  cases f with
  | true => simp (disch := omega) only [go_sem, ↓reduceIte]
  | false => simp (disch := omega) only [go_sem, ↓reduceIte]
 ·rw [show rsnD a b = .tup [zdf, .int .i64 (bothE a b)] from if_neg hv]
  generalize bothE a b = e at *
  simp only [gD, zdf] at *
  refine W_ofF ?_
  have d0 : decide (e = 0) = false := decide_eq_false hv
  simp (disch := omega) only [go_sem, ↓reduceIte]
  refine call_by r1 ?_
  simp (disch := omega) only [go_sem, ↓reduceIte, d0]
end
@[go_sem] def c_r08_SameDiffer_r0 : LL := [qB 2 0,qB 3 1,qb 4 false]
@[go_sem] def c_r08_SameDiffer_r1 (F : Fn) : LL := [qf 5 0 2,ql 6 1 5,qf 7 0 3,ql 8 1 7,qo .eql 9 6 8,qm 10 9,qg 10 true (qf 11 2 2),qg 10 true (ql 12 1 11),qg 10 true (qf 13 2 3),qg 10 true (ql 14 1 13),
 qg 10 true (qo .eql 15 12 14),qP 16 10 15,qm 17 16,qg 17 true (qf 18 3 2),qg 17 true (ql 19 1 18),qg 17 true (qf 20 3 3),qg 17 true (ql 21 1 20),qg 17 true (qo .eql 22 19 21),
 qP 23 17 22,qm 24 23,qg 24 true (qf 25 1 2),qg 24 true (ql 26 1 25),qg 24 true (qf 27 1 3),qg 24 true (ql 28 1 27),qg 24 true (qc 29 (F "r05.SameInts") [.t 26,.t 28]),qP 30 24 29,qm 4 30]
@[go_sem] def c_r08_SameDiffer (F : Fn) : LC := (.seq (.reg c_r08_SameDiffer_r0 [2,3]) (.seq (.reg (c_r08_SameDiffer_r1 F) [4]) .ret))
def h_r08_SameDiffer : Hints := hOf [] (c_r08_SameDiffer fun _ => 0)
section
variable (P : Program) (F : String → Nat)
def K_r08_SameDiffer : Prop := ∀ d e : Df, d.c.length ≤ maxL → FC P (F "r08.SameDiffer") [dfD d, dfD e] (.bool (decide (d = e))) []
end
section
variable {α : Type}
end
section
variable {P : Program} {F : String → Nat} {α : Type}
theorem w_r08_SameDiffer (hsa : K_r05_SameInts P F) (d e : Df) (hl : d.c.length ≤ maxL) : W P (c_r08_SameDiffer F) (Done [.t 4] [] (.bool (decide (d = e))) []) (init [dfD d, dfD e]) := by
 obtain ⟨r, c, x, y⟩ := d
 obtain ⟨r', c', x', y'⟩ := e
 have q := hsa c c' hl
 have e0 : decide ((⟨r, c, x, y⟩ : Df) = ⟨r', c', x', y'⟩) = (decide (r = r') && (decide (x = x') && (decide (y = y') && decide (c = c')))) := by
  simp only [Df.mk.injEq]
  by_cases h1 : r = r' <;> by_cases h2 : x = x' <;> by_cases h3 : y = y' <;> by_cases h4 : c = c' <;> simp [h1, h2, h3, h4]
 rw [e0]
 simp only [dfD, dfC] at *
 refine W_of ?_
 by_cases h1 : r = r'
 ·have d1 := decide_eq_true h1
  by_cases h2 : x = x'
  ·have d2 := decide_eq_true h2
   by_cases h3 : y = y'
   ·have d3 := decide_eq_true h3
    rw [d1, d2, d3]
    simp (disch := omega) only [go_sem, ↓reduceIte, d1, d2, d3]
    refine call_by q ?_
    simp (disch := omega) only [go_sem, ↓reduceIte]
   ·have d3 := decide_eq_false h3
    rw [d1, d2, d3]
    simp (disch := omega) only [go_sem, ↓reduceIte, d1, d2, d3]
  ·have d2 := decide_eq_false h2
   rw [d1, d2]
   simp (disch := omega) only [go_sem, ↓reduceIte, d1, d2]
 ·have d1 := decide_eq_false h1
  rw [d1]
  simp (disch := omega) only [go_sem, ↓reduceIte, d1]
end
@[go_sem] def c_iso_of_r0 : LL := [qB 3 0,qB 4 1,⟨some 6,.mov (.k (.undef)),none⟩]
@[go_sem] def c_iso_of_r1 (F : Fn) : LL := [qL 7 2 3,qL 8 2 4,qL 9 2 3,qL 10 2 4,⟨some 11,.buildSl 2 48 (.agg [.lst 1 [],.lst 3 []]) 2 [(0,.t 9),(1,.t 10)],none⟩,qc 12 (F "iso.join") [.t 11],qc 13 (F "iso.joined.stable") [.t 12],qm 14 2,
 qu 15 [.nl 1,.nl 3,.nl 1,.nl 3,.nl 1,.int .i64 (0),.nl 2] [(0,2,.t 7),(2,2,.t 8),(4,1,.t 13),(5,1,.t 14)],qB 16 15,qm 6 16]
@[go_sem] def c_iso_of (F : Fn) : LC := (.seq (.reg c_iso_of_r0 [2,3,4]) (.seq (.dreg [(0,none,[],true),(1,none,[],true),(4,none,[0,1],false),(5,none,[0,1],false),(6,none,[0,1],false)] (c_iso_of_r1 F) [6]) .ret))
def h_iso_of : Hints := hOf [] (c_iso_of fun _ => 0)
@[go_sem] def c_iso_between_r0 : LL := [qB 3 0,qn 6 1]
@[go_sem] def c_iso_between_r1 : LL := [qn 7 1]
@[go_sem] def c_iso_between_r2 : LL := [qf 10 1 3,ql 11 1 10,qz 12 11,qi 13 0]
@[go_sem] def c_iso_between_r3 : LL := [qo .lss 14 13 12]
@[go_sem] def c_iso_between_r4 : LL := [qd 15 3 11 13,qL 16 3 15,qa 9 [.int .i64 (0),.int .i64 (0),.int .i64 (0)],qs 3 9 16]
@[go_sem] def c_iso_between_r5 : LL := [qf 17 1 9,ql 18 1 17,qm 19 1,qo .eql 20 18 19,qm 21 20,qg 21 true (qf 22 2 9),qg 21 true (ql 23 1 22),qg 21 true (qm 24 2),qg 21 true (qo .eql 25 23 24),qP 26 21 25]
@[go_sem] def c_iso_between_r6 : LL := [qm 27 7,qf 28 0 9,ql 29 1 28,⟨some 30,.buildSl 1 8 (.int .i64 (0)) 1 [(0,.t 29)],none⟩,qp 31 1 8 27 30,qm 7 31]
@[go_sem] def c_iso_between_r7 : LL := [qk .add 32 13 1,qm 13 32]
def c_iso_between_b8 : LC := (.seq (.reg c_iso_between_r3 [1,2,7,11,12,13,14]) (.seq (.cond (.t 14) .skip (.exit 0)) (.seq (.block 1 (.seq (.reg c_iso_between_r4 [1,2,7,9,11,12,13]) (.seq (.reg c_iso_between_r5 [1,2,7,9,11,12,13,26]) (.cond (.t 26) (.reg c_iso_between_r6 [1,2,7,11,12,13]) .skip)))) (.reg c_iso_between_r7 [1,2,7,11,12,13]))))
@[go_sem] def c_iso_between_r9 (F : Fn) : LL := [qm 33 7,⟨some 34,.call (F "slices.Sort.I") [.t 33] [.mu],none⟩]
@[go_sem] def c_iso_between_r10 : LL := [qm 35 7,qm 6 35]
@[go_sem] def c_iso_between (F : Fn) : LC := (.seq (.reg c_iso_between_r0 [1,2,3]) (.seq (.reg c_iso_between_r1 [1,2,3,7]) (.seq (.seq (.reg c_iso_between_r2 [1,2,7,11,12,13]) (.block 0 (.loop [1,2,7,11,12,13] c_iso_between_b8))) (.seq (.reg (c_iso_between_r9 F) [7]) (.seq (.reg c_iso_between_r10 [6]) .ret)))))
def h_iso_between : Hints := hOf [] (c_iso_between fun _ => 0)
@[go_sem] def c_iso_free_r0 : LL := [qb 4 false]
@[go_sem] def c_iso_free_r1 : LL := [qb 4 true]
@[go_sem] def c_iso_free (F : Fn) : LC := (.seq (.reg c_iso_free_r0 []) (.seq (.reg c_iso_free_r1 [4]) .ret))
def h_iso_free : Hints := hOf [] (c_iso_free fun _ => 0)
@[go_sem] def c_iso_search_fits_r0 : LL := [qb 6 false]
@[go_sem] def c_iso_search_fits_r1 : LL := [qm 10 1,qz 11 10,qm 7 11]
@[go_sem] def c_iso_search_fits_r2 (F : Fn) : LL := [qm 12 1,qm 13 2,qc 14 (F "slices.Contains.I") [.t 12,.t 13],qm 15 14,qg 15 false (qm 16 0),qg 15 false (qf 17 0 16),qg 15 false (qf 18 4 17),qg 15 false (ql 19 1 18),qg 15 false (qm 20 7),
 qg 15 false (qd 21 1 19 20),qg 15 false (ql 22 1 21),qg 15 false (qm 23 0),qg 15 false (qf 24 0 23),qg 15 false (qf 25 4 24),qg 15 false (ql 26 1 25),qg 15 false (qm 27 0),
 qg 15 false (qf 28 0 27),qg 15 false (qf 29 0 28),qg 15 false (qf 30 0 29),qg 15 false (ql 31 1 30),qg 15 false (qz 32 31),qg 15 false (qm 33 2),qg 15 false (qo .add 34 32 33),
 qg 15 false (qd 35 1 26 34),qg 15 false (ql 36 1 35),qg 15 false (qo .neq 37 22 36),qQ 38 15 37,qm 39 38,qg 39 false (qm 40 0),qg 39 false (qf 41 0 40),qg 39 false (qf 42 0 41),
 qg 39 false (qL 43 2 42),qg 39 false (qm 44 7),qg 39 false (qm 45 7),qg 39 false (qc 46 (F "iso.between") [.t 43,.t 44,.t 45]),qg 39 false (qm 47 0),qg 39 false (qf 48 0 47),
 qg 39 false (qf 49 2 48),qg 39 false (qL 50 2 49),qg 39 false (qm 51 2),qg 39 false (qm 52 2),qg 39 false (qc 53 (F "iso.between") [.t 50,.t 51,.t 52]),qg 39 false (qc 54 (F "slices.Equal.I") [.t 46,.t 53]),
 qg 39 false (qv 55 54),qQ 56 39 55]
@[go_sem] def c_iso_search_fits_r3 : LL := [qb 6 false]
@[go_sem] def c_iso_search_fits_r4 : LL := [qm 57 1,qz 58 57,qi 59 0]
@[go_sem] def c_iso_search_fits_r5 : LL := [qo .lss 60 59 58]
@[go_sem] def c_iso_search_fits_r6 : LL := [qm 61 59,qd 62 1 57 59,ql 63 1 62,qm 8 61,qm 9 63]
@[go_sem] def c_iso_search_fits_r7 (F : Fn) : LL := [qm 64 0,qf 65 0 64,qf 66 0 65,qL 67 2 66,qm 68 7,qm 69 8,qc 70 (F "iso.between") [.t 67,.t 68,.t 69],qm 71 0,qf 72 0 71,qf 73 2 72,qL 74 2 73,qm 75 2,qm 76 9,qc 77 (F "iso.between") [.t 74,.t 75,.t 76],
 qc 78 (F "slices.Equal.I") [.t 70,.t 77],qv 79 78,qm 80 79,qg 80 false (qm 81 0),qg 80 false (qf 82 0 81),qg 80 false (qf 83 0 82),qg 80 false (qL 84 2 83),qg 80 false (qm 85 8),
 qg 80 false (qm 86 7),qg 80 false (qc 87 (F "iso.between") [.t 84,.t 85,.t 86]),qg 80 false (qm 88 0),qg 80 false (qf 89 0 88),qg 80 false (qf 90 2 89),qg 80 false (qL 91 2 90),
 qg 80 false (qm 92 9),qg 80 false (qm 93 2),qg 80 false (qc 94 (F "iso.between") [.t 91,.t 92,.t 93]),qg 80 false (qc 95 (F "slices.Equal.I") [.t 87,.t 94]),qg 80 false (qv 96 95),qQ 97 80 96]
@[go_sem] def c_iso_search_fits_r8 : LL := [qb 6 false]
@[go_sem] def c_iso_search_fits_r9 : LL := [qk .add 98 59 1,qm 59 98]
def c_iso_search_fits_b10 (F : Fn) : LC := (.seq (.reg c_iso_search_fits_r5 [0,2,7,57,58,59,60]) (.seq (.cond (.t 60) .skip (.exit 0)) (.seq (.block 1 (.seq (.reg c_iso_search_fits_r6 [0,2,7,8,9,57,58,59]) (.seq (.dreg [(6,none,[],true),(10,(some 896),[6],false),(23,none,[],true),(27,(some 117571583),[23],false)] (c_iso_search_fits_r7 F) [0,2,7,57,58,59,97]) (.cond (.t 97) (.seq (.reg c_iso_search_fits_r8 [6]) .ret) .skip)))) (.reg c_iso_search_fits_r9 [0,2,7,57,58,59]))))
@[go_sem] def c_iso_search_fits_r11 : LL := [qb 6 true]
@[go_sem] def c_iso_search_fits (F : Fn) : LC := (.seq (.reg c_iso_search_fits_r0 [0,1,2]) (.seq (.reg c_iso_search_fits_r1 [0,1,2,7]) (.seq (.seq (.dreg [(34,none,[],true),(38,(some 240786604031),[34],false)] (c_iso_search_fits_r2 F) [0,1,2,7,56]) (.cond (.t 56) (.seq (.reg c_iso_search_fits_r3 [6]) .ret) .skip)) (.seq (.seq (.reg c_iso_search_fits_r4 [0,2,7,57,58,59]) (.block 0 (.loop [0,2,7,57,58,59] (c_iso_search_fits_b10 F)))) (.seq (.reg c_iso_search_fits_r11 [6]) .ret)))))
def h_iso_search_fits : Hints := hOf [] (c_iso_search_fits fun _ => 0)
@[go_sem] def c_iso_Orbits_1_r0 : LL := [qb 6 false]
@[go_sem] def c_iso_Orbits_1_r1 : LL := [qm 7 0,ql 8 1 2,qo .neq 9 7 8,qm 10 9,qg 10 false (qm 11 1),qg 10 false (ql 12 1 3),qg 10 false (qo .eql 13 11 12),qQ 14 10 13,qm 6 14]
@[go_sem] def c_iso_Orbits_1 (F : Fn) : LC := (.seq (.reg c_iso_Orbits_1_r0 [0,1,2,3]) (.seq (.reg c_iso_Orbits_1_r1 [6]) .ret))
def h_iso_Orbits_1 : Hints := hOf [] (c_iso_Orbits_1 fun _ => 0)
def betL (g : G) (f t : Int) : List Int := srt ((g.e.filter fun x => decide (x.f = f) && decide (x.o = t)).map E.t)
def pairO (a b : G) (i k n m : Int) : Bool := decide (betL a i k = betL b n m) && decide (betL a k i = betL b m n)
def fitsP (a b : G) (c ns : List Int) (n : Int) : Bool := !decide (n ∈ ns) && (decide (gt c ns.length = gt c ((a.n.length : Int) + n)) && (decide (betL a ns.length ns.length = betL b n n) && (List.range ns.length).all fun k => pairO a b ns.length k n (gt ns (k : Int))))
def colJ (a b : G) : List Int := stabL (joinG [a, b])
def seBx (a b : G) (c : List Int) (m : Int) (out : List Mo) : D := .box [.lst 1 (ints a.n), .lst 3 (eds a.e), .lst 1 (ints b.n), .lst 3 (eds b.e), .lst 1 (ints c), .int .i64 m, .arr 2 (pts out)]
def seRf (a b : G) (c : List Int) (m : Int) (out : List Mo) : D := .ref [.lst 1 (ints a.n), .lst 3 (eds a.e), .lst 1 (ints b.n), .lst 3 (eds b.e), .lst 1 (ints c), .int .i64 m, .lst 2 (pts out)]
section
variable (P : Program) (F : String → Nat)
def K_iso_of : Prop := ∀ (a b : G) (m : Int), validG a = 0 → validG b = 0 → FC P (F "iso.of") [gD a, gD b, .int .i64 m] (seBx a b (colJ a b) m []) []
def K_iso_between : Prop := ∀ (g : G) (f t : Int), g.e.length ≤ 1000 → FC P (F "iso.between") [gD g, .int .i64 f, .int .i64 t] (.arr 1 (ints (betL g f t))) []
def K_iso_free : Prop := ∀ i n : Int, FC P (F "iso.free") [.int .i64 i, .int .i64 n] (.bool true) []
def K_iso_Orbits_1 : Prop := ∀ i n u v : Int, FC P (F "iso.Orbits.1") [.int .i64 i, .int .i64 n, .ref [.int .i64 u], .ref [.int .i64 v]] (.bool (!decide (i = u) || decide (n = v))) []
def K_iso_search_fits : Prop := ∀ (a b : G) (c : List Int) (m : Int) (out : List Mo) (ns : List Int) (n : Int), a.n.length ≤ 100 → a.e.length ≤ 1000 → b.e.length ≤ 1000 → ns.length < a.n.length → 0 ≤ n → n < b.n.length → c.length = a.n.length + b.n.length → b.n.length ≤ 100 →
 FC P (F "iso.search.fits") [seRf a b c m out, .lst 1 (ints ns), .int .i64 n] (.bool (fitsP a b c ns n)) []
end
section
variable {P : Program} {F : String → Nat} {α : Type}
theorem w_iso_free (i n : Int) : W P (c_iso_free F) (Done [.t 4] [] (.bool true) []) (init [.int .i64 i, .int .i64 n]) := by
 refine W_of ?_
 simp (disch := omega) only [go_sem, ↓reduceIte]
theorem w_iso_Orbits_1 (i n u v : Int) : W P (c_iso_Orbits_1 F) (Done [.t 6] [] (.bool (!decide (i = u) || decide (n = v))) []) (init [.int .i64 i, .int .i64 n, .ref [.int .i64 u], .ref [.int .i64 v]]) := by
 refine W_of ?_
 by_cases h : i = u
 ·have d := decide_eq_true h
  rw [d]
  simp (disch := omega) only [go_sem, ↓reduceIte, d]
  rfl
 ·have d := decide_eq_false h
  rw [d]
  simp (disch := omega) only [go_sem, ↓reduceIte, d]
  rfl
theorem w_iso_between (hs : K_slices_Sort_I P F) (g : G) (f t : Int) (hg : g.e.length ≤ 1000) : W P (c_iso_between F) (Done [.t 6] [] (.arr 1 (ints (betL g f t))) []) (init [gD g, .int .i64 f, .int .i64 t]) := by
 obtain ⟨ns, es⟩ := g
 simp only [gD, betL] at *
 have hT : ∀ k, k ≤ es.length → (((es.take k).filter fun x => decide (x.f = f) && decide (x.o = t)).map E.t).length ≤ 1000 := fun k hk => by
  rw [List.length_map]
  have := List.length_filter_le (fun x : E => decide (x.f = f) && decide (x.o = t)) (es.take k)
  simp at this
  omega
 refine W_of ?_
 simp (disch := omega) only [go_sem, ↓reduceIte]
 refine W_loop (fun k : Nat => ⟨[(1, .int .i64 f), (2, .int .i64 t), (7, .sl 0 0 (((es.take k).filter fun x => decide (x.f = f) && decide (x.o = t)).map E.t).length), (11, .lst 3 (eds es)), (12, .int .i64 es.length), (13, .int .i64 k)], [(0, .arr 1 (ints (((es.take k).filter fun x => decide (x.f = f) && decide (x.o = t)).map E.t)))], 1⟩) (fun k => k ≤ es.length) (fun k => es.length - k) 0 ?_ ?_ ?_
 ·simp (disch := omega) only [go_sem, ↓reduceIte]
  rfl
 ·omega
 ·intro k hk
  have hTk := hT k hk
  simp (disch := omega) only [go_sem, ↓reduceIte, c_iso_between_b8]
  refine bran_dec (fun d => ?_) (fun d => ?_)
  ·have hn : (((es.take (k + 1)).filter fun x => decide (x.f = f) && decide (x.o = t)).map E.t) = (((es.take k).filter fun x => decide (x.f = f) && decide (x.o = t)).map E.t) ++ (if (decide ((gt es (k : Int)).f = f) && decide ((gt es (k : Int)).o = t)) = true then [(gt es (k : Int)).t] else []) := by
    rw [take_gt (by omega), List.filter_append, List.map_append]
    congr 1
    simp only [List.filter_cons, List.filter_nil]
    split <;> rfl
   generalize ((es.take k).filter fun x => decide (x.f = f) && decide (x.o = t)).map E.t = T at *
   obtain ⟨⟨et, ef, eo⟩, hx⟩ : ∃ x, gt es (k : Int) = x := ⟨_, rfl⟩
   rw [hx] at hn
   simp only at hn
   by_cases h1 : ef = f
   ·have d1 := decide_eq_true h1
    rw [d1] at hn
    simp (disch := omega) only [go_sem, ↓reduceIte, hx, d1]
    refine bran_dec (fun h2 => ?_) (fun h2 => ?_)
    ·rw [decide_eq_true h2] at hn
     simp (disch := omega) only [go_sem, ↓reduceIte, hx, d1]
     exact ⟨k + 1, by simp [hn], by omega, by omega⟩
    ·rw [decide_eq_false h2] at hn
     simp (disch := omega) only [go_sem, ↓reduceIte, hx, d1]
     exact ⟨k + 1, by simp [hn], by omega, by omega⟩
   ·have d1 := decide_eq_false h1
    rw [d1] at hn
    simp (disch := omega) only [go_sem, ↓reduceIte, hx, d1]
    exact ⟨k + 1, by simp [hn], by omega, by omega⟩
  ·obtain rfl : k = es.length := by omega
   rw [List.take_length] at *
   have r := hs ((es.filter fun x => decide (x.f = f) && decide (x.o = t)).map E.t) (by unfold maxL; omega)
   have hl : (srt ((es.filter fun x => decide (x.f = f) && decide (x.o = t)).map E.t)).length = ((es.filter fun x => decide (x.f = f) && decide (x.o = t)).map E.t).length := by
    rw [srt_len]
   generalize ((es.filter fun x => decide (x.f = f) && decide (x.o = t)).map E.t) = T at *
   simp (disch := omega) only [go_sem, ↓reduceIte]
   refine call_by r ?_
   simp (disch := omega) only [go_sem, ↓reduceIte, hl]
theorem w_iso_of (hj : K_iso_join P F) (hs : K_iso_joined_stable P F) (a b : G) (m : Int) (va : validG a = 0) (vb : validG b = 0) : W P (c_iso_of F) (DoneF [.t 6] [] (seBx a b (colJ a b) m []) []) (init [gD a, gD b, .int .i64 m]) := by
 have r1 := hj [a, b] (by simp) (by simp [va, vb])
 obtain ⟨hi, _⟩ := InG.join va vb
 have r2 := hs _ hi
 rw [show colJ a b = stabL (joinG [a, b]) from rfl]
 generalize stabL (joinG [a, b]) = c at *
 generalize joinG [a, b] = J at *
 simp only [gDs, List.map_cons, List.map_nil, gD, gA, seBx] at *
 refine W_ofF ?_
 simp (disch := omega) only [go_sem, ↓reduceIte]
 refine call_by r1 ?_
 simp (disch := omega) only [go_sem, ↓reduceIte]
 refine call_fz r2 ?_
 simp (disch := omega) only [go_sem, ↓reduceIte]
 rfl
set_option maxRecDepth 100000 in
theorem w_iso_search_fits (hc : K_slices_Contains_I P F) (hb : K_iso_between P F) (he : K_slices_Equal_I P F) (a b : G) (c : List Int) (m : Int) (out : List Mo) (ns : List Int) (n : Int) (h0 : a.n.length ≤ 100) (h1 : a.e.length ≤ 1000) (h2 : b.e.length ≤ 1000) (h3 : ns.length < a.n.length) (h4 : 0 ≤ n) (h5 : n < b.n.length) (h6 : c.length = a.n.length + b.n.length) (h7 : b.n.length ≤ 100) :
  W P (c_iso_search_fits F) (Done [.t 6] [] (.bool (fitsP a b c ns n)) []) (init [seRf a b c m out, .lst 1 (ints ns), .int .i64 n]) := by
 have r1 := hc ns n (by unfold maxL; omega)
 have ra := fun f t => hb a f t h1
 have rb := fun f t => hb b f t h2
 have hl : ∀ (g : G) (f t : Int), g.e.length ≤ 1000 → (betL g f t).length ≤ 1000 := fun g f t hg => by
  rw [betL, srt_len, List.length_map]
  have := List.length_filter_le (fun x : E => decide (x.f = f) && decide (x.o = t)) g.e
  omega
 have re : ∀ (f t : Int) (l : List Int), FC P (F "slices.Equal.I") [.lst 1 (ints (betL a f t)), .lst 1 (ints l)] (.bool (decide (betL a f t = l))) [] := fun f t l => he _ l (by have := hl a f t h1; unfold maxL; omega)
 have hf : fitsP a b c ns n = (!decide (n ∈ ns) && (decide (gt c ns.length = gt c ((a.n.length : Int) + n)) && (decide (betL a ns.length ns.length = betL b n n) && (List.range ns.length).all fun k => pairO a b ns.length k n (gt ns (k : Int))))) := rfl
 rw [hf]
 have hpo : ∀ k : Nat, pairO a b ns.length k n (gt ns (k : Int)) = (decide (betL a ns.length k = betL b n (gt ns (k : Int))) && decide (betL a k ns.length = betL b (gt ns (k : Int)) n)) := fun _ => rfl
 generalize pairO a b ns.length = po at *
 generalize betL a = ba at *
 generalize betL b = bb at *
 obtain ⟨an, ae⟩ := a
 obtain ⟨bn, be⟩ := b
 simp only [gD, seRf] at *
 have g1 : (0 : Int) ≤ (an.length : Int) + n := by omega
 have g2 : (an.length : Int) + n < c.length := by omega
 refine W_of ?_
 simp (disch := omega) only [go_sem, ↓reduceIte]
 refine call_by r1 ?_
 by_cases e1 : n ∈ ns
 ·have d1 := decide_eq_true e1
  rw [d1]
  simp (disch := omega) only [go_sem, ↓reduceIte]
 ·have d1 := decide_eq_false e1
  rw [d1]
  by_cases e2 : gt c ns.length = gt c ((an.length : Int) + n)
  ·have d2 := decide_eq_true e2
   rw [d2]
   simp (disch := omega) only [go_sem, ↓reduceIte, d2]
   refine call_by (ra _ _) ?_
   simp (disch := omega) only [go_sem, ↓reduceIte, d2]
   refine call_by (rb _ _) ?_
   simp (disch := omega) only [go_sem, ↓reduceIte, d2]
   refine call_by (re _ _ _) ?_
   by_cases e3 : ba ns.length ns.length = bb n n
   ·have d3 := decide_eq_true e3
    rw [d3]
    simp (disch := omega) only [go_sem, ↓reduceIte]
    refine W_loop (fun k : Nat => ⟨[(0, .ref [.lst 1 (ints an), .lst 3 (eds ae), .lst 1 (ints bn), .lst 3 (eds be), .lst 1 (ints c), .int .i64 m, .lst 2 (pts out)]), (2, .int .i64 n), (7, .int .i64 ns.length), (57, .lst 1 (ints ns)), (58, .int .i64 ns.length), (59, .int .i64 k)], [], 0⟩) (fun k => k ≤ ns.length ∧ ((List.range ns.length).all fun k => po k n (gt ns (k : Int))) = ((List.range' k (ns.length - k)).all fun k => po k n (gt ns (k : Int)))) (fun k => ns.length - k) 0 ?_ ?_ ?_
    ·simp (disch := omega) only [go_sem, ↓reduceIte]
     rfl
    ·exact ⟨Nat.zero_le _, by rw [List.range_eq_range', Nat.sub_zero]⟩
    ·rintro k ⟨k1, k2⟩
     simp (disch := omega) only [go_sem, ↓reduceIte, c_iso_search_fits_b10]
     refine bran_dec (fun f => ?_) (fun f => ?_)
     ·have hk : List.range' k (ns.length - k) = k :: List.range' (k + 1) (ns.length - (k + 1)) := by
       rw [show ns.length - k = (ns.length - (k + 1)) + 1 by omega, List.range'_succ]
      rw [hk, List.all_cons, hpo] at k2
      generalize hrest : ((List.range' (k + 1) (ns.length - (k + 1))).all fun k => po k n (gt ns (k : Int))) = rest at *
      generalize ((List.range ns.length).all fun k => po k n (gt ns (k : Int))) = tot at *
      simp (disch := omega) only [go_sem, ↓reduceIte]
      refine call_by (ra _ _) ?_
      simp (disch := omega) only [go_sem, ↓reduceIte]
      refine call_by (rb _ _) ?_
      simp (disch := omega) only [go_sem, ↓reduceIte]
      refine call_by (re _ _ _) ?_
      by_cases e4 : ba ns.length k = bb n (gt ns (k : Int))
      ·have d4 := decide_eq_true e4
       rw [d4] at k2 ⊢
       simp (disch := omega) only [go_sem, ↓reduceIte]
       refine call_by (ra _ _) ?_
       simp (disch := omega) only [go_sem, ↓reduceIte]
       refine call_by (rb _ _) ?_
       simp (disch := omega) only [go_sem, ↓reduceIte]
       refine call_by (re _ _ _) ?_
       by_cases e5 : ba k ns.length = bb (gt ns (k : Int)) n
       ·have d5 := decide_eq_true e5
        rw [d5] at k2 ⊢
        simp (disch := omega) only [go_sem, ↓reduceIte]
        exact ⟨k + 1, by simp, ⟨by omega, by rw [k2, hrest]; rfl⟩, by omega⟩
       ·have d5 := decide_eq_false e5
        rw [d5] at k2 ⊢
        simp (disch := omega) only [go_sem, ↓reduceIte]
        rw [k2]
        rfl
      ·have d4 := decide_eq_false e4
       rw [d4] at k2 ⊢
       simp (disch := omega) only [go_sem, ↓reduceIte]
       rw [k2]
       rfl
     ·obtain rfl : k = ns.length := by omega
      rw [Nat.sub_self] at k2
      simp (disch := omega) only [go_sem, ↓reduceIte]
      rw [k2]
      rfl
   ·have d3 := decide_eq_false e3
    rw [d3]
    simp (disch := omega) only [go_sem, ↓reduceIte]
  ·have d2 := decide_eq_false e2
   rw [d2]
   simp (disch := omega) only [go_sem, ↓reduceIte, d2]
end
end Go.Am
