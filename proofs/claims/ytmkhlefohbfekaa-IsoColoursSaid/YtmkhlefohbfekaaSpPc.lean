/- Reasons why graphs are not isomorphic: the program's walks. -/
import Derived.Test.YtmkhlefohbfekaaSpPa
import Derived.Test.YtmkhlefohbfekaaSpPb
namespace Go.Am
open Go
set_option linter.unusedVariables false
set_option linter.unusedSimpArgs false
attribute [local irreducible] W
@[go_sem] def c_iso_Reason_r0 : LL := [qB 2 0,qB 3 1,qa 4 [.int .i64 (0),.nl 1,.int .i64 (0),.int .i64 (0)],qi 5 0]
@[go_sem] def c_iso_Reason_r1 (F : Fn) : LL := [qL 9 2 2,qL 10 2 3,qc 11 (F "iso.both") [.t 9,.t 10],qm 6 11]
@[go_sem] def c_iso_Reason_r2 : LL := [qm 12 6,qk .neq 13 12 0]
@[go_sem] def c_iso_Reason_r3 : LL := [qu 14 [.int .i64 (0),.nl 1,.int .i64 (0),.int .i64 (0)] [],qm 15 6,qs 4 4 14,qm 5 15]
@[go_sem] def c_iso_Reason_r4 : LL := [qu 16 [.int .i64 (0),.nl 1,.int .i64 (0),.int .i64 (0)] [],qa 7 [.int .i64 (0),.nl 1,.int .i64 (0),.int .i64 (0)],qa 8 [.bool false],qs 4 7 16,
 ⟨none,.store 1 (.t 8) (.k (.bool false)),none⟩]
@[go_sem] def c_iso_Reason_r5 (F : Fn) : LL := [qL 17 2 2,qL 18 2 3,⟨some 19,.mkf (F "iso.Reason.1") [.t 2,.t 7,.t 8],none⟩,⟨some 20,.call (F "iso.rounds") [.t 17,.t 18,.t 19] [.rd,.rd,.mp],none⟩]
@[go_sem] def c_iso_Reason_r6 : LL := [ql 21 1 8,qv 22 21]
@[go_sem] def c_iso_Reason_r7 : LL := [qu 23 [.int .i64 (0),.nl 1,.int .i64 (0),.int .i64 (0)] [],qs 4 4 23,qi 5 10]
@[go_sem] def c_iso_Reason_r8 : LL := [qL 24 4 7,qs 4 4 24,qi 5 0]
@[go_sem] def c_iso_Reason (F : Fn) : LC := (.seq (.reg c_iso_Reason_r0 [2,3,4]) (.seq (.seq (.reg (c_iso_Reason_r1 F) [2,3,4,6]) (.seq (.reg c_iso_Reason_r2 [2,3,4,6,13]) (.cond (.t 13) (.seq (.reg c_iso_Reason_r3 [4,5]) .ret) .skip))) (.seq (.reg c_iso_Reason_r4 [2,3,4,7,8]) (.seq (.reg (c_iso_Reason_r5 F) [4,7,8]) (.seq (.seq (.reg c_iso_Reason_r6 [4,7,22]) (.cond (.t 22) (.seq (.reg c_iso_Reason_r7 [4,5]) .ret) .skip)) (.seq (.reg c_iso_Reason_r8 [4,5]) .ret))))))
def h_iso_Reason : Hints := hOf [] (c_iso_Reason fun _ => 0)
structure Df where
 r : Int
 c : List Int
 x : Int
 y : Int
 deriving DecidableEq, Inhabited
def dfC (d : Df) : List D := [.int .i64 d.r, .lst 1 (ints d.c), .int .i64 d.x, .int .i64 d.y]
def difS (l : List (List Int)) (k : Nat) : Option (List Int) := (sortL l).find? fun x => !decide (cntL (l.take k) x = cntL (l.drop k) x)
def stpR (J : G) (k : Nat) (s : Df × Bool) (r : Nat) : (Df × Bool) × Bool := match difS (sgR J r) k with
 | some x => ((⟨r, x, cntL ((sgR J r).take k) x, cntL ((sgR J r).drop k) x⟩, true), true)
 | none => (s, false)
def rsnR (a b : G) : Df × Bool := runR (stpR (joinG [a, b]) a.n.length) 41 (⟨0, [], 0, 0⟩, false) 0
def zdf : D := .agg [.int .i64 0, .arr 1 [], .int .i64 0, .int .i64 0]
def rsnD (a b : G) : D := if bothE a b = 0 then (if (rsnR a b).2 = true then .tup [.agg (dfC (rsnR a b).1), .int .i64 0] else .tup [zdf, .int .i64 10]) else .tup [zdf, .int .i64 (bothE a b)]
section
variable (P : Program) (F : String → Nat)
def K_iso_Reason_1 : Prop := ∀ (l : List (List Int)) (r : Nat) (a : G) (d : Df) (b : Bool), r ≤ 1000 → l.length ≤ 1000 → a.n.length ≤ 1000 → (∀ y ∈ l, y.length ≤ 1000000) →
 FC P (F "iso.Reason.1") [.int .i64 r, .lst 1 (iis l), .box [.lst 1 (ints a.n), .lst 3 (eds a.e)], .box (dfC d), .box [.bool b]] (.bool (difS l a.n.length).isSome)
  [(2, .box [.lst 1 (ints a.n), .lst 3 (eds a.e)]), (3, .box (dfC (match difS l a.n.length with | some x => ⟨r, x, cntL (l.take a.n.length) x, cntL (l.drop a.n.length) x⟩ | none => d))), (4, .box [.bool (b || (difS l a.n.length).isSome)])]
def dfD (d : Df) : D := .agg (dfC d)
def K_iso_Reason : Prop := ∀ a b : G, FC P (F "iso.Reason") [gD a, gD b] (rsnD a b) []
end
section
variable {P : Program} {F : String → Nat} {α : Type}
theorem cntL_le (l : List (List Int)) (x : List Int) : cntL l x ≤ l.length := List.length_filter_le _ _
theorem cntL_snoc (l : List (List Int)) (y x : List Int) : cntL (l ++ [y]) x = cntL l x + (if y = x then 1 else 0) := by
 unfold cntL
 rw [List.filter_append, List.length_append]
 simp only [List.filter_cons, List.filter_nil, decide_eq_true_eq]
 split <;> simp
theorem w_iso_count (he : K_slices_Equal_I P F) (l : List (List Int)) (k : Nat) (x : List Int) (hl : l.length ≤ 1000000) (hy : ∀ y ∈ l, y.length ≤ 1000000) :
  W P (c_iso_count F) (Done [.t 6, .t 7] [] (.tup [.int .i64 (cntL (l.take k) x), .int .i64 (cntL (l.drop k) x)]) []) (init [.lst 1 (iis l), .int .i64 k, .lst 1 (ints x)]) := by
 refine W_of ?_
 simp (disch := omega) only [go_sem, ↓reduceIte]
 refine W_loop (fun i : Nat => ⟨[(1, .int .i64 k), (2, .lst 1 (ints x)), (8, .int .i64 (cntL ((l.take i).take k) x)), (9, .int .i64 (cntL ((l.take i).drop k) x)), (12, .lst 1 (iis l)), (13, .int .i64 l.length), (14, .int .i64 i)], [], 0⟩) (fun i => i ≤ l.length) (fun i => l.length - i) 0 ?_ ?_ ?_
 ·simp (disch := omega) only [go_sem, ↓reduceIte]
  simp [cntL]
 ·omega
 ·intro i hi
  have b1 := cntL_le ((l.take i).take k) x
  have b2 := cntL_le ((l.take i).drop k) x
  have b3 : ((l.take i).take k).length ≤ 1000000 := by simp; omega
  have b4 : ((l.take i).drop k).length ≤ 1000000 := by simp; omega
  simp (disch := omega) only [go_sem, ↓reduceIte, c_iso_count_b10]
  refine bran_dec (fun d => ?_) (fun d => ?_)
  ·have r := he (gt l (i : Int)) x (by have := hy _ (gt_mem (l := l) (j := (i : Int)) (by omega) (by omega)); unfold maxL; omega)
   have ht := take_gt (l := l) (i := i) (by omega)
   have h1 : i < k → cntL ((l.take (i + 1)).take k) x = cntL ((l.take i).take k) x + (if gt l (i : Int) = x then 1 else 0) ∧ cntL ((l.take (i + 1)).drop k) x = cntL ((l.take i).drop k) x := fun h => by
    rw [List.take_take, List.take_take, show min k (i + 1) = i + 1 by omega, show min k i = i by omega, ht, cntL_snoc, List.drop_of_length_le (by simp; omega), List.drop_of_length_le (by simp; omega)]
    exact ⟨rfl, rfl⟩
   have h2 : ¬ i < k → cntL ((l.take (i + 1)).take k) x = cntL ((l.take i).take k) x ∧ cntL ((l.take (i + 1)).drop k) x = cntL ((l.take i).drop k) x + (if gt l (i : Int) = x then 1 else 0) := fun h => by
    rw [List.take_take, List.take_take, show min k (i + 1) = k by omega, show min k i = k by omega, ht, List.drop_append_of_le_length (by simp; omega), cntL_snoc]
    exact ⟨rfl, rfl⟩
   generalize cntL ((l.take i).take k) x = p at *
   generalize cntL ((l.take i).drop k) x = q at *
   simp (disch := omega) only [go_sem, ↓reduceIte]
   refine call_by r ?_
   simp (disch := omega) only [go_sem, ↓reduceIte]
   refine bran_ndec (fun e => ?_) (fun e => ?_)
   ·rw [if_neg e] at h1 h2
    simp (disch := omega) only [go_sem, ↓reduceIte]
    refine ⟨i + 1, ?_, by omega, by omega⟩
    by_cases hk : i < k
    ·simp [h1 hk]
    ·simp [h2 hk]
   ·rw [if_pos e] at h1 h2
    simp (disch := omega) only [go_sem, ↓reduceIte]
    refine bran_dec (fun f => ?_) (fun f => ?_)
    ·have := h1 (by omega)
     simp (disch := omega) only [go_sem, ↓reduceIte]
     exact ⟨i + 1, by simp [this], by omega, by omega⟩
    ·have := h2 (by omega)
     simp (disch := omega) only [go_sem, ↓reduceIte]
     exact ⟨i + 1, by simp [this], by omega, by omega⟩
  ·obtain rfl : i = l.length := by omega
   rw [List.take_length] at *
   simp (disch := omega) only [go_sem, ↓reduceIte]
theorem w_iso_Reason_1 (hcl : K_slices_Clone_int3 P F) (hso : K_slices_SortFunc_int3 P F) (hcm : K_slices_Compare_I P F) (hct : K_iso_count P F) (hci : K_slices_Clone_I P F) (l : List (List Int)) (r : Nat) (a : G) (d : Df) (b : Bool) (h1 : r ≤ 1000) (h2 : l.length ≤ 1000) (h3 : a.n.length ≤ 1000) (hy : ∀ y ∈ l, y.length ≤ 1000000) :
  W P (c_iso_Reason_1 F) (DoneF [.t 7] [2, 3, 4] (.bool (difS l a.n.length).isSome)
  [(2, .box [.lst 1 (ints a.n), .lst 3 (eds a.e)]), (3, .box (dfC (match difS l a.n.length with | some x => ⟨r, x, cntL (l.take a.n.length) x, cntL (l.drop a.n.length) x⟩ | none => d))), (4, .box [.bool (b || (difS l a.n.length).isSome)])]) (init [.int .i64 r, .lst 1 (iis l), .box [.lst 1 (ints a.n), .lst 3 (eds a.e)], .box (dfC d), .box [.bool b]]) := by
 have hsp := sortL_perm l
 have hsl : (sortL l).length = l.length := hsp.length_eq
 have r1 := hcl l (by omega)
 have r2 := hso l (sortL l) (F "slices.Compare.I") scmp (by omega) scmp_cmp hsp (sortL_sorted l) fun x h1 y h2 => hcm x y (hy x h1) (hy y h2)
 have r3 : ∀ x, FC P (F "iso.count") [.lst 1 (iis l), .int .i64 a.n.length, .lst 1 (ints x)] (.tup [.int .i64 (cntL (l.take a.n.length) x), .int .i64 (cntL (l.drop a.n.length) x)]) [] := fun x => hct l a.n.length x (by omega) hy
 have r4 : ∀ x ∈ l, FC P (F "slices.Clone.I") [.lst 1 (ints x)] (.arr 1 (ints x)) [] := fun x hx => hci x (by have := hy x hx; omega)
 have hS : ∀ x ∈ sortL l, x ∈ l := fun x hx => hsp.mem_iff.1 hx
 have hc1 := fun x => cntL_le (l.take a.n.length) x
 have hc2 := fun x => cntL_le (l.drop a.n.length) x
 have hl1 : (l.take a.n.length).length ≤ 1000 := by simp; omega
 have hl2 : (l.drop a.n.length).length ≤ 1000 := by simp; omega
 have hdf : difS l a.n.length = (sortL l).find? fun x => !decide (cntL (l.take a.n.length) x = cntL (l.drop a.n.length) x) := rfl
 generalize difS l a.n.length = o at *
 generalize sortL l = S at *
 obtain ⟨dr, dc, dx, dy⟩ := d
 refine W_ofF ?_
 simp only [dfC]
 simp (disch := omega) only [go_sem, ↓reduceIte]
 refine call_fz r1 ?_
 simp (disch := omega) only [go_sem, ↓reduceIte]
 refine call_fz r2 ?_
 simp (disch := omega) only [go_sem, ↓reduceIte, hsl]
 refine W_loop (fun i : Nat => ⟨[(0, .int .i64 r), (1, .lst 1 (iis l)), (2, .pt 0 0), (3, .pt 1 0), (4, .pt 2 0), (17, .sl 3 0 l.length), (18, .int .i64 l.length), (19, .int .i64 i)],
  [(0, .box [.lst 1 (ints a.n), .lst 3 (eds a.e)]), (1, .box [.int .i64 dr, .lst 1 (ints dc), .int .i64 dx, .int .i64 dy]), (2, .box [.bool b]), (3, .arr 1 (iis S))], 4⟩)
  (fun i => i ≤ l.length ∧ o = (S.drop i).find? fun x => !decide (cntL (l.take a.n.length) x = cntL (l.drop a.n.length) x)) (fun i => l.length - i) 0 ?_ ?_ ?_
 ·simp (disch := omega) only [go_sem, ↓reduceIte, hsl]
  rfl
 ·exact ⟨Nat.zero_le _, hdf⟩
 ·rintro i ⟨hi, ho⟩
  simp (disch := omega) only [go_sem, ↓reduceIte, c_iso_Reason_1_b11, hsl]
  refine bran_dec (fun e => ?_) (fun e => ?_)
  ·have hx := gt_mem (l := S) (j := (i : Int)) (by omega) (by omega)
   rw [drop_gt (l := S) (by omega), List.find?_cons] at ho
   have q := r3 (gt S (i : Int))
   have q4 := r4 _ (hS _ hx)
   have b1 := hc1 (gt S (i : Int))
   have b2 := hc2 (gt S (i : Int))
   generalize hgx : gt S (i : Int) = x at *
   generalize hp : cntL (l.take a.n.length) x = p at *
   generalize hq : cntL (l.drop a.n.length) x = u at *
   simp (disch := omega) only [go_sem, ↓reduceIte, hsl, hgx]
   refine call_by q ?_
   simp (disch := omega) only [go_sem, ↓reduceIte]
   refine bran_ndec (fun f => ?_) (fun f => ?_)
   ·have hd : decide (p = u) = false := decide_eq_false (by omega)
    rw [hd] at ho
    simp only [Bool.not_false] at ho
    subst ho
    simp (disch := omega) only [go_sem, ↓reduceIte, hgx]
    refine call_by q4 ?_
    simp (disch := omega) only [go_sem, ↓reduceIte]
    simp [dfC, hp, hq]
   ·have hd : decide (p = u) = true := decide_eq_true (by omega)
    rw [hd] at ho
    simp only [Bool.not_true] at ho
    simp (disch := omega) only [go_sem, ↓reduceIte, hsl]
    exact ⟨i + 1, by simp, ⟨by omega, ho⟩, by omega⟩
  ·obtain rfl : i = l.length := by omega
   rw [List.drop_of_length_le (l := S) (by omega)] at ho
   simp only [List.find?_nil] at ho
   subst ho
   simp (disch := omega) only [go_sem, ↓reduceIte]
   simp [dfC]
theorem w_iso_Reason (hb : K_iso_both P F) (hr : K_iso_rounds P F) (h1 : K_iso_Reason_1 P F) (a b : G) : W P (c_iso_Reason F) (DoneF [.c 4 true 4, .t 5] [] (rsnD a b) []) (init [gD a, gD b]) := by
 have r1 := hb a b
 by_cases hv : bothE a b = 0
 ·have va : validG a = 0 := by unfold bothE at hv; split at hv <;> first | assumption | (exact absurd hv (by assumption))
  have vb : validG b = 0 := by unfold bothE at hv; rw [if_pos va] at hv; exact hv
  have hrs : rsnD a b = if (rsnR a b).2 = true then .tup [.agg (dfC (rsnR a b).1), .int .i64 0] else .tup [zdf, .int .i64 10] := if_pos hv
  rw [hrs]
  rw [hv] at r1
  obtain ⟨hi, hnl⟩ := InG.join va vb
  have hsl := sgR_length (joinG [a, b])
  have hsx := sgR_len (g := joinG [a, b]) hi.2.1
  have hN := hi.1
  have r2 := hr (Df × Bool) (fun _ => [.lst 1 (ints a.n), .lst 3 (eds a.e)]) (fun s => dfC s.1) (fun s => [.bool s.2]) (stpR (joinG [a, b]) a.n.length) (F "iso.Reason.1") a b va vb (fun s => ⟨rfl, rfl, rfl⟩) (fun s r hr => by
   have q := h1 (sgR (joinG [a, b]) r) r a s.1 s.2 (by omega) (by rw [hsl]; omega) (by omega) (hsx r)
   unfold stpR
   cases ho : difS (sgR (joinG [a, b]) r) a.n.length with
   | none => rw [ho] at q; simpa using q
   | some x => rw [ho] at q; simpa using q) (⟨0, [], 0, 0⟩, false)
  rw [show runR (stpR (joinG [a, b]) a.n.length) 41 (⟨0, [], 0, 0⟩, false) 0 = rsnR a b from rfl] at r2
  generalize rsnR a b = R at *
  obtain ⟨⟨dr, dc, dx, dy⟩, f⟩ := R
  simp only [gD, dfC, zdf] at *
  rw [show ints [] = [] from rfl] at r2
  refine W_ofF ?_
  have d0 : decide ((0 : Int) = 0) = true := rfl
  simp (disch := omega) only [go_sem, ↓reduceIte]
  refine call_by r1 ?_
  simp (disch := omega) only [go_sem, ↓reduceIte, d0]
  refine call_fz r2 ?_
  cases f with
  | true => simp (disch := omega) only [go_sem, ↓reduceIte]
  | false => simp (disch := omega) only [go_sem, ↓reduceIte]
 ·rw [show rsnD a b = .tup [zdf, .int .i64 (bothE a b)] from if_neg hv]
  generalize bothE a b = e at *
  simp only [gD, zdf] at *
  refine W_ofF ?_
  have d0 : decide (e = 0) = false := decide_eq_false hv
  simp (disch := omega) only [go_sem, ↓reduceIte]
  refine call_by r1 ?_
  simp (disch := omega) only [go_sem, ↓reduceIte, d0]
end
@[go_sem] def c_r08_SameDiffer_r0 : LL := [qB 2 0,qB 3 1,qb 4 false]
@[go_sem] def c_r08_SameDiffer_r1 (F : Fn) : LL := [qf 5 0 2,ql 6 1 5,qf 7 0 3,ql 8 1 7,qo .eql 9 6 8,qm 10 9,qg 10 true (qf 11 2 2),qg 10 true (ql 12 1 11),qg 10 true (qf 13 2 3),qg 10 true (ql 14 1 13),
 qg 10 true (qo .eql 15 12 14),qP 16 10 15,qm 17 16,qg 17 true (qf 18 3 2),qg 17 true (ql 19 1 18),qg 17 true (qf 20 3 3),qg 17 true (ql 21 1 20),qg 17 true (qo .eql 22 19 21),
 qP 23 17 22,qm 24 23,qg 24 true (qf 25 1 2),qg 24 true (ql 26 1 25),qg 24 true (qf 27 1 3),qg 24 true (ql 28 1 27),qg 24 true (qc 29 (F "r05.SameInts") [.t 26,.t 28]),qP 30 24 29,qm 4 30]
@[go_sem] def c_r08_SameDiffer (F : Fn) : LC := (.seq (.reg c_r08_SameDiffer_r0 [2,3]) (.seq (.reg (c_r08_SameDiffer_r1 F) [4]) .ret))
def h_r08_SameDiffer : Hints := hOf [] (c_r08_SameDiffer fun _ => 0)
section
variable (P : Program) (F : String → Nat)
def K_r08_SameDiffer : Prop := ∀ d e : Df, d.c.length ≤ maxL → FC P (F "r08.SameDiffer") [dfD d, dfD e] (.bool (decide (d = e))) []
end
section
variable {α : Type}
end
section
variable {P : Program} {F : String → Nat} {α : Type}
theorem w_r08_SameDiffer (hsa : K_r05_SameInts P F) (d e : Df) (hl : d.c.length ≤ maxL) : W P (c_r08_SameDiffer F) (Done [.t 4] [] (.bool (decide (d = e))) []) (init [dfD d, dfD e]) := by
 obtain ⟨r, c, x, y⟩ := d
 obtain ⟨r', c', x', y'⟩ := e
 have q := hsa c c' hl
 have e0 : decide ((⟨r, c, x, y⟩ : Df) = ⟨r', c', x', y'⟩) = (decide (r = r') && (decide (x = x') && (decide (y = y') && decide (c = c')))) := by
  simp only [Df.mk.injEq]
  by_cases h1 : r = r' <;> by_cases h2 : x = x' <;> by_cases h3 : y = y' <;> by_cases h4 : c = c' <;> simp [h1, h2, h3, h4]
 rw [e0]
 simp only [dfD, dfC] at *
 refine W_of ?_
 by_cases h1 : r = r'
 ·have d1 := decide_eq_true h1
  by_cases h2 : x = x'
  ·have d2 := decide_eq_true h2
   by_cases h3 : y = y'
   ·have d3 := decide_eq_true h3
    rw [d1, d2, d3]
    simp (disch := omega) only [go_sem, ↓reduceIte, d1, d2, d3]
    refine call_by q ?_
    simp (disch := omega) only [go_sem, ↓reduceIte]
   ·have d3 := decide_eq_false h3
    rw [d1, d2, d3]
    simp (disch := omega) only [go_sem, ↓reduceIte, d1, d2, d3]
  ·have d2 := decide_eq_false h2
   rw [d1, d2]
   simp (disch := omega) only [go_sem, ↓reduceIte, d1, d2]
 ·have d1 := decide_eq_false h1
  rw [d1]
  simp (disch := omega) only [go_sem, ↓reduceIte, d1]
end
@[go_sem] def c_iso_of_r0 : LL := [qB 3 0,qB 4 1,⟨some 6,.mov (.k (.undef)),none⟩]
@[go_sem] def c_iso_of_r1 (F : Fn) : LL := [qL 7 2 3,qL 8 2 4,qL 9 2 3,qL 10 2 4,⟨some 11,.buildSl 2 48 (.agg [.lst 1 [],.lst 3 []]) 2 [(0,.t 9),(1,.t 10)],none⟩,qc 12 (F "iso.join") [.t 11],qc 13 (F "iso.joined.stable") [.t 12],qm 14 2,
 qu 15 [.nl 1,.nl 3,.nl 1,.nl 3,.nl 1,.int .i64 (0),.nl 2] [(0,2,.t 7),(2,2,.t 8),(4,1,.t 13),(5,1,.t 14)],qB 16 15,qm 6 16]
@[go_sem] def c_iso_of (F : Fn) : LC := (.seq (.reg c_iso_of_r0 [2,3,4]) (.seq (.dreg [(0,none,[],true),(1,none,[],true),(4,none,[0,1],false),(5,none,[0,1],false),(6,none,[0,1],false)] (c_iso_of_r1 F) [6]) .ret))
def h_iso_of : Hints := hOf [] (c_iso_of fun _ => 0)
@[go_sem] def c_iso_between_r0 : LL := [qB 3 0,qn 6 1]
@[go_sem] def c_iso_between_r1 : LL := [qn 7 1]
@[go_sem] def c_iso_between_r2 : LL := [qf 10 1 3,ql 11 1 10,qz 12 11,qi 13 0]
@[go_sem] def c_iso_between_r3 : LL := [qo .lss 14 13 12]
@[go_sem] def c_iso_between_r4 : LL := [qd 15 3 11 13,qL 16 3 15,qa 9 [.int .i64 (0),.int .i64 (0),.int .i64 (0)],qs 3 9 16]
@[go_sem] def c_iso_between_r5 : LL := [qf 17 1 9,ql 18 1 17,qm 19 1,qo .eql 20 18 19,qm 21 20,qg 21 true (qf 22 2 9),qg 21 true (ql 23 1 22),qg 21 true (qm 24 2),qg 21 true (qo .eql 25 23 24),qP 26 21 25]
@[go_sem] def c_iso_between_r6 : LL := [qm 27 7,qf 28 0 9,ql 29 1 28,⟨some 30,.buildSl 1 8 (.int .i64 (0)) 1 [(0,.t 29)],none⟩,qp 31 1 8 27 30,qm 7 31]
@[go_sem] def c_iso_between_r7 : LL := [qk .add 32 13 1,qm 13 32]
def c_iso_between_b8 : LC := (.seq (.reg c_iso_between_r3 [1,2,7,11,12,13,14]) (.seq (.cond (.t 14) .skip (.exit 0)) (.seq (.block 1 (.seq (.reg c_iso_between_r4 [1,2,7,9,11,12,13]) (.seq (.reg c_iso_between_r5 [1,2,7,9,11,12,13,26]) (.cond (.t 26) (.reg c_iso_between_r6 [1,2,7,11,12,13]) .skip)))) (.reg c_iso_between_r7 [1,2,7,11,12,13]))))
@[go_sem] def c_iso_between_r9 (F : Fn) : LL := [qm 33 7,⟨some 34,.call (F "slices.Sort.I") [.t 33] [.mu],none⟩]
@[go_sem] def c_iso_between_r10 : LL := [qm 35 7,qm 6 35]
@[go_sem] def c_iso_between (F : Fn) : LC := (.seq (.reg c_iso_between_r0 [1,2,3]) (.seq (.reg c_iso_between_r1 [1,2,3,7]) (.seq (.seq (.reg c_iso_between_r2 [1,2,7,11,12,13]) (.block 0 (.loop [1,2,7,11,12,13] c_iso_between_b8))) (.seq (.reg (c_iso_between_r9 F) [7]) (.seq (.reg c_iso_between_r10 [6]) .ret)))))
def h_iso_between : Hints := hOf [] (c_iso_between fun _ => 0)
@[go_sem] def c_iso_free_r0 : LL := [qb 4 false]
@[go_sem] def c_iso_free_r1 : LL := [qb 4 true]
@[go_sem] def c_iso_free (F : Fn) : LC := (.seq (.reg c_iso_free_r0 []) (.seq (.reg c_iso_free_r1 [4]) .ret))
def h_iso_free : Hints := hOf [] (c_iso_free fun _ => 0)
@[go_sem] def c_iso_search_fits_r0 : LL := [qb 6 false]
@[go_sem] def c_iso_search_fits_r1 : LL := [qm 10 1,qz 11 10,qm 7 11]
@[go_sem] def c_iso_search_fits_r2 (F : Fn) : LL := [qm 12 1,qm 13 2,qc 14 (F "slices.Contains.I") [.t 12,.t 13],qm 15 14,qg 15 false (qm 16 0),qg 15 false (qf 17 0 16),qg 15 false (qf 18 4 17),qg 15 false (ql 19 1 18),qg 15 false (qm 20 7),
 qg 15 false (qd 21 1 19 20),qg 15 false (ql 22 1 21),qg 15 false (qm 23 0),qg 15 false (qf 24 0 23),qg 15 false (qf 25 4 24),qg 15 false (ql 26 1 25),qg 15 false (qm 27 0),
 qg 15 false (qf 28 0 27),qg 15 false (qf 29 0 28),qg 15 false (qf 30 0 29),qg 15 false (ql 31 1 30),qg 15 false (qz 32 31),qg 15 false (qm 33 2),qg 15 false (qo .add 34 32 33),
 qg 15 false (qd 35 1 26 34),qg 15 false (ql 36 1 35),qg 15 false (qo .neq 37 22 36),qQ 38 15 37,qm 39 38,qg 39 false (qm 40 0),qg 39 false (qf 41 0 40),qg 39 false (qf 42 0 41),
 qg 39 false (qL 43 2 42),qg 39 false (qm 44 7),qg 39 false (qm 45 7),qg 39 false (qc 46 (F "iso.between") [.t 43,.t 44,.t 45]),qg 39 false (qm 47 0),qg 39 false (qf 48 0 47),
 qg 39 false (qf 49 2 48),qg 39 false (qL 50 2 49),qg 39 false (qm 51 2),qg 39 false (qm 52 2),qg 39 false (qc 53 (F "iso.between") [.t 50,.t 51,.t 52]),qg 39 false (qc 54 (F "slices.Equal.I") [.t 46,.t 53]),
 qg 39 false (qv 55 54),qQ 56 39 55]
@[go_sem] def c_iso_search_fits_r3 : LL := [qb 6 false]
@[go_sem] def c_iso_search_fits_r4 : LL := [qm 57 1,qz 58 57,qi 59 0]
@[go_sem] def c_iso_search_fits_r5 : LL := [qo .lss 60 59 58]
@[go_sem] def c_iso_search_fits_r6 : LL := [qm 61 59,qd 62 1 57 59,ql 63 1 62,qm 8 61,qm 9 63]
@[go_sem] def c_iso_search_fits_r7 (F : Fn) : LL := [qm 64 0,qf 65 0 64,qf 66 0 65,qL 67 2 66,qm 68 7,qm 69 8,qc 70 (F "iso.between") [.t 67,.t 68,.t 69],qm 71 0,qf 72 0 71,qf 73 2 72,qL 74 2 73,qm 75 2,qm 76 9,qc 77 (F "iso.between") [.t 74,.t 75,.t 76],
 qc 78 (F "slices.Equal.I") [.t 70,.t 77],qv 79 78,qm 80 79,qg 80 false (qm 81 0),qg 80 false (qf 82 0 81),qg 80 false (qf 83 0 82),qg 80 false (qL 84 2 83),qg 80 false (qm 85 8),
 qg 80 false (qm 86 7),qg 80 false (qc 87 (F "iso.between") [.t 84,.t 85,.t 86]),qg 80 false (qm 88 0),qg 80 false (qf 89 0 88),qg 80 false (qf 90 2 89),qg 80 false (qL 91 2 90),
 qg 80 false (qm 92 9),qg 80 false (qm 93 2),qg 80 false (qc 94 (F "iso.between") [.t 91,.t 92,.t 93]),qg 80 false (qc 95 (F "slices.Equal.I") [.t 87,.t 94]),qg 80 false (qv 96 95),qQ 97 80 96]
@[go_sem] def c_iso_search_fits_r8 : LL := [qb 6 false]
@[go_sem] def c_iso_search_fits_r9 : LL := [qk .add 98 59 1,qm 59 98]
def c_iso_search_fits_b10 (F : Fn) : LC := (.seq (.reg c_iso_search_fits_r5 [0,2,7,57,58,59,60]) (.seq (.cond (.t 60) .skip (.exit 0)) (.seq (.block 1 (.seq (.reg c_iso_search_fits_r6 [0,2,7,8,9,57,58,59]) (.seq (.dreg [(6,none,[],true),(10,(some 896),[6],false),(23,none,[],true),(27,(some 117571583),[23],false)] (c_iso_search_fits_r7 F) [0,2,7,57,58,59,97]) (.cond (.t 97) (.seq (.reg c_iso_search_fits_r8 [6]) .ret) .skip)))) (.reg c_iso_search_fits_r9 [0,2,7,57,58,59]))))
@[go_sem] def c_iso_search_fits_r11 : LL := [qb 6 true]
@[go_sem] def c_iso_search_fits (F : Fn) : LC := (.seq (.reg c_iso_search_fits_r0 [0,1,2]) (.seq (.reg c_iso_search_fits_r1 [0,1,2,7]) (.seq (.seq (.dreg [(34,none,[],true),(38,(some 240786604031),[34],false)] (c_iso_search_fits_r2 F) [0,1,2,7,56]) (.cond (.t 56) (.seq (.reg c_iso_search_fits_r3 [6]) .ret) .skip)) (.seq (.seq (.reg c_iso_search_fits_r4 [0,2,7,57,58,59]) (.block 0 (.loop [0,2,7,57,58,59] (c_iso_search_fits_b10 F)))) (.seq (.reg c_iso_search_fits_r11 [6]) .ret)))))
def h_iso_search_fits : Hints := hOf [] (c_iso_search_fits fun _ => 0)
@[go_sem] def c_iso_Orbits_1_r0 : LL := [qb 6 false]
@[go_sem] def c_iso_Orbits_1_r1 : LL := [qm 7 0,ql 8 1 2,qo .neq 9 7 8,qm 10 9,qg 10 false (qm 11 1),qg 10 false (ql 12 1 3),qg 10 false (qo .eql 13 11 12),qQ 14 10 13,qm 6 14]
@[go_sem] def c_iso_Orbits_1 (F : Fn) : LC := (.seq (.reg c_iso_Orbits_1_r0 [0,1,2,3]) (.seq (.reg c_iso_Orbits_1_r1 [6]) .ret))
def h_iso_Orbits_1 : Hints := hOf [] (c_iso_Orbits_1 fun _ => 0)
def betL (g : G) (f t : Int) : List Int := srt ((g.e.filter fun x => decide (x.f = f) && decide (x.o = t)).map E.t)
def pairO (a b : G) (i k n m : Int) : Bool := decide (betL a i k = betL b n m) && decide (betL a k i = betL b m n)
def fitsP (a b : G) (c ns : List Int) (n : Int) : Bool := !decide (n ∈ ns) && (decide (gt c ns.length = gt c ((a.n.length : Int) + n)) && (decide (betL a ns.length ns.length = betL b n n) && (List.range ns.length).all fun k => pairO a b ns.length k n (gt ns (k : Int))))
def colJ (a b : G) : List Int := stabL (joinG [a, b])
def seBx (a b : G) (c : List Int) (m : Int) (out : List Mo) : D := .box [.lst 1 (ints a.n), .lst 3 (eds a.e), .lst 1 (ints b.n), .lst 3 (eds b.e), .lst 1 (ints c), .int .i64 m, .arr 2 (pts out)]
def seRf (a b : G) (c : List Int) (m : Int) (out : List Mo) : D := .ref [.lst 1 (ints a.n), .lst 3 (eds a.e), .lst 1 (ints b.n), .lst 3 (eds b.e), .lst 1 (ints c), .int .i64 m, .lst 2 (pts out)]
section
variable (P : Program) (F : String → Nat)
def K_iso_of : Prop := ∀ (a b : G) (m : Int), validG a = 0 → validG b = 0 → FC P (F "iso.of") [gD a, gD b, .int .i64 m] (seBx a b (colJ a b) m []) []
def K_iso_between : Prop := ∀ (g : G) (f t : Int), g.e.length ≤ 1000 → FC P (F "iso.between") [gD g, .int .i64 f, .int .i64 t] (.arr 1 (ints (betL g f t))) []
def K_iso_free : Prop := ∀ i n : Int, FC P (F "iso.free") [.int .i64 i, .int .i64 n] (.bool true) []
def K_iso_Orbits_1 : Prop := ∀ i n u v : Int, FC P (F "iso.Orbits.1") [.int .i64 i, .int .i64 n, .ref [.int .i64 u], .ref [.int .i64 v]] (.bool (!decide (i = u) || decide (n = v))) []
def K_iso_search_fits : Prop := ∀ (a b : G) (c : List Int) (m : Int) (out : List Mo) (ns : List Int) (n : Int), a.n.length ≤ 100 → a.e.length ≤ 1000 → b.e.length ≤ 1000 → ns.length < a.n.length → 0 ≤ n → n < b.n.length → c.length = a.n.length + b.n.length → b.n.length ≤ 100 →
 FC P (F "iso.search.fits") [seRf a b c m out, .lst 1 (ints ns), .int .i64 n] (.bool (fitsP a b c ns n)) []
end
section
variable {P : Program} {F : String → Nat} {α : Type}
theorem w_iso_free (i n : Int) : W P (c_iso_free F) (Done [.t 4] [] (.bool true) []) (init [.int .i64 i, .int .i64 n]) := by
 refine W_of ?_
 simp (disch := omega) only [go_sem, ↓reduceIte]
theorem w_iso_Orbits_1 (i n u v : Int) : W P (c_iso_Orbits_1 F) (Done [.t 6] [] (.bool (!decide (i = u) || decide (n = v))) []) (init [.int .i64 i, .int .i64 n, .ref [.int .i64 u], .ref [.int .i64 v]]) := by
 refine W_of ?_
 by_cases h : i = u
 ·have d := decide_eq_true h
  rw [d]
  simp (disch := omega) only [go_sem, ↓reduceIte, d]
  rfl
 ·have d := decide_eq_false h
  rw [d]
  simp (disch := omega) only [go_sem, ↓reduceIte, d]
  rfl
theorem w_iso_between (hs : K_slices_Sort_I P F) (g : G) (f t : Int) (hg : g.e.length ≤ 1000) : W P (c_iso_between F) (Done [.t 6] [] (.arr 1 (ints (betL g f t))) []) (init [gD g, .int .i64 f, .int .i64 t]) := by
 obtain ⟨ns, es⟩ := g
 simp only [gD, betL] at *
 have hT : ∀ k, k ≤ es.length → (((es.take k).filter fun x => decide (x.f = f) && decide (x.o = t)).map E.t).length ≤ 1000 := fun k hk => by
  rw [List.length_map]
  have := List.length_filter_le (fun x : E => decide (x.f = f) && decide (x.o = t)) (es.take k)
  simp at this
  omega
 refine W_of ?_
 simp (disch := omega) only [go_sem, ↓reduceIte]
 refine W_loop (fun k : Nat => ⟨[(1, .int .i64 f), (2, .int .i64 t), (7, .sl 0 0 (((es.take k).filter fun x => decide (x.f = f) && decide (x.o = t)).map E.t).length), (11, .lst 3 (eds es)), (12, .int .i64 es.length), (13, .int .i64 k)], [(0, .arr 1 (ints (((es.take k).filter fun x => decide (x.f = f) && decide (x.o = t)).map E.t)))], 1⟩) (fun k => k ≤ es.length) (fun k => es.length - k) 0 ?_ ?_ ?_
 ·simp (disch := omega) only [go_sem, ↓reduceIte]
  rfl
 ·omega
 ·intro k hk
  have hTk := hT k hk
  simp (disch := omega) only [go_sem, ↓reduceIte, c_iso_between_b8]
  refine bran_dec (fun d => ?_) (fun d => ?_)
  ·have hn : (((es.take (k + 1)).filter fun x => decide (x.f = f) && decide (x.o = t)).map E.t) = (((es.take k).filter fun x => decide (x.f = f) && decide (x.o = t)).map E.t) ++ (if (decide ((gt es (k : Int)).f = f) && decide ((gt es (k : Int)).o = t)) = true then [(gt es (k : Int)).t] else []) := by
    rw [take_gt (by omega), List.filter_append, List.map_append]
    congr 1
    simp only [List.filter_cons, List.filter_nil]
    split <;> rfl
   generalize ((es.take k).filter fun x => decide (x.f = f) && decide (x.o = t)).map E.t = T at *
   obtain ⟨⟨et, ef, eo⟩, hx⟩ : ∃ x, gt es (k : Int) = x := ⟨_, rfl⟩
   rw [hx] at hn
   simp only at hn
   by_cases h1 : ef = f
   ·have d1 := decide_eq_true h1
    rw [d1] at hn
    simp (disch := omega) only [go_sem, ↓reduceIte, hx, d1]
    refine bran_dec (fun h2 => ?_) (fun h2 => ?_)
    ·rw [decide_eq_true h2] at hn
     simp (disch := omega) only [go_sem, ↓reduceIte, hx, d1]
     exact ⟨k + 1, by simp [hn], by omega, by omega⟩
    ·rw [decide_eq_false h2] at hn
     simp (disch := omega) only [go_sem, ↓reduceIte, hx, d1]
     exact ⟨k + 1, by simp [hn], by omega, by omega⟩
   ·have d1 := decide_eq_false h1
    rw [d1] at hn
    simp (disch := omega) only [go_sem, ↓reduceIte, hx, d1]
    exact ⟨k + 1, by simp [hn], by omega, by omega⟩
  ·obtain rfl : k = es.length := by omega
   rw [List.take_length] at *
   have r := hs ((es.filter fun x => decide (x.f = f) && decide (x.o = t)).map E.t) (by unfold maxL; omega)
   have hl : (srt ((es.filter fun x => decide (x.f = f) && decide (x.o = t)).map E.t)).length = ((es.filter fun x => decide (x.f = f) && decide (x.o = t)).map E.t).length := by
    rw [srt_len]
   generalize ((es.filter fun x => decide (x.f = f) && decide (x.o = t)).map E.t) = T at *
   simp (disch := omega) only [go_sem, ↓reduceIte]
   refine call_by r ?_
   simp (disch := omega) only [go_sem, ↓reduceIte, hl]
theorem w_iso_of (hj : K_iso_join P F) (hs : K_iso_joined_stable P F) (a b : G) (m : Int) (va : validG a = 0) (vb : validG b = 0) : W P (c_iso_of F) (DoneF [.t 6] [] (seBx a b (colJ a b) m []) []) (init [gD a, gD b, .int .i64 m]) := by
 have r1 := hj [a, b] (by simp) (by simp [va, vb])
 obtain ⟨hi, _⟩ := InG.join va vb
 have r2 := hs _ hi
 rw [show colJ a b = stabL (joinG [a, b]) from rfl]
 generalize stabL (joinG [a, b]) = c at *
 generalize joinG [a, b] = J at *
 simp only [gDs, List.map_cons, List.map_nil, gD, gA, seBx] at *
 refine W_ofF ?_
 simp (disch := omega) only [go_sem, ↓reduceIte]
 refine call_by r1 ?_
 simp (disch := omega) only [go_sem, ↓reduceIte]
 refine call_fz r2 ?_
 simp (disch := omega) only [go_sem, ↓reduceIte]
 rfl
set_option maxRecDepth 100000 in
theorem w_iso_search_fits (hc : K_slices_Contains_I P F) (hb : K_iso_between P F) (he : K_slices_Equal_I P F) (a b : G) (c : List Int) (m : Int) (out : List Mo) (ns : List Int) (n : Int) (h0 : a.n.length ≤ 100) (h1 : a.e.length ≤ 1000) (h2 : b.e.length ≤ 1000) (h3 : ns.length < a.n.length) (h4 : 0 ≤ n) (h5 : n < b.n.length) (h6 : c.length = a.n.length + b.n.length) (h7 : b.n.length ≤ 100) :
  W P (c_iso_search_fits F) (Done [.t 6] [] (.bool (fitsP a b c ns n)) []) (init [seRf a b c m out, .lst 1 (ints ns), .int .i64 n]) := by
 have r1 := hc ns n (by unfold maxL; omega)
 have ra := fun f t => hb a f t h1
 have rb := fun f t => hb b f t h2
 have hl : ∀ (g : G) (f t : Int), g.e.length ≤ 1000 → (betL g f t).length ≤ 1000 := fun g f t hg => by
  rw [betL, srt_len, List.length_map]
  have := List.length_filter_le (fun x : E => decide (x.f = f) && decide (x.o = t)) g.e
  omega
 have re : ∀ (f t : Int) (l : List Int), FC P (F "slices.Equal.I") [.lst 1 (ints (betL a f t)), .lst 1 (ints l)] (.bool (decide (betL a f t = l))) [] := fun f t l => he _ l (by have := hl a f t h1; unfold maxL; omega)
 have hf : fitsP a b c ns n = (!decide (n ∈ ns) && (decide (gt c ns.length = gt c ((a.n.length : Int) + n)) && (decide (betL a ns.length ns.length = betL b n n) && (List.range ns.length).all fun k => pairO a b ns.length k n (gt ns (k : Int))))) := rfl
 rw [hf]
 have hpo : ∀ k : Nat, pairO a b ns.length k n (gt ns (k : Int)) = (decide (betL a ns.length k = betL b n (gt ns (k : Int))) && decide (betL a k ns.length = betL b (gt ns (k : Int)) n)) := fun _ => rfl
 generalize pairO a b ns.length = po at *
 generalize betL a = ba at *
 generalize betL b = bb at *
 obtain ⟨an, ae⟩ := a
 obtain ⟨bn, be⟩ := b
 simp only [gD, seRf] at *
 have g1 : (0 : Int) ≤ (an.length : Int) + n := by omega
 have g2 : (an.length : Int) + n < c.length := by omega
 refine W_of ?_
 simp (disch := omega) only [go_sem, ↓reduceIte]
 refine call_by r1 ?_
 by_cases e1 : n ∈ ns
 ·have d1 := decide_eq_true e1
  rw [d1]
  simp (disch := omega) only [go_sem, ↓reduceIte]
 ·have d1 := decide_eq_false e1
  rw [d1]
  by_cases e2 : gt c ns.length = gt c ((an.length : Int) + n)
  ·have d2 := decide_eq_true e2
   rw [d2]
   simp (disch := omega) only [go_sem, ↓reduceIte, d2]
   refine call_by (ra _ _) ?_
   simp (disch := omega) only [go_sem, ↓reduceIte, d2]
   refine call_by (rb _ _) ?_
   simp (disch := omega) only [go_sem, ↓reduceIte, d2]
   refine call_by (re _ _ _) ?_
   by_cases e3 : ba ns.length ns.length = bb n n
   ·have d3 := decide_eq_true e3
    rw [d3]
    simp (disch := omega) only [go_sem, ↓reduceIte]
    refine W_loop (fun k : Nat => ⟨[(0, .ref [.lst 1 (ints an), .lst 3 (eds ae), .lst 1 (ints bn), .lst 3 (eds be), .lst 1 (ints c), .int .i64 m, .lst 2 (pts out)]), (2, .int .i64 n), (7, .int .i64 ns.length), (57, .lst 1 (ints ns)), (58, .int .i64 ns.length), (59, .int .i64 k)], [], 0⟩) (fun k => k ≤ ns.length ∧ ((List.range ns.length).all fun k => po k n (gt ns (k : Int))) = ((List.range' k (ns.length - k)).all fun k => po k n (gt ns (k : Int)))) (fun k => ns.length - k) 0 ?_ ?_ ?_
    ·simp (disch := omega) only [go_sem, ↓reduceIte]
     rfl
    ·exact ⟨Nat.zero_le _, by rw [List.range_eq_range', Nat.sub_zero]⟩
    ·rintro k ⟨k1, k2⟩
     simp (disch := omega) only [go_sem, ↓reduceIte, c_iso_search_fits_b10]
     refine bran_dec (fun f => ?_) (fun f => ?_)
     ·have hk : List.range' k (ns.length - k) = k :: List.range' (k + 1) (ns.length - (k + 1)) := by
       rw [show ns.length - k = (ns.length - (k + 1)) + 1 by omega, List.range'_succ]
      rw [hk, List.all_cons, hpo] at k2
      generalize hrest : ((List.range' (k + 1) (ns.length - (k + 1))).all fun k => po k n (gt ns (k : Int))) = rest at *
      generalize ((List.range ns.length).all fun k => po k n (gt ns (k : Int))) = tot at *
      simp (disch := omega) only [go_sem, ↓reduceIte]
      refine call_by (ra _ _) ?_
      simp (disch := omega) only [go_sem, ↓reduceIte]
      refine call_by (rb _ _) ?_
      simp (disch := omega) only [go_sem, ↓reduceIte]
      refine call_by (re _ _ _) ?_
      by_cases e4 : ba ns.length k = bb n (gt ns (k : Int))
      ·have d4 := decide_eq_true e4
       rw [d4] at k2 ⊢
       simp (disch := omega) only [go_sem, ↓reduceIte]
       refine call_by (ra _ _) ?_
       simp (disch := omega) only [go_sem, ↓reduceIte]
       refine call_by (rb _ _) ?_
       simp (disch := omega) only [go_sem, ↓reduceIte]
       refine call_by (re _ _ _) ?_
       by_cases e5 : ba k ns.length = bb (gt ns (k : Int)) n
       ·have d5 := decide_eq_true e5
        rw [d5] at k2 ⊢
        simp (disch := omega) only [go_sem, ↓reduceIte]
        exact ⟨k + 1, by simp, ⟨by omega, by rw [k2, hrest]; rfl⟩, by omega⟩
       ·have d5 := decide_eq_false e5
        rw [d5] at k2 ⊢
        simp (disch := omega) only [go_sem, ↓reduceIte]
        rw [k2]
        rfl
      ·have d4 := decide_eq_false e4
       rw [d4] at k2 ⊢
       simp (disch := omega) only [go_sem, ↓reduceIte]
       rw [k2]
       rfl
     ·obtain rfl : k = ns.length := by omega
      rw [Nat.sub_self] at k2
      simp (disch := omega) only [go_sem, ↓reduceIte]
      rw [k2]
      rfl
   ·have d3 := decide_eq_false e3
    rw [d3]
    simp (disch := omega) only [go_sem, ↓reduceIte]
  ·have d2 := decide_eq_false e2
   rw [d2]
   simp (disch := omega) only [go_sem, ↓reduceIte, d2]
end
@[go_sem] def c_iso_search_edges_r0 : LL := [qm 11 0,qf 12 0 11,qf 13 6 12,ql 14 1 13,qz 15 14,qm 16 0,qf 17 0 16,qf 18 5 17,ql 19 1 18,qo .gtr 20 15 19]
@[go_sem] def c_iso_search_edges_r1 : LL := [qm 21 2,qz 22 21,qm 6 22]
@[go_sem] def c_iso_search_edges_r2 : LL := [qm 23 6,qm 24 0,qf 25 0 24,qf 26 0 25,qf 27 1 26,ql 28 1 27,qz 29 28,qo .eql 30 23 29]
@[go_sem] def c_iso_search_edges_r3 (F : Fn) : LL := [qm 31 0,qm 32 0,qf 33 0 32,qf 34 6 33,ql 35 1 34,qm 36 1,qc 37 (F "slices.Clone.I") [.t 36],qm 38 2,qc 39 (F "slices.Clone.I") [.t 38],qu 40 [.nl 1,.nl 1] [(0,1,.t 37),(1,1,.t 39)],
 ⟨some 41,.buildSl 2 48 (.agg [.lst 1 [],.lst 1 []]) 1 [(0,.t 40)],none⟩,qp 42 2 48 35 41,qf 43 0 31,qf 44 6 43,qs 1 44 42]
@[go_sem] def c_iso_search_edges_r4 : LL := [qm 45 0,qf 46 0 45,qf 47 0 46,qf 48 1 47,ql 49 1 48,qm 50 6,qd 51 3 49 50,qL 52 3 51,qa 7 [.int .i64 (0),.int .i64 (0),.int .i64 (0)],qs 3 7 52]
@[go_sem] def c_iso_search_edges_r5 : LL := [qf 53 0 7,ql 54 1 53,qm 55 1,qf 56 1 7,ql 57 1 56,qd 58 1 55 57,ql 59 1 58,qm 60 1,qf 61 2 7,ql 62 1 61,qd 63 1 60 62,ql 64 1 63,
 qu 65 [.int .i64 (0),.int .i64 (0),.int .i64 (0)] [(0,1,.t 54),(1,1,.t 59),(2,1,.t 64)],qa 8 [.int .i64 (0),.int .i64 (0),.int .i64 (0)],qs 3 8 65]
@[go_sem] def c_iso_search_edges_r6 : LL := [qm 66 0,qf 67 0 66,qf 68 2 67,qf 69 1 68,ql 70 1 69,qz 71 70,qi 72 0]
@[go_sem] def c_iso_search_edges_r7 : LL := [qo .lss 73 72 71]
@[go_sem] def c_iso_search_edges_r8 : LL := [qm 74 72,qd 75 3 70 72,qL 76 3 75,qa 10 [.int .i64 (0),.int .i64 (0),.int .i64 (0)],qm 9 74,qs 3 10 76]
@[go_sem] def c_iso_search_edges_r9 (F : Fn) : LL := [qL 77 3 10,qL 78 3 8,⟨some 79,.eqA 3 false (.t 77) (.t 78),none⟩,qm 80 79,qg 80 true (qm 81 2),qg 80 true (qm 82 9),qg 80 true (qc 83 (F "slices.Contains.I") [.t 81,.t 82]),qg 80 true (qv 84 83),
 qP 85 80 84]
@[go_sem] def c_iso_search_edges_r10 (F : Fn) : LL := [qm 86 0,qm 87 1,qm 88 2,qc 89 (F "slices.Clone.I") [.t 88],qm 90 9,⟨some 91,.buildSl 1 8 (.int .i64 (0)) 1 [(0,.t 90)],none⟩,qp 92 1 8 89 91,
 ⟨some 93,.call (F "iso.search.edges") [.t 86,.t 87,.t 92] [.mp,.rd,.rd],none⟩]
@[go_sem] def c_iso_search_edges_r11 : LL := [qk .add 94 72 1,qm 72 94]
def c_iso_search_edges_b12 (F : Fn) : LC := (.seq (.reg c_iso_search_edges_r7 [0,1,2,8,70,71,72,73]) (.seq (.cond (.t 73) .skip (.exit 0)) (.seq (.block 1 (.seq (.reg c_iso_search_edges_r8 [0,1,2,8,9,10,70,71,72]) (.seq (.reg (c_iso_search_edges_r9 F) [0,1,2,8,9,70,71,72,85]) (.cond (.t 85) (.reg (c_iso_search_edges_r10 F) [0,1,2,8,70,71,72]) .skip)))) (.reg c_iso_search_edges_r11 [0,1,2,8,70,71,72]))))
@[go_sem] def c_iso_search_edges (F : Fn) : LC := (.seq (.seq (.dreg [] c_iso_search_edges_r0 [0,1,2,20]) (.cond (.t 20) .ret .skip)) (.seq (.reg c_iso_search_edges_r1 [0,1,2,6]) (.seq (.seq (.reg c_iso_search_edges_r2 [0,1,2,6,30]) (.cond (.t 30) (.seq (.dreg [(4,none,[],true),(6,none,[4],false),(8,none,[4],false),(10,none,[4],false)] (c_iso_search_edges_r3 F) [0]) .ret) .skip)) (.seq (.reg c_iso_search_edges_r4 [0,1,2,7]) (.seq (.dreg [] c_iso_search_edges_r5 [0,1,2,8]) (.seq (.reg c_iso_search_edges_r6 [0,1,2,8,70,71,72]) (.block 0 (.loop [0,1,2,8,70,71,72] (c_iso_search_edges_b12 F)))))))))
def h_iso_search_edges : Hints := hOf [0] (c_iso_search_edges fun _ => 0)
def wnt (a b : G) (ns es : List Int) (n : Nat) : Bool := (decide ((gt b.e (n : Int)).t = (gt a.e es.length).t) && (decide ((gt b.e (n : Int)).f = gt ns (gt a.e es.length).f) && decide ((gt b.e (n : Int)).o = gt ns (gt a.e es.length).o))) && !decide ((n : Int) ∈ es)
def eE (a b : G) (ns : List Int) (m : Int) : Nat → List Int → List Mo → List Mo
 | 0, es, out => if m < out.length then out else out ++ [⟨ns, es⟩]
 | k + 1, es, out => if m < out.length then out else (List.range b.e.length).foldl (fun o n => if wnt a b ns es n then eE a b ns m k (es ++ [(n : Int)]) o else o) out
section
variable (P : Program) (F : String → Nat)
def KA_iso_search_edges (n : Nat) : Prop := ∀ (a b : G) (c : List Int) (m : Int) (ns es : List Int) (out : List Mo), validG a = 0 → validG b = 0 → ns.length = a.n.length → es.length + n = a.e.length → 0 ≤ m → m ≤ 2000 → out.length ≤ m + 1 →
 FC P (F "iso.search.edges") [seBx a b c m out, .lst 1 (ints ns), .lst 1 (ints es)] (.tup []) [(0, seBx a b c m (eE a b ns m n es out))]
def K_iso_search_edges : Prop := ∀ n, KA_iso_search_edges P F n
end
section
variable {α : Type}
theorem foldl_lenI {β γ : Type} {f : List β → γ → List β} {m : Int} (hf : ∀ o x, (o.length : Int) ≤ m → ((f o x).length : Int) ≤ m) : ∀ (l : List γ) (o : List β), (o.length : Int) ≤ m → ((l.foldl f o).length : Int) ≤ m
 | [], o, h => h
 | x :: l, o, h => foldl_lenI hf l _ (hf o x h)
theorem foldl_takeR {β : Type} (f : β → Nat → β) (o : β) (N i : Nat) (h : i < N) : ((List.range N).take (i + 1)).foldl f o = f (((List.range N).take i).foldl f o) i := by
 rw [List.take_range, List.take_range, show min (i + 1) N = i + 1 by omega, show min i N = i by omega, List.range_succ, List.foldl_append]
 rfl
theorem eE_len (a b : G) (ns : List Int) (m : Int) : ∀ (k : Nat) (es : List Int) (out : List Mo), (out.length : Int) ≤ m + 1 → ((eE a b ns m k es out).length : Int) ≤ m + 1
 | 0, es, out, h => by
  simp only [eE]
  split
  ·exact h
  ·simp; omega
 | k + 1, es, out, h => by
  simp only [eE]
  split
  ·exact h
  ·refine foldl_lenI (fun o n ho => ?_) _ _ h
   split
   ·exact eE_len a b ns m k _ _ ho
   ·exact ho
end
section
variable {P : Program} {F : String → Nat} {α : Type}
theorem w_iso_search_edges (hc : K_slices_Clone_I P F) (hn : K_slices_Contains_I P F) (n : Nat) (ih : ∀ m, m < n → KA_iso_search_edges P F m) (a b : G) (c : List Int) (m : Int) (ns es : List Int) (out : List Mo) (va : validG a = 0) (vb : validG b = 0) (h1 : ns.length = a.n.length) (h2 : es.length + n = a.e.length) (h3 : 0 ≤ m) (h4 : m ≤ 2000) (h5 : out.length ≤ m + 1) :
  W P (c_iso_search_edges F) (Done [] [0] (.tup []) [(0, seBx a b c m (eE a b ns m n es out))]) (init [seBx a b c m out, .lst 1 (ints ns), .lst 1 (ints es)]) := by
 refine W_of ?_
 obtain ⟨a1, a2, _, a4⟩ := valid_spec va
 obtain ⟨b1, b2, _⟩ := valid_spec vb
 have rc1 := hc ns (by omega)
 have rc2 := hc es (by omega)
 cases n with
 | zero =>
  have hE : eE a b ns m 0 es out = if m < out.length then out else out ++ [⟨ns, es⟩] := rfl
  generalize eE a b ns m 0 es out = q at *
  obtain ⟨an, ae⟩ := a
  obtain ⟨bn, be⟩ := b
  simp only [seBx] at *
  simp (disch := omega) only [go_sem, ↓reduceIte]
  refine bran_dec (fun c => ?_) (fun c => ?_)
  ·rw [if_pos (by omega)] at hE
   subst hE
   simp (disch := omega) only [go_sem, ↓reduceIte]
   rfl
  ·rw [if_neg (by omega)] at hE
   subst hE
   simp (disch := omega) only [go_sem, ↓reduceIte]
   refine bran_dec (fun d => ?_) (fun d => ?_)
   ·simp (disch := omega) only [go_sem, ↓reduceIte]
    refine call_by rc1 ?_
    simp (disch := omega) only [go_sem, ↓reduceIte]
    refine call_by rc2 ?_
    simp (disch := omega) only [go_sem, ↓reduceIte]
    rfl
   ·omega
 | succ n =>
  have hE : eE a b ns m (n + 1) es out = if m < out.length then out else (List.range b.e.length).foldl (fun o k => if wnt a b ns es k then eE a b ns m n (es ++ [(k : Int)]) o else o) out := rfl
  have hx := fits_spec (a4 _ (gt_mem (l := a.e) (j := es.length) (by omega) (by omega)))
  generalize eE a b ns m (n + 1) es out = q at *
  obtain ⟨acc, hacc⟩ : ∃ acc : Nat → List Mo, ∀ i, acc i = ((List.range b.e.length).take i).foldl (fun o k => if wnt a b ns es k then eE a b ns m n (es ++ [(k : Int)]) o else o) out := ⟨_, fun _ => rfl⟩
  have hacc0 : acc 0 = out := by rw [hacc]; rfl
  have haccn : (List.range b.e.length).foldl (fun o k => if wnt a b ns es k then eE a b ns m n (es ++ [(k : Int)]) o else o) out = acc b.e.length := by
   rw [hacc, List.take_of_length_le (by simp)]
  have haccs : ∀ i, i < b.e.length → acc (i + 1) = if wnt a b ns es i then eE a b ns m n (es ++ [(i : Int)]) (acc i) else acc i := fun i hi => by
   rw [hacc, hacc, foldl_takeR _ _ _ _ hi]
  have hlen : ∀ i, ((acc i).length : Int) ≤ m + 1 := fun i => by
   rw [hacc]
   refine foldl_lenI (fun o k ho => ?_) _ _ h5
   split
   ·exact eE_len a b ns m n _ o ho
   ·exact ho
  have hrec : ∀ i : Nat, i < b.e.length → wnt a b ns es i = true → FC P (F "iso.search.edges") [seBx a b c m (acc i), .lst 1 (ints ns), .lst 1 (ints (es ++ [(i : Int)]))] (.tup []) [(0, seBx a b c m (acc (i + 1)))] := fun i hi hw => by
   rw [haccs i hi, if_pos hw]
   exact ih n (by omega) a b c m ns (es ++ [(i : Int)]) (acc i) va vb h1 (by simp; omega) h3 h4 (hlen i)
  have hnw : ∀ i : Nat, i < b.e.length → wnt a b ns es i = false → acc (i + 1) = acc i := fun i hi hw => by
   rw [haccs i hi, if_neg (by simp [hw])]
  have hw : ∀ i : Nat, wnt a b ns es i = ((decide ((gt b.e (i : Int)).t = (gt a.e es.length).t) && (decide ((gt b.e (i : Int)).f = gt ns (gt a.e es.length).f) && decide ((gt b.e (i : Int)).o = gt ns (gt a.e es.length).o))) && !decide ((i : Int) ∈ es)) := fun _ => rfl
  have rcn := fun i : Int => hn es i (by unfold maxL; omega)
  rw [haccn] at hE
  generalize wnt a b ns es = wn at *
  clear haccn haccs hacc ih
  obtain ⟨an, ae⟩ := a
  obtain ⟨bn, be⟩ := b
  simp only [seBx] at *
  obtain ⟨⟨xt, xf, xo⟩, hy⟩ : ∃ x, gt ae (es.length : Int) = x := ⟨_, rfl⟩
  rw [hy] at hx
  simp only [hy] at hw
  simp only at hx
  simp (disch := omega) only [go_sem, ↓reduceIte, hy]
  refine bran_dec (fun k0 => ?_) (fun k0 => ?_)
  ·rw [if_pos (by omega)] at hE
   subst hE
   simp (disch := omega) only [go_sem, ↓reduceIte]
   rfl
  ·rw [if_neg (by omega)] at hE
   subst hE
   simp (disch := omega) only [go_sem, ↓reduceIte, hy]
   refine bran_dec (fun d => ?_) (fun d => ?_)
   ·omega
   ·simp (disch := omega) only [go_sem, ↓reduceIte, hy]
    refine W_loop (fun i : Nat => ⟨[(0, .pt 1 0), (1, .lst 1 (ints ns)), (2, .lst 1 (ints es)), (8, .pt 2 0), (70, .lst 3 (eds be)), (71, .int .i64 be.length), (72, .int .i64 i)],
     [(0, .arr 2 (pts (acc i))), (1, .box [.lst 1 (ints an), .lst 3 (eds ae), .lst 1 (ints bn), .lst 3 (eds be), .lst 1 (ints c), .int .i64 m, .sl 0 0 (acc i).length]), (2, .box [.int .i64 xt, .int .i64 (gt ns xf), .int .i64 (gt ns xo)])], 3⟩) (fun i => i ≤ be.length) (fun i => be.length - i) 0 ?_ ?_ ?_
    ·simp (disch := omega) only [go_sem, ↓reduceIte, hacc0]
     rfl
    ·omega
    ·intro i hi
     simp (disch := omega) only [go_sem, ↓reduceIte, c_iso_search_edges_b12]
     refine bran_dec (fun f => ?_) (fun f => ?_)
     ·have hwi := hw i
      have hli := hlen i
      have hli2 := hlen (i + 1)
      have hr := hrec i (by omega)
      have hno := hnw i (by omega)
      obtain ⟨⟨yt, yf, yo⟩, hz⟩ : ∃ x, gt be (i : Int) = x := ⟨_, rfl⟩
      rw [hz] at hwi
      simp only at hwi
      cases he : (decide (yt = xt) && (decide (yf = gt ns xf) && decide (yo = gt ns xo))) with
      | false =>
       rw [he] at hwi
       have hno := hno hwi
       simp (disch := omega) only [go_sem, ↓reduceIte, hz, he]
       exact ⟨i + 1, by simp [hno], by omega, by omega⟩
      | true =>
       rw [he, Bool.true_and] at hwi
       have q := rcn i
       by_cases hm : (i : Int) ∈ es
       ·have d1 := decide_eq_true hm
        rw [d1] at hwi q
        have hno := hno hwi
        simp (disch := omega) only [go_sem, ↓reduceIte, hz, he]
        refine call_by q ?_
        simp (disch := omega) only [go_sem, ↓reduceIte]
        exact ⟨i + 1, by simp [hno], by omega, by omega⟩
       ·have d1 := decide_eq_false hm
        rw [d1] at hwi q
        have hr := hr hwi
        simp (disch := omega) only [go_sem, ↓reduceIte, hz, he]
        refine call_by q ?_
        simp (disch := omega) only [go_sem, ↓reduceIte]
        refine call_by rc2 ?_
        simp (disch := omega) only [go_sem, ↓reduceIte]
        refine call_fz hr ?_
        simp (disch := omega) only [go_sem, ↓reduceIte]
        exact ⟨i + 1, by simp, by omega, by omega⟩
     ·obtain rfl : i = be.length := by omega
      simp (disch := omega) only [go_sem, ↓reduceIte]
      rfl
end
@[go_sem] def c_iso_search_nodes_r0 : LL := [qm 7 0,qf 8 0 7,qf 9 6 8,ql 10 1 9,qz 11 10,qm 12 0,qf 13 0 12,qf 14 5 13,ql 15 1 14,qo .gtr 16 11 15]
@[go_sem] def c_iso_search_nodes_r1 : LL := [qm 17 1,qz 18 17,qm 19 0,qf 20 0 19,qf 21 0 20,qf 22 0 21,ql 23 1 22,qz 24 23,qo .eql 25 18 24]
@[go_sem] def c_iso_search_nodes_r2 (F : Fn) : LL := [qm 26 0,qm 27 1,⟨some 28,.call (F "iso.search.edges") [.t 26,.t 27,.k (.nl 0)] [.mp,.rd,.rd],none⟩]
@[go_sem] def c_iso_search_nodes_r3 : LL := [qm 29 0,qf 30 0 29,qf 31 2 30,qf 32 0 31,ql 33 1 32,qz 34 33,qi 35 0]
@[go_sem] def c_iso_search_nodes_r4 : LL := [qo .lss 36 35 34]
@[go_sem] def c_iso_search_nodes_r5 : LL := [qm 37 35,qm 6 37]
@[go_sem] def c_iso_search_nodes_r6 (F : Fn) : LL := [qm 38 2,qm 39 1,qz 40 39,qm 41 6,⟨some 42,.callv (.t 38) [.t 40,.t 41],none⟩,qm 43 42,qg 43 true (qm 44 0),qg 43 true (qm 45 1),qg 43 true (qm 46 6),
 qg 43 true (qc 47 (F "iso.search.fits") [.t 44,.t 45,.t 46]),qP 48 43 47]
@[go_sem] def c_iso_search_nodes_r7 (F : Fn) : LL := [qm 49 0,qm 50 1,qc 51 (F "slices.Clone.I") [.t 50],qm 52 6,⟨some 53,.buildSl 1 8 (.int .i64 (0)) 1 [(0,.t 52)],none⟩,qp 54 1 8 51 53,qm 55 2,
 ⟨some 56,.call (F "iso.search.nodes") [.t 49,.t 54,.t 55] [.mp,.rd,.mp],none⟩]
@[go_sem] def c_iso_search_nodes_r8 : LL := [qk .add 57 35 1,qm 35 57]
def c_iso_search_nodes_b9 (F : Fn) : LC := (.seq (.reg c_iso_search_nodes_r4 [0,1,2,34,35,36]) (.seq (.cond (.t 36) .skip (.exit 0)) (.seq (.block 1 (.seq (.reg c_iso_search_nodes_r5 [0,1,2,6,34,35]) (.seq (.reg (c_iso_search_nodes_r6 F) [0,1,2,6,34,35,48]) (.cond (.t 48) (.reg (c_iso_search_nodes_r7 F) [0,1,2,34,35]) .skip)))) (.reg c_iso_search_nodes_r8 [0,1,2,34,35]))))
@[go_sem] def c_iso_search_nodes (F : Fn) : LC := (.seq (.seq (.dreg [] c_iso_search_nodes_r0 [0,1,2,16]) (.cond (.t 16) .ret .skip)) (.seq (.seq (.reg c_iso_search_nodes_r1 [0,1,2,25]) (.cond (.t 25) (.seq (.reg (c_iso_search_nodes_r2 F) [0,2]) .ret) .skip)) (.seq (.reg c_iso_search_nodes_r3 [0,1,2,34,35]) (.block 0 (.loop [0,1,2,34,35] (c_iso_search_nodes_b9 F))))))
def h_iso_search_nodes : Hints := hOf [0, 2] (c_iso_search_nodes fun _ => 0)
def nN (a b : G) (c : List Int) (m : Int) (al : Int → Int → Bool) : Nat → List Int → List Mo → List Mo
 | 0, ns, out => if m < out.length then out else eE a b ns m a.e.length [] out
 | k + 1, ns, out => if m < out.length then out else (List.range b.n.length).foldl (fun o (n : Nat) => if al ns.length (n : Int) && fitsP a b c ns (n : Int) then nN a b c m al k (ns ++ [(n : Int)]) o else o) out
def AlOk (P : Program) (g : Nat) (bs : List D) (al : Int → Int → Bool) : Prop :=
 (bs = [] ∧ ∀ i n, FC P g [.int .i64 i, .int .i64 n] (.bool (al i n)) []) ∨
 ∃ u v : Int, bs = [.box [.int .i64 u], .box [.int .i64 v]] ∧ ∀ i n, FC P g [.int .i64 i, .int .i64 n, .ref [.int .i64 u], .ref [.int .i64 v]] (.bool (al i n)) []
section
variable (P : Program) (F : String → Nat)
def KA_iso_search_nodes (n : Nat) : Prop := ∀ (a b : G) (c : List Int) (m : Int) (ns : List Int) (out : List Mo) (g : Nat) (bs : List D) (al : Int → Int → Bool), AlOk P g bs al → validG a = 0 → validG b = 0 → c.length = a.n.length + b.n.length → ns.length + n = a.n.length → 0 ≤ m → m ≤ 2000 → out.length ≤ m + 1 →
 FC P (F "iso.search.nodes") [seBx a b c m out, .lst 1 (ints ns), .clb g bs] (.tup []) [(0, seBx a b c m (nN a b c m al n ns out)), (2, .clb g bs)]
def K_iso_search_nodes : Prop := ∀ n, KA_iso_search_nodes P F n
end
section
variable {α : Type}
theorem nN_len (a b : G) (c : List Int) (m : Int) (al : Int → Int → Bool) : ∀ (k : Nat) (ns : List Int) (out : List Mo), (out.length : Int) ≤ m + 1 → ((nN a b c m al k ns out).length : Int) ≤ m + 1
 | 0, ns, out, h => by
  simp only [nN]
  split
  ·exact h
  ·exact eE_len _ _ _ _ _ _ _ h
 | k + 1, ns, out, h => by
  simp only [nN]
  split
  ·exact h
  ·refine foldl_lenI (fun o n ho => ?_) _ _ h
   split
   ·exact nN_len a b c m al k _ _ ho
   ·exact ho
end
section
variable {P : Program} {F : String → Nat} {α : Type}
theorem w_nodes_free (hc : K_slices_Clone_I P F) (he : K_iso_search_edges P F) (hf : K_iso_search_fits P F) (n : Nat) (a b : G) (c : List Int) (m : Int) (ns : List Int) (out : List Mo) (g : Nat) (al : Int → Int → Bool) (hal : ∀ i n, FC P g [.int .i64 i, .int .i64 n] (.bool (al i n)) [])
  (ih : ∀ n', n' < n → ∀ (ns : List Int) (out : List Mo), ns.length + n' = a.n.length → out.length ≤ m + 1 → FC P (F "iso.search.nodes") [seBx a b c m out, .lst 1 (ints ns), .clb g []] (.tup []) [(0, seBx a b c m (nN a b c m al n' ns out)), (2, .clb g [])])
  (va : validG a = 0) (vb : validG b = 0) (h0 : c.length = a.n.length + b.n.length) (h2 : ns.length + n = a.n.length) (h3 : 0 ≤ m) (h4 : m ≤ 2000) (h5 : out.length ≤ m + 1) :
  W P (c_iso_search_nodes F) (Done [] [0, 2] (.tup []) [(0, seBx a b c m (nN a b c m al n ns out)), (2, .clb g [])]) (init [seBx a b c m out, .lst 1 (ints ns), .clb g []]) := by
 refine W_of ?_
 obtain ⟨a1, a2, _⟩ := valid_spec va
 obtain ⟨b1, b2, _⟩ := valid_spec vb
 have rc1 := hc ns (by omega)
 cases n with
 | zero =>
  have hE : nN a b c m al 0 ns out = if m < out.length then out else eE a b ns m a.e.length [] out := rfl
  have re := FC.nils (a := [seBx a b c m out, .lst 1 (ints ns), .nl 0]) (he a.e.length a b c m ns [] out va vb (by omega) (by simp) h3 h4 h5) (by simp [NilW, ints])
  generalize nN a b c m al 0 ns out = q at *
  generalize eE a b ns m a.e.length [] out = eo at *
  obtain ⟨an, ae⟩ := a
  obtain ⟨bn, be⟩ := b
  simp only [seBx] at *
  simp (disch := omega) only [go_sem, ↓reduceIte]
  refine bran_dec (fun k0 => ?_) (fun k0 => ?_)
  ·rw [if_pos (by omega)] at hE
   subst hE
   simp (disch := omega) only [go_sem, ↓reduceIte]
   rfl
  ·rw [if_neg (by omega)] at hE
   subst hE
   simp (disch := omega) only [go_sem, ↓reduceIte]
   refine bran_dec (fun d => ?_) (fun d => ?_)
   ·simp (disch := omega) only [go_sem, ↓reduceIte]
    refine call_fz re ?_
    simp (disch := omega) only [go_sem, ↓reduceIte]
    rfl
   ·omega
 | succ n =>
  have hE : nN a b c m al (n + 1) ns out = if m < out.length then out else (List.range b.n.length).foldl (fun o (k : Nat) => if al ns.length (k : Int) && fitsP a b c ns (k : Int) then nN a b c m al n (ns ++ [(k : Int)]) o else o) out := rfl
  generalize nN a b c m al (n + 1) ns out = q at *
  obtain ⟨acc, hacc⟩ : ∃ acc : Nat → List Mo, ∀ i, acc i = ((List.range b.n.length).take i).foldl (fun o (k : Nat) => if al ns.length (k : Int) && fitsP a b c ns (k : Int) then nN a b c m al n (ns ++ [(k : Int)]) o else o) out := ⟨_, fun _ => rfl⟩
  have hacc0 : acc 0 = out := by rw [hacc]; rfl
  have haccn : (List.range b.n.length).foldl (fun o (k : Nat) => if al ns.length (k : Int) && fitsP a b c ns (k : Int) then nN a b c m al n (ns ++ [(k : Int)]) o else o) out = acc b.n.length := by
   rw [hacc, List.take_of_length_le (by simp)]
  have haccs : ∀ i, i < b.n.length → acc (i + 1) = if al ns.length i && fitsP a b c ns i then nN a b c m al n (ns ++ [(i : Int)]) (acc i) else acc i := fun i hi => by
   rw [hacc, hacc, foldl_takeR _ _ _ _ hi]
  have hlen : ∀ i, ((acc i).length : Int) ≤ m + 1 := fun i => by
   rw [hacc]
   refine foldl_lenI (fun o k ho => ?_) _ _ h5
   split
   ·exact nN_len a b c m al n _ o ho
   ·exact ho
  have hrec : ∀ i : Nat, i < b.n.length → al ns.length i = true → fitsP a b c ns i = true → FC P (F "iso.search.nodes") [seBx a b c m (acc i), .lst 1 (ints (ns ++ [(i : Int)])), .clb g []] (.tup []) [(0, seBx a b c m (acc (i + 1))), (2, .clb g [])] := fun i hi hw hv => by
   rw [haccs i hi, if_pos (by rw [hw, hv]; rfl)]
   exact ih n (by omega) (ns ++ [(i : Int)]) (acc i) (by simp; omega) (hlen i)
  have hnw : ∀ i : Nat, i < b.n.length → (al ns.length i && fitsP a b c ns i) = false → acc (i + 1) = acc i := fun i hi hw => by
   rw [haccs i hi, if_neg (by simp only [hw]; simp)]
  have hft : ∀ i : Nat, i < b.n.length → FC P (F "iso.search.fits") [seRf a b c m (acc i), .lst 1 (ints ns), .int .i64 i] (.bool (fitsP a b c ns i)) [] := fun i hi => hf a b c m (acc i) ns i (by omega) (by omega) (by omega) (by omega) (by omega) (by omega) h0 (by omega)
  rw [haccn] at hE
  generalize fitsP a b c ns = fi at *
  clear haccn haccs hacc ih he hf
  obtain ⟨an, ae⟩ := a
  obtain ⟨bn, be⟩ := b
  simp only [seBx, seRf] at *
  simp (disch := omega) only [go_sem, ↓reduceIte]
  refine bran_dec (fun k0 => ?_) (fun k0 => ?_)
  ·rw [if_pos (by omega)] at hE
   subst hE
   simp (disch := omega) only [go_sem, ↓reduceIte]
   rfl
  ·rw [if_neg (by omega)] at hE
   subst hE
   simp (disch := omega) only [go_sem, ↓reduceIte]
   refine bran_dec (fun d => ?_) (fun d => ?_)
   ·omega
   ·simp (disch := omega) only [go_sem, ↓reduceIte]
    refine W_loop (fun i : Nat => ⟨[(0, .pt 1 0), (1, .lst 1 (ints ns)), (2, .clo g []), (34, .int .i64 bn.length), (35, .int .i64 i)],
     [(0, .arr 2 (pts (acc i))), (1, .box [.lst 1 (ints an), .lst 3 (eds ae), .lst 1 (ints bn), .lst 3 (eds be), .lst 1 (ints c), .int .i64 m, .sl 0 0 (acc i).length])], 2⟩) (fun i => i ≤ bn.length) (fun i => bn.length - i) 0 ?_ ?_ ?_
    ·simp (disch := omega) only [go_sem, ↓reduceIte, hacc0]
     rfl
    ·omega
    ·intro i hi
     simp (disch := omega) only [go_sem, ↓reduceIte, c_iso_search_nodes_b9]
     refine bran_dec (fun f => ?_) (fun f => ?_)
     ·have hli := hlen i
      have hli2 := hlen (i + 1)
      have hr := hrec i (by omega)
      have hno := hnw i (by omega)
      have q1 := hal ns.length i
      have q2 := hft i (by omega)
      simp (disch := omega) only [go_sem, ↓reduceIte]
      cases e1 : al ns.length i with
      | false =>
       rw [e1] at q1 hno
       have hno := hno rfl
       refine call_by q1 ?_
       simp (disch := omega) only [go_sem, ↓reduceIte]
       exact ⟨i + 1, by simp [hno], by omega, by omega⟩
      | true =>
       rw [e1] at q1 hno
       refine call_by q1 ?_
       simp (disch := omega) only [go_sem, ↓reduceIte]
       cases e2 : fi i with
       | false =>
        rw [e2] at q2 hno
        have hno := hno rfl
        refine call_by q2 ?_
        simp (disch := omega) only [go_sem, ↓reduceIte]
        exact ⟨i + 1, by simp [hno], by omega, by omega⟩
       | true =>
        rw [e2] at q2
        have hr := hr e1 e2
        refine call_by q2 ?_
        simp (disch := omega) only [go_sem, ↓reduceIte]
        refine call_by rc1 ?_
        simp (disch := omega) only [go_sem, ↓reduceIte]
        refine call_fz hr ?_
        simp (disch := omega) only [go_sem, ↓reduceIte]
        exact ⟨i + 1, by simp, by omega, by omega⟩
     ·obtain rfl : i = bn.length := by omega
      simp (disch := omega) only [go_sem, ↓reduceIte]
      rfl
theorem w_nodes_caps (hc : K_slices_Clone_I P F) (he : K_iso_search_edges P F) (hf : K_iso_search_fits P F) (n : Nat) (a b : G) (c : List Int) (m : Int) (ns : List Int) (out : List Mo) (g : Nat) (u v : Int) (al : Int → Int → Bool) (hal : ∀ i n, FC P g [.int .i64 i, .int .i64 n, .ref [.int .i64 u], .ref [.int .i64 v]] (.bool (al i n)) [])
  (ih : ∀ n', n' < n → ∀ (ns : List Int) (out : List Mo), ns.length + n' = a.n.length → out.length ≤ m + 1 → FC P (F "iso.search.nodes") [seBx a b c m out, .lst 1 (ints ns), .clb g [.box [.int .i64 u], .box [.int .i64 v]]] (.tup []) [(0, seBx a b c m (nN a b c m al n' ns out)), (2, .clb g [.box [.int .i64 u], .box [.int .i64 v]])])
  (va : validG a = 0) (vb : validG b = 0) (h0 : c.length = a.n.length + b.n.length) (h2 : ns.length + n = a.n.length) (h3 : 0 ≤ m) (h4 : m ≤ 2000) (h5 : out.length ≤ m + 1) :
  W P (c_iso_search_nodes F) (Done [] [0, 2] (.tup []) [(0, seBx a b c m (nN a b c m al n ns out)), (2, .clb g [.box [.int .i64 u], .box [.int .i64 v]])]) (init [seBx a b c m out, .lst 1 (ints ns), .clb g [.box [.int .i64 u], .box [.int .i64 v]]]) := by
 refine W_of ?_
 obtain ⟨a1, a2, _⟩ := valid_spec va
 obtain ⟨b1, b2, _⟩ := valid_spec vb
 have rc1 := hc ns (by omega)
 cases n with
 | zero =>
  have hE : nN a b c m al 0 ns out = if m < out.length then out else eE a b ns m a.e.length [] out := rfl
  have re := FC.nils (a := [seBx a b c m out, .lst 1 (ints ns), .nl 0]) (he a.e.length a b c m ns [] out va vb (by omega) (by simp) h3 h4 h5) (by simp [NilW, ints])
  generalize nN a b c m al 0 ns out = q at *
  generalize eE a b ns m a.e.length [] out = eo at *
  obtain ⟨an, ae⟩ := a
  obtain ⟨bn, be⟩ := b
  simp only [seBx] at *
  simp (disch := omega) only [go_sem, ↓reduceIte]
  refine bran_dec (fun k0 => ?_) (fun k0 => ?_)
  ·rw [if_pos (by omega)] at hE
   subst hE
   simp (disch := omega) only [go_sem, ↓reduceIte]
   rfl
  ·rw [if_neg (by omega)] at hE
   subst hE
   simp (disch := omega) only [go_sem, ↓reduceIte]
   refine bran_dec (fun d => ?_) (fun d => ?_)
   ·simp (disch := omega) only [go_sem, ↓reduceIte]
    refine call_fz re ?_
    simp (disch := omega) only [go_sem, ↓reduceIte]
    rfl
   ·omega
 | succ n =>
  have hE : nN a b c m al (n + 1) ns out = if m < out.length then out else (List.range b.n.length).foldl (fun o (k : Nat) => if al ns.length (k : Int) && fitsP a b c ns (k : Int) then nN a b c m al n (ns ++ [(k : Int)]) o else o) out := rfl
  generalize nN a b c m al (n + 1) ns out = q at *
  obtain ⟨acc, hacc⟩ : ∃ acc : Nat → List Mo, ∀ i, acc i = ((List.range b.n.length).take i).foldl (fun o (k : Nat) => if al ns.length (k : Int) && fitsP a b c ns (k : Int) then nN a b c m al n (ns ++ [(k : Int)]) o else o) out := ⟨_, fun _ => rfl⟩
  have hacc0 : acc 0 = out := by rw [hacc]; rfl
  have haccn : (List.range b.n.length).foldl (fun o (k : Nat) => if al ns.length (k : Int) && fitsP a b c ns (k : Int) then nN a b c m al n (ns ++ [(k : Int)]) o else o) out = acc b.n.length := by
   rw [hacc, List.take_of_length_le (by simp)]
  have haccs : ∀ i, i < b.n.length → acc (i + 1) = if al ns.length i && fitsP a b c ns i then nN a b c m al n (ns ++ [(i : Int)]) (acc i) else acc i := fun i hi => by
   rw [hacc, hacc, foldl_takeR _ _ _ _ hi]
  have hlen : ∀ i, ((acc i).length : Int) ≤ m + 1 := fun i => by
   rw [hacc]
   refine foldl_lenI (fun o k ho => ?_) _ _ h5
   split
   ·exact nN_len a b c m al n _ o ho
   ·exact ho
  have hrec : ∀ i : Nat, i < b.n.length → al ns.length i = true → fitsP a b c ns i = true → FC P (F "iso.search.nodes") [seBx a b c m (acc i), .lst 1 (ints (ns ++ [(i : Int)])), .clb g [.box [.int .i64 u], .box [.int .i64 v]]] (.tup []) [(0, seBx a b c m (acc (i + 1))), (2, .clb g [.box [.int .i64 u], .box [.int .i64 v]])] := fun i hi hw hv => by
   rw [haccs i hi, if_pos (by rw [hw, hv]; rfl)]
   exact ih n (by omega) (ns ++ [(i : Int)]) (acc i) (by simp; omega) (hlen i)
  have hnw : ∀ i : Nat, i < b.n.length → (al ns.length i && fitsP a b c ns i) = false → acc (i + 1) = acc i := fun i hi hw => by
   rw [haccs i hi, if_neg (by simp only [hw]; simp)]
  have hft : ∀ i : Nat, i < b.n.length → FC P (F "iso.search.fits") [seRf a b c m (acc i), .lst 1 (ints ns), .int .i64 i] (.bool (fitsP a b c ns i)) [] := fun i hi => hf a b c m (acc i) ns i (by omega) (by omega) (by omega) (by omega) (by omega) (by omega) h0 (by omega)
  rw [haccn] at hE
  generalize fitsP a b c ns = fi at *
  clear haccn haccs hacc ih he hf
  obtain ⟨an, ae⟩ := a
  obtain ⟨bn, be⟩ := b
  simp only [seBx, seRf] at *
  simp (disch := omega) only [go_sem, ↓reduceIte]
  refine bran_dec (fun k0 => ?_) (fun k0 => ?_)
  ·rw [if_pos (by omega)] at hE
   subst hE
   simp (disch := omega) only [go_sem, ↓reduceIte]
   rfl
  ·rw [if_neg (by omega)] at hE
   subst hE
   simp (disch := omega) only [go_sem, ↓reduceIte]
   refine bran_dec (fun d => ?_) (fun d => ?_)
   ·omega
   ·simp (disch := omega) only [go_sem, ↓reduceIte]
    refine W_loop (fun i : Nat => ⟨[(0, .pt 1 0), (1, .lst 1 (ints ns)), (2, .clo g [.pt 2 0, .pt 3 0]), (34, .int .i64 bn.length), (35, .int .i64 i)],
     [(0, .arr 2 (pts (acc i))), (1, .box [.lst 1 (ints an), .lst 3 (eds ae), .lst 1 (ints bn), .lst 3 (eds be), .lst 1 (ints c), .int .i64 m, .sl 0 0 (acc i).length]), (2, .box [.int .i64 u]), (3, .box [.int .i64 v])], 4⟩) (fun i => i ≤ bn.length) (fun i => bn.length - i) 0 ?_ ?_ ?_
    ·simp (disch := omega) only [go_sem, ↓reduceIte, hacc0]
     rfl
    ·omega
    ·intro i hi
     simp (disch := omega) only [go_sem, ↓reduceIte, c_iso_search_nodes_b9]
     refine bran_dec (fun f => ?_) (fun f => ?_)
     ·have hli := hlen i
      have hli2 := hlen (i + 1)
      have hr := hrec i (by omega)
      have hno := hnw i (by omega)
      have q1 := hal ns.length i
      have q2 := hft i (by omega)
      simp (disch := omega) only [go_sem, ↓reduceIte]
      cases e1 : al ns.length i with
      | false =>
       rw [e1] at q1 hno
       have hno := hno rfl
       refine call_by q1 ?_
       simp (disch := omega) only [go_sem, ↓reduceIte]
       exact ⟨i + 1, by simp [hno], by omega, by omega⟩
      | true =>
       rw [e1] at q1 hno
       refine call_by q1 ?_
       simp (disch := omega) only [go_sem, ↓reduceIte]
       cases e2 : fi i with
       | false =>
        rw [e2] at q2 hno
        have hno := hno rfl
        refine call_by q2 ?_
        simp (disch := omega) only [go_sem, ↓reduceIte]
        exact ⟨i + 1, by simp [hno], by omega, by omega⟩
       | true =>
        rw [e2] at q2
        have hr := hr e1 e2
        refine call_by q2 ?_
        simp (disch := omega) only [go_sem, ↓reduceIte]
        refine call_by rc1 ?_
        simp (disch := omega) only [go_sem, ↓reduceIte]
        refine call_fz hr ?_
        simp (disch := omega) only [go_sem, ↓reduceIte]
        exact ⟨i + 1, by simp, by omega, by omega⟩
     ·obtain rfl : i = bn.length := by omega
      simp (disch := omega) only [go_sem, ↓reduceIte]
      rfl
theorem w_iso_search_nodes (hc : K_slices_Clone_I P F) (he : K_iso_search_edges P F) (hf : K_iso_search_fits P F) (n : Nat) (ih : ∀ m, m < n → KA_iso_search_nodes P F m) (a b : G) (c : List Int) (m : Int) (ns : List Int) (out : List Mo) (g : Nat) (bs : List D) (al : Int → Int → Bool) (hal : AlOk P g bs al)
  (va : validG a = 0) (vb : validG b = 0) (h0 : c.length = a.n.length + b.n.length) (h2 : ns.length + n = a.n.length) (h3 : 0 ≤ m) (h4 : m ≤ 2000) (h5 : out.length ≤ m + 1) :
  W P (c_iso_search_nodes F) (Done [] [0, 2] (.tup []) [(0, seBx a b c m (nN a b c m al n ns out)), (2, .clb g bs)]) (init [seBx a b c m out, .lst 1 (ints ns), .clb g bs]) := by
 have ih2 := fun n' hn ns out hl ho => ih n' hn a b c m ns out g bs al hal va vb h0 hl h3 h4 ho
 rcases hal with ⟨rfl, hal⟩ | ⟨u, v, rfl, hal⟩
 ·exact w_nodes_free hc he hf n a b c m ns out g al hal ih2 va vb h0 h2 h3 h4 h5
 ·exact w_nodes_caps hc he hf n a b c m ns out g u v al hal ih2 va vb h0 h2 h3 h4 h5
theorem AlOk.ok1 {P : Program} {g : Nat} {bs : List D} {al : Int → Int → Bool} (h : AlOk P g bs al) {a b : G} {c ns : List Int} {m : Int} {out : List Mo} : [seBx a b c m out, .lst 1 (ints ns), .clb g bs].all okA1 = true := by
 rcases h with ⟨rfl, _⟩ | ⟨u, v, rfl, _⟩ <;> rfl
end
@[go_sem] def c_partition_root_r0 : LL := [qi 4 0]
@[go_sem] def c_partition_root_r1 : LL := [qm 5 0,qm 6 1,qd 7 1 5 6,ql 8 1 7,qm 9 1,qo .neq 10 8 9]
@[go_sem] def c_partition_root_r2 : LL := [qm 11 0,qm 12 1,qd 13 1 11 12,ql 14 1 13,qm 1 14]
def c_partition_root_b3 : LC := (.seq (.seq (.reg c_partition_root_r1 [0,1,10]) (.cond (.t 10) .skip (.exit 0))) (.block 1 (.reg c_partition_root_r2 [0,1])))
@[go_sem] def c_partition_root_r4 : LL := [qm 15 1,qm 4 15]
@[go_sem] def c_partition_root (F : Fn) : LC := (.seq (.reg c_partition_root_r0 [0,1]) (.seq (.block 0 (.loop [0,1] c_partition_root_b3)) (.seq (.reg c_partition_root_r4 [4]) .ret)))
def h_partition_root : Hints := hOf [] (c_partition_root fun _ => 0)
@[go_sem] def c_partition_unite_r0 (F : Fn) : LL := [qm 8 0,qm 9 1,qc 10 (F "partition.root") [.t 8,.t 9],qm 11 0,qm 12 2,qc 13 (F "partition.root") [.t 11,.t 12],qm 6 10,qm 7 13]
@[go_sem] def c_partition_unite_r1 : LL := [qm 14 0,qm 15 6,qm 16 7,⟨some 17,.mx [.t 15,.t 16],none⟩,qm 18 6,qm 19 7,⟨some 20,.mn [.t 18,.t 19],none⟩,qd 21 1 14 17,qs 1 21 20]
@[go_sem] def c_partition_unite (F : Fn) : LC := (.seq (.reg (c_partition_unite_r0 F) [0,6,7]) (.reg c_partition_unite_r1 [0]))
def h_partition_unite : Hints := hOf [0] (c_partition_unite fun _ => 0)
@[go_sem] def c_partition_finest_r0 : LL := [qn 2 1]
@[go_sem] def c_partition_finest_r1 : LL := [qm 5 0,⟨some 6,.makeSl 1 8 (.int .i64 (0)) (.t 5),none⟩,qm 3 6]
@[go_sem] def c_partition_finest_r2 : LL := [qm 7 3,qz 8 7,qi 9 0]
@[go_sem] def c_partition_finest_r3 : LL := [qo .lss 10 9 8]
@[go_sem] def c_partition_finest_r4 : LL := [qm 11 9,qm 4 11]
@[go_sem] def c_partition_finest_r5 : LL := [qm 12 3,qm 13 4,qm 14 4,qd 15 1 12 13,qs 1 15 14]
@[go_sem] def c_partition_finest_r6 : LL := [qk .add 16 9 1,qm 9 16]
def c_partition_finest_b7 : LC := (.seq (.reg c_partition_finest_r3 [3,8,9,10]) (.seq (.cond (.t 10) .skip (.exit 0)) (.seq (.block 1 (.seq (.reg c_partition_finest_r4 [3,4,8,9]) (.reg c_partition_finest_r5 [3,8,9]))) (.reg c_partition_finest_r6 [3,8,9]))))
@[go_sem] def c_partition_finest_r8 : LL := [qm 17 3,qm 2 17]
@[go_sem] def c_partition_finest (F : Fn) : LC := (.seq (.reg c_partition_finest_r0 [0]) (.seq (.reg c_partition_finest_r1 [3]) (.seq (.seq (.reg c_partition_finest_r2 [3,8,9]) (.block 0 (.loop [3,8,9] c_partition_finest_b7))) (.seq (.reg c_partition_finest_r8 [2]) .ret))))
def h_partition_finest : Hints := hOf [] (c_partition_finest fun _ => 0)
@[go_sem] def c_partition_flat_r0 : LL := [qn 2 1]
@[go_sem] def c_partition_flat_r1 : LL := [qm 4 0,qz 5 4,qi 6 0]
@[go_sem] def c_partition_flat_r2 : LL := [qo .lss 7 6 5]
@[go_sem] def c_partition_flat_r3 : LL := [qm 8 6,qm 3 8]
@[go_sem] def c_partition_flat_r4 (F : Fn) : LL := [qm 9 0,qm 10 3,qm 11 0,qm 12 3,qc 13 (F "partition.root") [.t 11,.t 12],qd 14 1 9 10,qs 1 14 13]
@[go_sem] def c_partition_flat_r5 : LL := [qk .add 15 6 1,qm 6 15]
def c_partition_flat_b6 (F : Fn) : LC := (.seq (.reg c_partition_flat_r2 [0,5,6,7]) (.seq (.cond (.t 7) .skip (.exit 0)) (.seq (.block 1 (.seq (.reg c_partition_flat_r3 [0,3,5,6]) (.reg (c_partition_flat_r4 F) [0,5,6]))) (.reg c_partition_flat_r5 [0,5,6]))))
@[go_sem] def c_partition_flat_r7 : LL := [qm 16 0,qm 2 16]
@[go_sem] def c_partition_flat (F : Fn) : LC := (.seq (.reg c_partition_flat_r0 [0]) (.seq (.seq (.reg c_partition_flat_r1 [0,5,6]) (.block 0 (.loop [0,5,6] (c_partition_flat_b6 F)))) (.seq (.reg c_partition_flat_r7 [2]) .ret)))
def h_partition_flat : Hints := hOf [] (c_partition_flat fun _ => 0)
@[go_sem] def c_partition_Generate_r0 : LL := [qn 4 1,qi 5 0]
@[go_sem] def c_partition_Generate_r1 : LL := [qm 9 0,qk .gtr 10 9 80]
@[go_sem] def c_partition_Generate_r2 : LL := [qn 4 1,qi 5 3]
@[go_sem] def c_partition_Generate_r3 : LL := [qm 11 0,qk .lss 12 11 0]
@[go_sem] def c_partition_Generate_r4 : LL := [qn 4 1,qi 5 6]
@[go_sem] def c_partition_Generate_r5 (F : Fn) : LL := [qm 13 0,qc 14 (F "partition.finest") [.t 13],qm 6 14]
@[go_sem] def c_partition_Generate_r6 : LL := [qm 15 1,qz 16 15,qi 17 0]
@[go_sem] def c_partition_Generate_r7 : LL := [qo .lss 18 17 16]
@[go_sem] def c_partition_Generate_r8 : LL := [qd 19 2 15 17,qL 20 2 19,qa 8 [.int .i64 (0),.int .i64 (0)],qs 2 8 20]
@[go_sem] def c_partition_Generate_r9 : LL := [qf 21 0 8,ql 22 1 21,qk .lss 23 22 0,qm 24 23,qg 24 false (qf 25 0 8),qg 24 false (ql 26 1 25),qg 24 false (qm 27 0),qg 24 false (qo .geq 28 26 27),qQ 29 24 28,qm 30 29,
 qg 30 false (qf 31 1 8),qg 30 false (ql 32 1 31),qg 30 false (qk .lss 33 32 0),qQ 34 30 33,qm 35 34,qg 35 false (qf 36 1 8),qg 35 false (ql 37 1 36),qg 35 false (qm 38 0),
 qg 35 false (qo .geq 39 37 38),qQ 40 35 39]
@[go_sem] def c_partition_Generate_r10 : LL := [qn 4 1,qi 5 6]
@[go_sem] def c_partition_Generate_r11 (F : Fn) : LL := [qm 41 6,qf 42 0 8,ql 43 1 42,qf 44 1 8,ql 45 1 44,⟨some 46,.call (F "partition.unite") [.t 41,.t 43,.t 45] [.mu,.rd,.rd],none⟩]
@[go_sem] def c_partition_Generate_r12 : LL := [qk .add 47 17 1,qm 17 47]
def c_partition_Generate_b13 (F : Fn) : LC := (.seq (.reg c_partition_Generate_r7 [0,6,15,16,17,18]) (.seq (.cond (.t 18) .skip (.exit 0)) (.seq (.block 1 (.seq (.reg c_partition_Generate_r8 [0,6,8,15,16,17]) (.seq (.seq (.reg c_partition_Generate_r9 [0,6,8,15,16,17,40]) (.cond (.t 40) (.seq (.reg c_partition_Generate_r10 [4,5]) .ret) .skip)) (.reg (c_partition_Generate_r11 F) [0,6,15,16,17])))) (.reg c_partition_Generate_r12 [0,6,15,16,17]))))
@[go_sem] def c_partition_Generate_r14 (F : Fn) : LL := [qm 48 6,⟨some 49,.call (F "partition.flat") [.t 48] [.ow],none⟩,qm 4 49,qi 5 0]
@[go_sem] def c_partition_Generate (F : Fn) : LC := (.seq (.reg c_partition_Generate_r0 [0,1]) (.seq (.seq (.reg c_partition_Generate_r1 [0,1,10]) (.cond (.t 10) (.seq (.reg c_partition_Generate_r2 [4,5]) .ret) .skip)) (.seq (.seq (.reg c_partition_Generate_r3 [0,1,12]) (.cond (.t 12) (.seq (.reg c_partition_Generate_r4 [4,5]) .ret) .skip)) (.seq (.reg (c_partition_Generate_r5 F) [0,1,6]) (.seq (.seq (.reg c_partition_Generate_r6 [0,6,15,16,17]) (.block 0 (.loop [0,6,15,16,17] (c_partition_Generate_b13 F)))) (.seq (.reg (c_partition_Generate_r14 F) [4,5]) .ret))))))
def h_partition_Generate : Hints := hOf [] (c_partition_Generate fun _ => 0)
section
variable (P : Program) (F : String → Nat)
def K_partition_root : Prop := ∀ (p r : List Int) (i : Nat), Fo p r → p.length ≤ 1000 → i < p.length → FC P (F "partition.root") [.lst 1 (ints p), .int .i64 i] (.int .i64 (gt r i)) []
def K_partition_unite : Prop := ∀ (p r : List Int) (a b : Nat), Fo p r → p.length ≤ 1000 → a < p.length → b < p.length → FC P (F "partition.unite") [.arr 1 (ints p), .int .i64 a, .int .i64 b] (.tup []) [(0, .arr 1 (ints (p.set (max (gt r a) (gt r b)).toNat (min (gt r a) (gt r b)))))]
def K_partition_finest : Prop := ∀ n : Nat, n ≤ 1000000 → FC P (F "partition.finest") [.int .i64 n] (.arr 1 (ints (nums 0 n))) []
def K_partition_flat : Prop := ∀ p r : List Int, Fo p r → p.length ≤ 1000 → FC P (F "partition.flat") [.arr 1 (ints p)] (.arr 1 (ints r)) []
def K_partition_Generate : Prop := ∀ (n : Nat) (l : List Pr), n ≤ 80 → l.length ≤ 1000 → PrIn n l → FC P (F "partition.Generate") [.int .i64 n, .lst 2 (prs l)] (.tup [.arr 1 (ints (genL n l)), .int .i64 0]) []
end
section
variable {P : Program} {F : String → Nat} {α : Type}
theorem w_partition_root (p r : List Int) (i : Nat) (h : Fo p r) (hl : p.length ≤ 1000) (hi : i < p.length) : W P (c_partition_root F) (Done [.t 4] [] (.int .i64 (gt r i)) []) (init [.lst 1 (ints p), .int .i64 i]) := by
 refine W_of ?_
 simp (disch := omega) only [go_sem, ↓reduceIte]
 refine W_loop (fun k : Nat => ⟨[(0, .lst 1 (ints p)), (1, .int .i64 k)], [], 0⟩) (fun k => k < p.length ∧ gt r k = gt r i) (fun k => k) i ?_ ?_ ?_
 ·simp (disch := omega) only [go_sem, ↓reduceIte]
  try rfl
 ·exact ⟨hi, rfl⟩
 ·rintro k ⟨h1, h2⟩
  obtain ⟨b1, b2⟩ := h.b k h1
  obtain ⟨m, hm⟩ := natI b1
  have hs := h.s k h1
  have ht := h.t k h1
  simp (disch := omega) only [go_sem, ↓reduceIte, c_partition_root_b3]
  refine bran_ndec (fun c => ?_) (fun c => ?_)
  ·rw [hm] at c hs b2
   simp (disch := omega) only [go_sem, ↓reduceIte]
   exact ⟨m, by rw [hm], ⟨by omega, by rw [hs, h2]⟩, by omega⟩
  ·simp (disch := omega) only [go_sem, ↓reduceIte]
   rw [← h2, ht c]
theorem w_partition_unite (hr : K_partition_root P F) (p r : List Int) (a b : Nat) (h : Fo p r) (hl : p.length ≤ 1000) (ha : a < p.length) (hb : b < p.length) :
  W P (c_partition_unite F) (Done [] [0] (.tup []) [(0, .arr 1 (ints (p.set (max (gt r a) (gt r b)).toNat (min (gt r a) (gt r b)))))]) (init [.arr 1 (ints p), .int .i64 a, .int .i64 b]) := by
 refine W_of ?_
 have r1 := hr p r a h hl ha
 have r2 := hr p r b h hl hb
 have hlo : min (gt r a) (gt r b) = if gt r b < gt r a then gt r b else gt r a := by rw [Int.min_def]; split <;> split <;> omega
 have hhi : max (gt r a) (gt r b) = if gt r a < gt r b then gt r b else gt r a := by rw [Int.max_def]; split <;> split <;> omega
 have hb1 : 0 ≤ max (gt r a) (gt r b) ∧ max (gt r a) (gt r b) < p.length := by
  obtain ⟨⟨a1, a2⟩, _⟩ := h.c a ha
  obtain ⟨⟨b1, b2⟩, _⟩ := h.c b hb
  omega
 rw [hhi] at hb1
 rw [hlo, hhi]
 clear hlo hhi
 simp (disch := omega) only [go_sem, ↓reduceIte]
 refine call_by r1 ?_
 simp (disch := omega) only [go_sem, ↓reduceIte]
 refine call_by r2 ?_
 simp (disch := omega) only [go_sem, ↓reduceIte]
theorem w_partition_finest (n : Nat) (hn : n ≤ 1000000) : W P (c_partition_finest F) (Done [.t 2] [] (.arr 1 (ints (nums 0 n))) []) (init [.int .i64 n]) := by
 refine W_of ?_
 simp (config := { maxSteps := 1000000 }) (disch := first | omega | (simp only [go_sem]; omega)) only [go_sem, ↓reduceIte]
 refine W_loop (fun i : Nat => ⟨[(3, .sl 0 0 n), (8, .int .i64 n), (9, .int .i64 i)], [(0, .arr 1 (ints (nums 0 i ++ List.replicate (n - i) 0)))], 1⟩) (fun i => i ≤ n) (fun i => n - i) 0 ?_ ?_ ?_
 ·simp (config := { maxSteps := 1000000 }) (disch := first | omega | (simp only [go_sem]; omega)) only [go_sem, ↓reduceIte, nums_zero]
  rfl
 ·omega
 ·intro i hi
  have hl := nums_len 0 i
  simp (config := { maxSteps := 1000000 }) (disch := first | omega | (simp only [go_sem]; omega)) only [go_sem, ↓reduceIte, c_partition_finest_b7]
  refine bran_dec (fun c => ?_) (fun c => ?_)
  ·have hf : (nums 0 i ++ List.replicate (n - i) 0).set i (i : Int) = nums 0 (i + 1) ++ List.replicate (n - (i + 1)) 0 := by
    have := fillL (nums 0 i) (i : Int) 0 (n - (i + 1))
    rw [hl, show n - (i + 1) + 1 = n - i by omega] at this
    rw [this, nums_succ]
    simp
   simp (config := { maxSteps := 1000000 }) (disch := first | omega | (simp only [go_sem]; omega)) only [go_sem, ↓reduceIte, hl, hf]
   exact ⟨i + 1, by simp, by omega, by omega⟩
  ·obtain rfl : i = n := by omega
   simp (config := { maxSteps := 1000000 }) (disch := first | omega | (simp only [go_sem]; omega)) only [go_sem, ↓reduceIte, hl]
   simp
theorem w_partition_flat (hr : K_partition_root P F) (p r : List Int) (h : Fo p r) (hl : p.length ≤ 1000) : W P (c_partition_flat F) (Done [.t 2] [] (.arr 1 (ints r)) []) (init [.arr 1 (ints p)]) := by
 refine W_of ?_
 have hlr := h.l
 generalize hn : p.length = n at *
 simp (disch := omega) only [go_sem, ↓reduceIte, hn]
 refine W_loop (fun s : Nat × List Int => ⟨[(0, .sl 0 0 n), (5, .int .i64 n), (6, .int .i64 s.1)], [(0, .arr 1 (ints s.2))], 1⟩) (fun s => s.1 ≤ n ∧ s.2.length = n ∧ Fo s.2 r ∧ ∀ j : Nat, j < s.1 → gt s.2 j = gt r j) (fun s => n - s.1) (0, p) ?_ ?_ ?_
 ·simp (disch := omega) only [go_sem, ↓reduceIte, hn]
  rfl
 ·exact ⟨by omega, hn, h, fun j hj => by omega⟩
 ·rintro ⟨i, q⟩ ⟨h1, h2, h3, h4⟩
  simp only at h1 h2 h3 h4
  by_cases c : i < n
  ·have g1 : decide ((i : Int) < n) = true := decide_eq_true (by omega)
   have r1 := hr q r i h3 (by omega) (by omega)
   simp (disch := omega) only [go_sem, ↓reduceIte, c_partition_flat_b6, g1, h2]
   refine call_by r1 ?_
   simp (disch := omega) only [go_sem, ↓reduceIte, h2]
   refine ⟨(i + 1, q.set i (gt r i)), by simp, ⟨by simp only; omega, by simp [h2], h3.flat (by omega), fun j hj => ?_⟩, by simp only; omega⟩
   simp only
   rw [gt_setS (by omega)]
   split
   ·rename_i e; subst e; rfl
   ·simp only at hj; exact h4 j (by omega)
  ·have g1 : decide ((i : Int) < n) = false := decide_eq_false (by omega)
   have e : q = r := list_ext_gt (by omega) fun j hj => h4 j (by omega)
   subst e
   simp (disch := omega) only [go_sem, ↓reduceIte, c_partition_flat_b6, g1, h2]
theorem w_partition_Generate (hf : K_partition_finest P F) (hu : K_partition_unite P F) (hfl : K_partition_flat P F) (n : Nat) (l : List Pr) (hn : n ≤ 80) (hl : l.length ≤ 1000) (hp : PrIn n l) :
  W P (c_partition_Generate F) (Done [.t 4, .t 5] [] (.tup [.arr 1 (ints (genL n l)), .int .i64 0]) []) (init [.int .i64 n, .lst 2 (prs l)]) := by
 refine W_of ?_
 have d1 : decide ((80 : Int) < n) = false := decide_eq_false (by omega)
 have d2 : decide ((n : Int) < 0) = false := decide_eq_false (by omega)
 have r1 := hf n (by omega)
 have nl := nums_len 0 n
 simp (disch := omega) only [go_sem, ↓reduceIte, d1, d2]
 refine call_by r1 ?_
 simp (disch := omega) only [go_sem, ↓reduceIte, nl]
 refine W_loop (fun s : Nat × List Int => ⟨[(0, .int .i64 n), (6, .sl 0 0 n), (15, .lst 2 (prs l)), (16, .int .i64 l.length), (17, .int .i64 s.1)], [(0, .arr 1 (ints s.2))], 1⟩) (fun s => s.1 ≤ l.length ∧ s.2.length = n ∧ Fo s.2 (genI n l s.1)) (fun s => l.length - s.1) (0, nums 0 n) ?_ ?_ ?_
 ·simp (disch := omega) only [go_sem, ↓reduceIte, nl]
  rfl
 ·exact ⟨by simp, nl, nums_Fo n⟩
 ·rintro ⟨i, q⟩ ⟨h1, h2, h3⟩
  simp only at h1 h2 h3
  by_cases c : i < l.length
  ·have g1 : decide ((i : Int) < l.length) = true := decide_eq_true (by omega)
   obtain ⟨⟨a1, a2⟩, b1, b2⟩ := hp i c
   have hs : genI n l (i + 1) = mergeL (genI n l i) (gt l i).a (gt l i).b := rfl
   generalize hgi : genI n l (i + 1) = gi' at *
   generalize genI n l i = gi at *
   obtain ⟨a, ha⟩ := natI a1
   obtain ⟨b, hb⟩ := natI b1
   rw [ha, hb] at hs
   rw [ha] at a1 a2
   rw [hb] at b1 b2
   have r2 := hu q gi a b h3 (by omega) (by omega) (by omega)
   have e1 : decide ((a : Int) < 0) = false := decide_eq_false (by omega)
   have e2 : decide ((n : Int) ≤ a) = false := decide_eq_false (by omega)
   have e3 : decide ((b : Int) < 0) = false := decide_eq_false (by omega)
   have e4 : decide ((n : Int) ≤ b) = false := decide_eq_false (by omega)
   have hf2 := h3.unite (a := a) (b := b) (by omega) (by omega)
   rw [← hs] at hf2
   clear hs
   generalize hq : q.set (max (gt gi a) (gt gi b)).toNat (min (gt gi a) (gt gi b)) = q' at *
   have ql : q'.length = n := by rw [← hq, List.length_set, h2]
   simp (disch := omega) only [go_sem, ↓reduceIte, c_partition_Generate_b13, g1, ha, hb, e1, e2, e3, e4, h2]
   refine call_by r2 ?_
   simp (disch := omega) only [go_sem, ↓reduceIte, h2, ql]
   exact ⟨(i + 1, q'), by simp, ⟨by simp only; omega, ql, by show Fo q' (genI n l (i + 1)); rw [hgi]; exact hf2⟩, by simp only; omega⟩
  ·have g1 : decide ((i : Int) < l.length) = false := decide_eq_false (by omega)
   obtain rfl : i = l.length := by omega
   have gl := gen_len (n := n) (l := l) l.length
   have r2 := hfl q _ h3 (by omega)
   have hE : genL n l = genI n l l.length := rfl
   rw [hE]
   generalize genI n l l.length = gi at *
   simp (disch := omega) only [go_sem, ↓reduceIte, c_partition_Generate_b13, g1, h2]
   refine call_by r2 ?_
   simp (disch := omega) only [go_sem, ↓reduceIte, gl]
end
@[go_sem] def c_iso_All_r0 : LL := [qB 2 0,qB 3 1,qn 4 2,qi 5 0]
@[go_sem] def c_iso_All_r1 (F : Fn) : LL := [qL 8 2 2,qL 9 2 3,qc 10 (F "iso.both") [.t 8,.t 9],qm 6 10]
@[go_sem] def c_iso_All_r2 : LL := [qm 11 6,qk .neq 12 11 0]
@[go_sem] def c_iso_All_r3 : LL := [qm 13 6,qn 4 2,qm 5 13]
@[go_sem] def c_iso_All_r4 (F : Fn) : LL := [qL 14 2 2,qL 15 2 3,qc 16 (F "iso.shaped") [.t 14,.t 15],qv 17 16]
@[go_sem] def c_iso_All_r5 : LL := [qn 4 2,qi 5 0]
@[go_sem] def c_iso_All_r6 (F : Fn) : LL := [qL 18 2 2,qL 19 2 3,qc 20 (F "iso.of") [.t 18,.t 19,.k (.int .i64 (2000))],qm 7 20]
@[go_sem] def c_iso_All_r7 (F : Fn) : LL := [qm 21 7,⟨some 22,.call (F "iso.search.nodes") [.t 21,.k (.nl 0),.k (.clo (F "iso.free") [])] [.mp,.rd,.mp],none⟩]
@[go_sem] def c_iso_All_r8 : LL := [qm 23 7,qf 24 0 23,qf 25 6 24,ql 26 1 25,qz 27 26,qk .gtr 28 27 2000]
@[go_sem] def c_iso_All_r9 : LL := [qn 4 2,qi 5 3]
@[go_sem] def c_iso_All_r10 : LL := [qm 29 7,qf 30 0 29,qf 31 6 30,ql 32 1 31,qm 4 32,qi 5 0]
@[go_sem] def c_iso_All (F : Fn) : LC := (.seq (.reg c_iso_All_r0 [2,3]) (.seq (.seq (.reg (c_iso_All_r1 F) [2,3,6]) (.seq (.reg c_iso_All_r2 [2,3,6,12]) (.cond (.t 12) (.seq (.reg c_iso_All_r3 [4,5]) .ret) .skip))) (.seq (.seq (.reg (c_iso_All_r4 F) [2,3,17]) (.cond (.t 17) (.seq (.reg c_iso_All_r5 [4,5]) .ret) .skip)) (.seq (.reg (c_iso_All_r6 F) [7]) (.seq (.reg (c_iso_All_r7 F) [7]) (.seq (.seq (.reg c_iso_All_r8 [7,28]) (.cond (.t 28) (.seq (.reg c_iso_All_r9 [4,5]) .ret) .skip)) (.seq (.reg c_iso_All_r10 [4,5]) .ret)))))))
def h_iso_All : Hints := hOf [] (c_iso_All fun _ => 0)
@[go_sem] def c_iso_Orbits_r0 : LL := [qB 1 0,qn 2 1,qi 3 0]
@[go_sem] def c_iso_Orbits_r1 (F : Fn) : LL := [qL 9 2 1,qc 10 (F "graph.Valid") [.t 9],qm 4 10]
@[go_sem] def c_iso_Orbits_r2 : LL := [qm 11 4,qk .neq 12 11 0]
@[go_sem] def c_iso_Orbits_r3 : LL := [qm 13 4,qn 2 1,qm 3 13]
@[go_sem] def c_iso_Orbits_r4 : LL := [qf 14 0 1,ql 15 1 14,qz 16 15,qk .gtr 17 16 12]
@[go_sem] def c_iso_Orbits_r5 : LL := [qn 2 1,qi 3 3]
@[go_sem] def c_iso_Orbits_r6 : LL := [qn 5 2]
@[go_sem] def c_iso_Orbits_r7 : LL := [qf 18 0 1,ql 19 1 18,qz 20 19,qi 21 0]
@[go_sem] def c_iso_Orbits_r8 : LL := [qo .lss 22 21 20]
@[go_sem] def c_iso_Orbits_r9 : LL := [qm 23 21,qa 6 [.int .i64 (0)],qs 1 6 23]
@[go_sem] def c_iso_Orbits_r10 : LL := [ql 24 1 6,qi 25 0]
@[go_sem] def c_iso_Orbits_r11 : LL := [qo .lss 26 25 24]
@[go_sem] def c_iso_Orbits_r12 : LL := [qm 27 25,qa 7 [.int .i64 (0)],qs 1 7 27]
@[go_sem] def c_iso_Orbits_r13 (F : Fn) : LL := [qL 28 2 1,qL 29 2 1,qc 30 (F "iso.of") [.t 28,.t 29,.k (.int .i64 (0))],qm 8 30]
@[go_sem] def c_iso_Orbits_r14 (F : Fn) : LL := [qm 31 8,⟨some 32,.mkf (F "iso.Orbits.1") [.t 7,.t 6],none⟩,⟨some 33,.call (F "iso.search.nodes") [.t 31,.k (.nl 0),.t 32] [.mp,.rd,.mp],none⟩]
@[go_sem] def c_iso_Orbits_r15 : LL := [qm 34 8,qf 35 0 34,qf 36 6 35,ql 37 1 36,qz 38 37,qk .gtr 39 38 0]
@[go_sem] def c_iso_Orbits_r16 : LL := [qm 40 5,ql 41 1 7,ql 42 1 6,qu 43 [.int .i64 (0),.int .i64 (0)] [(0,1,.t 41),(1,1,.t 42)],⟨some 44,.buildSl 2 16 (.agg [.int .i64 (0),.int .i64 (0)]) 1 [(0,.t 43)],none⟩,
 qp 45 2 16 40 44,qm 5 45]
@[go_sem] def c_iso_Orbits_r17 : LL := [qk .add 46 25 1,qm 25 46]
def c_iso_Orbits_b18 (F : Fn) : LC := (.seq (.reg c_iso_Orbits_r11 [1,5,6,20,21,24,25,26]) (.seq (.cond (.t 26) .skip (.exit 2)) (.seq (.block 3 (.seq (.reg c_iso_Orbits_r12 [1,5,6,7,20,21,24,25]) (.seq (.reg (c_iso_Orbits_r13 F) [1,5,6,7,8,20,21,24,25]) (.seq (.reg (c_iso_Orbits_r14 F) [1,5,6,7,8,20,21,24,25]) (.seq (.reg c_iso_Orbits_r15 [1,5,6,7,20,21,24,25,39]) (.cond (.t 39) (.seq (.reg c_iso_Orbits_r16 [1,5,20,21]) (.exit 2)) .skip)))))) (.reg c_iso_Orbits_r17 [1,5,6,20,21,24,25]))))
@[go_sem] def c_iso_Orbits_r19 : LL := [qk .add 47 21 1,qm 21 47]
def c_iso_Orbits_b20 (F : Fn) : LC := (.seq (.reg c_iso_Orbits_r8 [1,5,20,21,22]) (.seq (.cond (.t 22) .skip (.exit 0)) (.seq (.block 1 (.seq (.reg c_iso_Orbits_r9 [1,5,6,20,21]) (.seq (.reg c_iso_Orbits_r10 [1,5,6,20,21,24,25]) (.block 2 (.loop [1,5,6,20,21,24,25] (c_iso_Orbits_b18 F)))))) (.reg c_iso_Orbits_r19 [1,5,20,21]))))
@[go_sem] def c_iso_Orbits_r21 (F : Fn) : LL := [qf 48 0 1,ql 49 1 48,qz 50 49,qm 51 5,qc 52 (F "partition.Generate") [.t 50,.t 51],qx 53 52 0,qx 54 52 1,qm 2 53,qm 3 54]
@[go_sem] def c_iso_Orbits (F : Fn) : LC := (.seq (.reg c_iso_Orbits_r0 [1]) (.seq (.seq (.reg (c_iso_Orbits_r1 F) [1,4]) (.seq (.reg c_iso_Orbits_r2 [1,4,12]) (.cond (.t 12) (.seq (.reg c_iso_Orbits_r3 [2,3]) .ret) .skip))) (.seq (.seq (.reg c_iso_Orbits_r4 [1,17]) (.cond (.t 17) (.seq (.reg c_iso_Orbits_r5 [2,3]) .ret) .skip)) (.seq (.reg c_iso_Orbits_r6 [1,5]) (.seq (.seq (.reg c_iso_Orbits_r7 [1,5,20,21]) (.block 0 (.loop [1,5,20,21] (c_iso_Orbits_b20 F)))) (.seq (.reg (c_iso_Orbits_r21 F) [2,3]) .ret))))))
def h_iso_Orbits : Hints := hOf [] (c_iso_Orbits fun _ => 0)
def shpB (a b : G) : Bool := decide (a.n.length = b.n.length) && decide (a.e.length = b.e.length)
def isoN (a b : G) (m : Int) (al : Int → Int → Bool) : List Mo := nN a b (colJ a b) m al a.n.length [] []
def allP (a b : G) : List Mo × Int := if bothE a b = 0 then (if shpB a b = true then (if 2000 < (isoN a b 2000 fun _ _ => true).length then ([], 3) else (isoN a b 2000 fun _ _ => true, 0)) else ([], 0)) else ([], bothE a b)
def alO (u v : Nat) (i n : Int) : Bool := !decide (i = u) || decide (n = v)
def fndO (g : G) (u v : Nat) : Bool := !(isoN g g 0 (alO u v)).isEmpty
def orbU (g : G) (v : Nat) : Option Nat := (List.range v).find? fun u => fndO g u v
def orbS (g : G) (v : Nat) : List Pr := match orbU g v with | some u => [⟨u, v⟩] | none => []
def orbP (g : G) : List Pr := (List.range g.n.length).flatMap (orbS g)
def orbR (g : G) : List Int × Int := if validG g = 0 then (if 12 < g.n.length then ([], 3) else (genL g.n.length (orbP g), 0)) else ([], validG g)
section
variable (P : Program) (F : String → Nat)
def K_iso_Orbits : Prop := ∀ g : G, FC P (F "iso.Orbits") [gD g] (.tup [.arr 1 (ints (orbR g).1), .int .i64 (orbR g).2]) []
def K_iso_All : Prop := ∀ a b : G, FC P (F "iso.All") [gD a, gD b] (.tup [.arr 2 (pts (allP a b).1), .int .i64 (allP a b).2]) []
end
section
variable {P : Program} {F : String → Nat} {α : Type}
theorem colJ_len {a b : G} (va : validG a = 0) (vb : validG b = 0) : (colJ a b).length = a.n.length + b.n.length := by
 obtain ⟨hi, hn⟩ := InG.join va vb
 have key : ∀ (g : G) (k : Nat) (s : List (List Int)), s.length = g.n.length → (stb g k s).length = g.n.length := fun g k => by
  induction k with
  | zero => intro s h; rw [stb, colL_length, h]
  | succ k ih =>
   intro s h
   rw [stb]
   split
   ·rw [colL_length, h]
   ·exact ih _ (nextL_length g _)
 rw [colJ, stabL, key _ _ _ (frstL_length _), hn]
theorem bothE_spec {a b : G} (h : bothE a b = 0) : validG a = 0 ∧ validG b = 0 := by
 unfold bothE at h
 split at h
 ·exact ⟨by assumption, h⟩
 ·exact absurd h (by assumption)
theorem iso_call (hn : K_iso_search_nodes P F) (hf : K_iso_free P F) {a b : G} (va : validG a = 0) (vb : validG b = 0) (m : Int) (h3 : 0 ≤ m) (h4 : m ≤ 2000) :
  FC P (F "iso.search.nodes") [seBx a b (colJ a b) m [], .nl 0, .clb (F "iso.free") []] (.tup []) [(0, seBx a b (colJ a b) m (isoN a b m fun _ _ => true)), (2, .clb (F "iso.free") [])] := by
 have h := hn a.n.length a b (colJ a b) m [] [] (F "iso.free") [] (fun _ _ => true) (.inl ⟨rfl, fun i n => hf i n⟩) va vb (colJ_len va vb) (by simp) h3 h4 (by simp; omega)
 exact FC.nils (a := [seBx a b (colJ a b) m [], .nl 0, .clb (F "iso.free") []]) h (by simp [NilW, ints])
theorem w_iso_All (hb : K_iso_both P F) (hsh : K_iso_shaped P F) (hof : K_iso_of P F) (hn : K_iso_search_nodes P F) (hf : K_iso_free P F) (a b : G) : W P (c_iso_All F) (Done [.t 4, .t 5] [] (.tup [.arr 2 (pts (allP a b).1), .int .i64 (allP a b).2]) []) (init [gD a, gD b]) := by
 have r1 := hb a b
 have r2 := hsh a b
 by_cases hv : bothE a b = 0
 ·obtain ⟨va, vb⟩ := bothE_spec hv
  have r3 := hof a b 2000 va vb
  have r4 := iso_call hn hf va vb 2000 (by omega) (by omega)
  have hA : allP a b = if shpB a b = true then (if 2000 < (isoN a b 2000 fun _ _ => true).length then ([], 3) else (isoN a b 2000 fun _ _ => true, 0)) else ([], 0) := if_pos hv
  have hl : ((isoN a b 2000 fun _ _ => true).length : Int) ≤ 2001 := by
   have := nN_len a b (colJ a b) 2000 (fun _ _ => true) a.n.length [] [] (by simp)
   unfold isoN
   omega
  rw [hA]
  rw [hv] at r1
  rw [show (decide (a.n.length = b.n.length) && decide (a.e.length = b.e.length)) = shpB a b from rfl] at r2
  generalize (isoN a b 2000 fun _ _ => true) = l at *
  generalize shpB a b = sh at *
  generalize colJ a b = c at *
  simp only [gD, seBx] at *
  refine W_of ?_
  have d0 : decide ((0 : Int) = 0) = true := rfl
  simp (disch := omega) only [go_sem, ↓reduceIte]
  refine call_by r1 ?_
  simp (disch := omega) only [go_sem, ↓reduceIte, d0]
  refine call_by r2 ?_
  cases sh with
  | false =>
   simp (disch := omega) only [go_sem, ↓reduceIte]
   rfl
  | true =>
   simp (disch := omega) only [go_sem, ↓reduceIte]
   refine call_fz r3 ?_
   simp (disch := omega) only [go_sem, ↓reduceIte]
   refine call_fz r4 ?_
   simp (disch := omega) only [go_sem, ↓reduceIte]
   refine bran_dec (fun d => ?_) (fun d => ?_)
   ·rw [if_pos rfl, if_pos (by omega)]
    simp (disch := omega) only [go_sem, ↓reduceIte]
    rfl
   ·rw [if_pos rfl, if_neg (by omega)]
    simp (disch := omega) only [go_sem, ↓reduceIte]
 ·rw [show allP a b = ([], bothE a b) from if_neg hv]
  generalize bothE a b = e at *
  simp only [gD] at *
  refine W_of ?_
  have d0 : decide (e = 0) = false := decide_eq_false hv
  simp (disch := omega) only [go_sem, ↓reduceIte]
  refine call_by r1 ?_
  simp (disch := omega) only [go_sem, ↓reduceIte, d0]
  rfl
theorem orb_call (hn : K_iso_search_nodes P F) (ho : K_iso_Orbits_1 P F) {g : G} (va : validG g = 0) (u v : Nat) :
  FC P (F "iso.search.nodes") [seBx g g (colJ g g) 0 [], .nl 0, .clb (F "iso.Orbits.1") [.box [.int .i64 u], .box [.int .i64 v]]] (.tup []) [(0, seBx g g (colJ g g) 0 (isoN g g 0 (alO u v))), (2, .clb (F "iso.Orbits.1") [.box [.int .i64 u], .box [.int .i64 v]])] := by
 have h := hn g.n.length g g (colJ g g) 0 [] [] (F "iso.Orbits.1") [.box [.int .i64 u], .box [.int .i64 v]] (alO u v) (.inr ⟨u, v, rfl, fun i n => ho i n u v⟩) va va (colJ_len va va) (by simp) (by omega) (by omega) (by simp)
 exact FC.nils (a := [seBx g g (colJ g g) 0 [], .nl 0, .clb (F "iso.Orbits.1") [.box [.int .i64 u], .box [.int .i64 v]]]) h (by simp [NilW, ints])
theorem orbS_len (g : G) (v : Nat) : (orbS g v).length ≤ 1 := by unfold orbS; split <;> simp
theorem flat1_len {β : Type} {f : Nat → List β} (h : ∀ v, (f v).length ≤ 1) : ∀ l : List Nat, (l.flatMap f).length ≤ l.length
 | [] => by simp
 | a :: l => by
  have := h a
  have := flat1_len h l
  simp only [List.flatMap_cons, List.length_append, List.length_cons]
  omega
theorem orbU_lt {g : G} {v u : Nat} (h : orbU g v = some u) : u < v := by simpa using List.mem_of_find?_eq_some h
theorem orbP_in (g : G) : PrIn g.n.length (orbP g) := by
 intro i hi
 have hm := gt_mem (l := orbP g) (j := (i : Int)) (by omega) (by omega)
 obtain ⟨v, hv, hx⟩ := List.mem_flatMap.1 hm
 have hv := List.mem_range.1 hv
 unfold orbS at hx
 split at hx
 ·rename_i u hu
  have := orbU_lt hu
  simp only [List.mem_singleton] at hx
  rw [hx]
  simp only
  omega
 ·simp at hx
set_option maxRecDepth 100000 in
theorem w_iso_Orbits (hv : K_graph_Valid P F) (hof : K_iso_of P F) (hn : K_iso_search_nodes P F) (ho : K_iso_Orbits_1 P F) (hg : K_partition_Generate P F) (g : G) : W P (c_iso_Orbits F) (Done [.t 2, .t 3] [] (.tup [.arr 1 (ints (orbR g).1), .int .i64 (orbR g).2]) []) (init [gD g]) := by
 have r1 := hv g
 by_cases h0 : validG g = 0
 ·by_cases h1 : 12 < g.n.length
  ·rw [show orbR g = ([], 3) by unfold orbR; rw [if_pos h0, if_pos h1]]
   rw [h0] at r1
   have d0 : decide ((0 : Int) = 0) = true := rfl
   have d1 : decide ((12 : Int) < g.n.length) = true := decide_eq_true (by omega)
   simp only [gD] at *
   refine W_of ?_
   simp (disch := omega) only [go_sem, ↓reduceIte]
   refine call_by r1 ?_
   simp (disch := omega) only [go_sem, ↓reduceIte, d0, d1]
   rfl
  ·rw [show orbR g = (genL g.n.length (orbP g), 0) by unfold orbR; rw [if_pos h0, if_neg h1]]
   rw [h0] at r1
   have hpl : (orbP g).length ≤ 12 := by
    have := flat1_len (orbS_len g) (List.range g.n.length)
    rw [List.length_range] at this
    unfold orbP
    omega
   have r5 := hg g.n.length (orbP g) (by omega) (by omega) (orbP_in g)
   have r2 := hof g g 0 h0 h0
   have r3 := fun u v => orb_call hn ho h0 u v
   have hf : ∀ u v, fndO g u v = !(isoN g g 0 (alO u v)).isEmpty := fun _ _ => rfl
   have hl : ∀ u v, ((isoN g g 0 (alO u v)).length : Int) ≤ 1 := fun u v => by
    have := nN_len g g (colJ g g) 0 (alO u v) g.n.length [] [] (by simp)
    unfold isoN
    omega
   have hu : ∀ v, orbU g v = (List.range v).find? fun u => fndO g u v := fun _ => rfl
   have hS : ∀ v, orbS g v = match orbU g v with | some u => [⟨u, v⟩] | none => [] := fun _ => rfl
   have hP : orbP g = (List.range g.n.length).flatMap (orbS g) := rfl
   have hPt : ∀ v, v < g.n.length → ((List.range g.n.length).take (v + 1)).flatMap (orbS g) = ((List.range g.n.length).take v).flatMap (orbS g) ++ orbS g v := fun v hv => by
    rw [List.take_range, List.take_range, show min (v + 1) g.n.length = v + 1 by omega, show min v g.n.length = v by omega, List.range_succ, List.flatMap_append]
    simp
   have hPn : ((List.range g.n.length).take g.n.length).flatMap (orbS g) = orbP g := by rw [List.take_of_length_le (by simp)]; rfl
   have hPl : ∀ v, v ≤ g.n.length → (((List.range g.n.length).take v).flatMap (orbS g)).length ≤ 12 := fun v hv => by
    have := flat1_len (orbS_len g) ((List.range g.n.length).take v)
    rw [List.length_take, List.length_range] at this
    omega
   generalize orbP g = PP at *
   obtain ⟨A, hA⟩ : ∃ A : Nat → List Pr, ∀ v, A v = ((List.range g.n.length).take v).flatMap (orbS g) := ⟨_, fun _ => rfl⟩
   have hA0 : A 0 = [] := by rw [hA]; rfl
   simp only [← hA] at hPt hPn hPl
   generalize isoN g g 0 = iso at *
   generalize colJ g g = c at *
   generalize orbS g = S at *
   generalize orbU g = U at *
   generalize fndO g = fnd at *
   clear hA hP hv hof hn ho hg
   simp only [gD, seBx] at *
   refine W_of ?_
   have d0 : decide ((0 : Int) = 0) = true := rfl
   have d1 : decide ((12 : Int) < g.n.length) = false := decide_eq_false (by omega)
   simp (disch := omega) only [go_sem, ↓reduceIte]
   refine call_by r1 ?_
   simp (disch := omega) only [go_sem, ↓reduceIte, d0, d1]
   refine W_loop (fun v : Nat => ⟨[(1, .pt 0 0), (5, .sl 1 0 (A v).length), (20, .int .i64 g.n.length), (21, .int .i64 v)], [(0, .box [.lst 1 (ints g.n), .lst 3 (eds g.e)]), (1, .arr 2 (prs (A v)))], 2⟩) (fun v => v ≤ g.n.length) (fun v => g.n.length - v) 0 ?_ ?_ ?_
   ·simp (disch := omega) only [go_sem, ↓reduceIte, hA0]
    rfl
   ·omega
   ·intro v hv
    have hAl := hPl v hv
    simp (disch := omega) only [go_sem, ↓reduceIte, c_iso_Orbits_b20]
    refine bran_dec (fun d => ?_) (fun d => ?_)
    ·have hAv := hPt v (by omega)
     have hSv := hS v
     have hUv := hu v
     simp (disch := omega) only [go_sem, ↓reduceIte]
     refine W_loop (fun u : Nat => ⟨[(1, .pt 0 0), (5, .sl 1 0 (A v).length), (6, .pt 2 0), (20, .int .i64 g.n.length), (21, .int .i64 v), (24, .int .i64 v), (25, .int .i64 u)], [(0, .box [.lst 1 (ints g.n), .lst 3 (eds g.e)]), (1, .arr 2 (prs (A v))), (2, .box [.int .i64 v])], 3⟩)
      (fun u => u ≤ v ∧ U v = (List.range' u (v - u)).find? fun u => fnd u v) (fun u => v - u) 0 ?_ ?_ ?_
     ·simp (disch := omega) only [go_sem, ↓reduceIte]
      rfl
     ·exact ⟨Nat.zero_le _, by rw [hUv, List.range_eq_range', Nat.sub_zero]⟩
     ·rintro u ⟨k1, k2⟩
      simp (disch := omega) only [go_sem, ↓reduceIte, c_iso_Orbits_b18]
      refine bran_dec (fun e => ?_) (fun e => ?_)
      ·have hk : List.range' u (v - u) = u :: List.range' (u + 1) (v - (u + 1)) := by
        rw [show v - u = (v - (u + 1)) + 1 by omega, List.range'_succ]
       rw [hk, List.find?_cons, hf] at k2
       have q3 := r3 u v
       have ql := hl u v
       generalize iso (alO u v) = L at *
       simp (disch := omega) only [go_sem, ↓reduceIte]
       refine call_fz r2 ?_
       simp (disch := omega) only [go_sem, ↓reduceIte]
       refine call_fz q3 ?_
       simp (disch := omega) only [go_sem, ↓reduceIte]
       refine bran_dec (fun f => ?_) (fun f => ?_)
       ·have hne : L.isEmpty = false := by
         cases L with
         | nil => simp at f
         | cons x l => rfl
        rw [hne] at k2
        simp only [Bool.not_false] at k2
        rw [k2] at hSv
        simp only at hSv
        rw [hSv] at hAv
        simp (disch := omega) only [go_sem, ↓reduceIte]
        exact ⟨v + 1, by simp [hAv], by omega, by omega⟩
       ·have hne : L.isEmpty = true := by
         cases L with
         | nil => rfl
         | cons x l => exact absurd (by simp) f
        rw [hne] at k2
        simp only [Bool.not_true] at k2
        simp (disch := omega) only [go_sem, ↓reduceIte]
        exact ⟨u + 1, by simp, ⟨by omega, k2⟩, by omega⟩
      ·obtain rfl : u = v := by omega
       rw [Nat.sub_self] at k2
       simp only [List.range'_zero, List.find?_nil] at k2
       rw [k2] at hSv
       simp only at hSv
       rw [hSv, List.append_nil] at hAv
       simp (disch := omega) only [go_sem, ↓reduceIte]
       exact ⟨u + 1, by simp [hAv], by omega, by omega⟩
    ·obtain rfl : v = g.n.length := by omega
     rw [hPn] at *
     simp (disch := omega) only [go_sem, ↓reduceIte]
     refine call_by r5 ?_
     simp (disch := omega) only [go_sem, ↓reduceIte]
 ·rw [show orbR g = ([], validG g) from if_neg h0]
  generalize validG g = e at *
  simp only [gD] at *
  refine W_of ?_
  have d0 : decide (e = 0) = false := decide_eq_false h0
  simp (disch := omega) only [go_sem, ↓reduceIte]
  refine call_by r1 ?_
  simp (disch := omega) only [go_sem, ↓reduceIte, d0]
  rfl
end
end Go.Am
