/- Chapter 08: the examples; the law Refine. -/
import Derived.Test.YtmkhlefohbfekaaSpPa
import Derived.Test.YtmkhlefohbfekaaSpPb
import Derived.Test.YtmkhlefohbfekaaSpPc
namespace Go.Am
open Go
set_option linter.unusedVariables false
set_option linter.unusedSimpArgs false
attribute [local irreducible] W
@[go_sem] def c_l08_awake_r0 : LL := [qb 0 false]
@[go_sem] def c_l08_awake_r1 : LL := [⟨some 14,.buildSl 1 8 (.int .i64 (0)) 3 [(0,.k (.int .i64 (0))),(1,.k (.int .i64 (0))),(2,.k (.int .i64 (0)))],none⟩,
 qu 15 [.int .i64 (0),.int .i64 (0),.int .i64 (0)] [(1,1,.k (.int .i64 (0))),(2,1,.k (.int .i64 (1)))],
 qu 16 [.int .i64 (0),.int .i64 (0),.int .i64 (0)] [(1,1,.k (.int .i64 (1))),(2,1,.k (.int .i64 (2)))],
 ⟨some 17,.buildSl 3 24 (.agg [.int .i64 (0),.int .i64 (0),.int .i64 (0)]) 2 [(0,.t 15),(1,.t 16)],none⟩,qu 18 [.nl 1,.nl 3] [(0,1,.t 14),(1,1,.t 17)],
 qa 1 [.nl 1,.nl 3],qs 2 1 18]
@[go_sem] def c_l08_awake_r2 : LL := [⟨some 19,.buildSl 1 8 (.int .i64 (0)) 3 [(0,.k (.int .i64 (0))),(1,.k (.int .i64 (0))),(2,.k (.int .i64 (0)))],none⟩,
 qu 20 [.int .i64 (0),.int .i64 (0),.int .i64 (0)] [(1,1,.k (.int .i64 (0))),(2,1,.k (.int .i64 (1)))],
 qu 21 [.int .i64 (0),.int .i64 (0),.int .i64 (0)] [(1,1,.k (.int .i64 (2))),(2,1,.k (.int .i64 (1)))],
 ⟨some 22,.buildSl 3 24 (.agg [.int .i64 (0),.int .i64 (0),.int .i64 (0)]) 2 [(0,.t 20),(1,.t 21)],none⟩,qu 23 [.nl 1,.nl 3] [(0,1,.t 19),(1,1,.t 22)],
 qa 2 [.nl 1,.nl 3],qs 2 2 23]
@[go_sem] def c_l08_awake_r3 : LL := [⟨some 24,.buildSl 1 8 (.int .i64 (0)) 2 [(0,.k (.int .i64 (0))),(1,.k (.int .i64 (0)))],none⟩,qu 25 [.nl 1,.nl 3] [(0,1,.t 24)],qa 3 [.nl 1,.nl 3],qs 2 3 25]
@[go_sem] def c_l08_awake_r4 (F : Fn) : LL := [qL 27 2 1,qc 28 (F "iso.Refine") [.t 27],qm 26 28,qx 29 26 0,qx 30 26 1,qm 4 29,qm 5 30]
@[go_sem] def c_l08_awake_r5 (F : Fn) : LL := [qL 32 2 1,qL 33 2 1,qc 34 (F "iso.All") [.t 32,.t 33],qm 31 34,qx 35 31 0,qx 36 31 1,qm 6 35,qm 7 36]
@[go_sem] def c_l08_awake_r6 (F : Fn) : LL := [qL 38 2 3,qc 39 (F "iso.Orbits") [.t 38],qm 37 39,qx 40 37 0,qx 41 37 1,qm 8 40,qm 9 41]
@[go_sem] def c_l08_awake_r7 (F : Fn) : LL := [qL 43 2 3,qL 44 2 3,qc 45 (F "iso.All") [.t 43,.t 44],qm 42 45,qx 46 42 0,qx 47 42 1,qm 10 46,qm 11 47]
@[go_sem] def c_l08_awake_r8 (F : Fn) : LL := [qL 49 2 1,qL 50 2 2,qc 51 (F "iso.Reason") [.t 49,.t 50],qm 48 51,qx 52 48 0,qx 53 48 1,qa 12 [.int .i64 (0),.nl 1,.int .i64 (0),.int .i64 (0)],qs 4 12 52,qm 13 53]
@[go_sem] def c_l08_awake_r9 (F : Fn) : LL := [qm 54 5,qk .eql 55 54 0,qm 56 55,qg 56 true (qm 57 4),
 ⟨some 58,.buildSl 1 8 (.int .i64 (0)) 3 [(0,.k (.int .i64 (0))),(1,.k (.int .i64 (1))),(2,.k (.int .i64 (2)))],some (56,true)⟩,qg 56 true (qc 59 (F "slices.Equal.I") [.t 57,.t 58]),
 qP 60 56 59,qm 61 60,qg 61 true (qm 62 7),qg 61 true (qk .eql 63 62 0),qP 64 61 63,qm 65 64,qg 65 true (qm 66 6),qg 65 true (qz 67 66),qg 65 true (qk .eql 68 67 1),qP 69 65 68,
 qm 70 69,qg 70 true (qm 71 9),qg 70 true (qk .eql 72 71 0),qP 73 70 72,qm 74 73,qg 74 true (qm 75 8),
 ⟨some 76,.buildSl 1 8 (.int .i64 (0)) 2 [(0,.k (.int .i64 (0))),(1,.k (.int .i64 (0)))],some (74,true)⟩,qg 74 true (qc 77 (F "slices.Equal.I") [.t 75,.t 76]),qP 78 74 77,qm 79 78,
 qg 79 true (qm 80 11),qg 79 true (qk .eql 81 80 0),qP 82 79 81,qm 83 82,qg 83 true (qm 84 10),qg 83 true (qz 85 84),qg 83 true (qk .eql 86 85 2),qP 87 83 86,qm 88 87,
 qg 88 true (qm 89 13),qg 88 true (qk .eql 90 89 0),qP 91 88 90,qm 92 91,qg 92 true (qL 93 4 12),
 ⟨some 94,.buildSl 1 8 (.int .i64 (0)) 4 [(0,.k (.int .i64 (0))),(1,.k (.int .i64 (0))),(2,.k (.int .i64 (0))),(3,.k (.int .i64 (0)))],some (92,true)⟩,
 qg 92 true (qu 95 [.int .i64 (0),.nl 1,.int .i64 (0),.int .i64 (0)] [(0,1,.k (.int .i64 (1))),(1,1,.t 94),(2,1,.k (.int .i64 (1))),(3,1,.k (.int .i64 (2)))]),
 qg 92 true (qc 96 (F "r08.SameDiffer") [.t 93,.t 95]),qP 97 92 96,qm 0 97]
@[go_sem] def c_l08_awake (F : Fn) : LC := (.seq (.reg c_l08_awake_r0 []) (.seq (.reg c_l08_awake_r1 [1]) (.seq (.reg c_l08_awake_r2 [1,2]) (.seq (.reg c_l08_awake_r3 [1,2,3]) (.seq (.reg (c_l08_awake_r4 F) [1,2,3,4,5]) (.seq (.reg (c_l08_awake_r5 F) [1,2,3,4,5,6,7]) (.seq (.reg (c_l08_awake_r6 F) [1,2,3,4,5,6,7,8,9]) (.seq (.reg (c_l08_awake_r7 F) [1,2,4,5,6,7,8,9,10,11]) (.seq (.reg (c_l08_awake_r8 F) [4,5,6,7,8,9,10,11,12,13]) (.seq (.reg (c_l08_awake_r9 F) [0]) .ret))))))))))
def h_l08_awake : Hints := hOf [] (c_l08_awake fun _ => 0)
def gP : G := ⟨[0, 0, 0], [⟨0, 0, 1⟩, ⟨0, 1, 2⟩]⟩
def gV : G := ⟨[0, 0, 0], [⟨0, 0, 1⟩, ⟨0, 2, 1⟩]⟩
def gT : G := ⟨[0, 0], []⟩
section
variable (P : Program) (F : String → Nat)
def K_l08_awake : Prop := FC P (F "l08.awake") [] (.bool true) []
end
section
variable {P : Program} {F : String → Nat} {α : Type}
theorem ex_ref : refD gP = .tup [.lst 1 [.int .i64 0, .int .i64 1, .int .i64 2], .int .i64 0] := by
 rw [show refD gP = .tup [.lst 1 (ints (stabL gP)), .int .i64 0] from if_pos (by decide +kernel), show stabL gP = [0, 1, 2] by decide +kernel]
 rfl
theorem ex_all : allP gP gP = ([⟨[0, 1, 2], [0, 1]⟩], 0) := by decide +kernel
theorem ex_two : allP gT gT = ([⟨[0, 1], []⟩, ⟨[1, 0], []⟩], 0) := by decide +kernel
theorem ex_orb : orbR gT = ([0, 0], 0) := by decide +kernel
theorem ex_rsn : rsnD gP gV = .tup [.agg [.int .i64 1, .lst 1 [.int .i64 0, .int .i64 0, .int .i64 0, .int .i64 0], .int .i64 1, .int .i64 2], .int .i64 0] := by
 have h : rsnR gP gV = (⟨1, [0, 0, 0, 0], 1, 2⟩, true) := by decide +kernel
 have hb : bothE gP gV = 0 := by decide +kernel
 rw [show rsnD gP gV = _ from if_pos hb, h]
 rfl
set_option maxRecDepth 100000 in
theorem w_l08_awake (h1 : K_iso_Refine P F) (h2 : K_iso_All P F) (h3 : K_iso_Orbits P F) (h4 : K_iso_Reason P F) (h5 : K_slices_Equal_I P F) (h6 : K_r08_SameDiffer P F) : W P (c_l08_awake F) (Done [.t 0] [] (.bool true) []) (init []) := by
 refine W_of ?_
 have r1 := h1 gP
 have r2 := h2 gP gP
 have r3 := h3 gT
 have r4 := h2 gT gT
 have r5 := h4 gP gV
 rw [ex_ref] at r1
 have q2 : (allP gP gP).2 = 0 ∧ (allP gP gP).1.length = 1 := by rw [ex_all]; exact ⟨rfl, rfl⟩
 have q4 : (allP gT gT).2 = 0 ∧ (allP gT gT).1.length = 2 := by rw [ex_two]; exact ⟨rfl, rfl⟩
 rw [q2.1] at r2
 rw [q4.1] at r4
 replace q2 := q2.2
 replace q4 := q4.2
 generalize (allP gP gP).1 = l2 at *
 generalize (allP gT gT).1 = l4 at *
 rw [ex_orb] at r3
 rw [ex_rsn] at r5
 have r6 := h5 [0, 1, 2] [0, 1, 2] (by decide)
 rw [decide_eq_true rfl] at r6
 have r7 := h5 [0, 0] [0, 0] (by decide)
 rw [decide_eq_true rfl] at r7
 have r8 := h6 ⟨1, [0, 0, 0, 0], 1, 2⟩ ⟨1, [0, 0, 0, 0], 1, 2⟩ (by decide)
 rw [decide_eq_true rfl] at r8
 simp only [gP, gV, gT, gD, mD, dfD, dfC] at *
 have d2 : decide ((l2.length : Int) = 1) = true := decide_eq_true (by omega)
 have d4 : decide ((l4.length : Int) = 2) = true := decide_eq_true (by omega)
 cases f2 : (pts l2).all D.flatE <;> cases f4 : (pts l4).all D.flatE
 all_goals
  simp (disch := omega) only [go_sem, ↓reduceIte]
  refine call_by r1 ?_
  simp (disch := omega) only [go_sem, ↓reduceIte]
  refine call_by r2 ?_
  simp (disch := omega) only [go_sem, ↓reduceIte, f2, f4, d2, d4]
  refine call_by r3 ?_
  simp (disch := omega) only [go_sem, ↓reduceIte, f2, f4, d2, d4]
  refine call_by r4 ?_
  simp (disch := omega) only [go_sem, ↓reduceIte, f2, f4, d2, d4]
  refine call_by r5 ?_
  simp (disch := omega) only [go_sem, ↓reduceIte, f2, f4, d2, d4]
  refine call_by r6 ?_
  simp (disch := omega) only [go_sem, ↓reduceIte, f2, f4, d2, d4]
  refine call_by r7 ?_
  simp (disch := omega) only [go_sem, ↓reduceIte, f2, f4, d2, d4]
  refine call_by r8 ?_
  simp (disch := omega) only [go_sem, ↓reduceIte, f2, f4, d2, d4]
end
def numP (t f o : Int) (x : E) : Bool := decide (x.t = t) && (decide (x.f = f) && decide (x.o = o))
def numL (g : G) (t f o : Int) : Nat := (g.e.filter (numP t f o)).length
def kndL (a b : G) (k : Nat) : Int := if k < a.e.length then (gt a.e (k : Int)).t else (gt b.e ((k - a.e.length : Nat) : Int)).t
def pairR (a b : G) (i k n m t : Int) : Bool := decide (numL a t k i = numL b t m n) && decide (numL a t i k = numL b t n m)
def fitsR (a b : G) (ns : List Int) (n : Int) : Bool := decide (gt a.n ns.length = gt b.n n) && (!decide (n ∈ ns) && (List.range (ns.length + 1)).all fun k => (List.range (a.e.length + b.e.length)).all fun t => pairR a b ns.length k n (gt (ns ++ [n]) (k : Int)) (kndL a b t))
section
variable (P : Program) (F : String → Nat)
end
section
variable {P : Program} {F : String → Nat} {α : Type}
end
section
def fullN (N : Nat) (ok : List Int → Int → Bool) : Nat → List Int → List (List Int)
 | 0, ns => [ns]
 | k + 1, ns => (List.range N).flatMap fun (n : Nat) => if ok ns (n : Int) then fullN N ok k (ns ++ [(n : Int)]) else []
def imE (a b : G) (ns : List Int) : List (List Int) := fullN b.e.length (fun es n => wnt a b ns es n.toNat) a.e.length []
def imM (a b : G) (ns : List Int) : List Mo := (imE a b ns).map fun es => ⟨ns, es⟩
end
section
theorem gt_app_l {α : Type} [Inhabited α] {x y : List α} {i : Int} (h0 : 0 ≤ i) (h : i < x.length) : gt (x ++ y) i = gt x i := by
 obtain ⟨j, rfl⟩ := Int.eq_ofNat_of_zero_le h0
 rw [gt_nat (by simp; omega), gt_nat (by omega), List.getElem_append_left (by omega)]
theorem flatMap_congr' {α β : Type} {f g : α → List β} : ∀ {l : List α}, (∀ x ∈ l, f x = g x) → l.flatMap f = l.flatMap g
 | [], _ => rfl
 | x :: l, h => by rw [List.flatMap_cons, List.flatMap_cons, h x (by simp), flatMap_congr' fun y hy => h y (by simp [hy])]
theorem trE_sh {c d : List Int} {i j : Nat} {x y : E} (ht : x.t = y.t) (hf : x.f = i ↔ y.f = j) (ho : x.o = i ↔ y.o = j) (h1 : gt c x.o = gt d y.o) (h2 : gt c x.f = gt d y.f) : trE c i x = trE d j y := by
 unfold trE
 rw [ht, h1, h2]
 by_cases e1 : y.f = j <;> by_cases e2 : y.o = j <;> simp [hf, ho, e1, e2]
theorem perm_sub {α : Type} [DecidableEq α] : ∀ {A B : List α}, A.Nodup → (∀ x ∈ A, x ∈ B) → A.length = B.length → A.Perm B
 | [], B, _, _, h => by rw [List.eq_nil_of_length_eq_zero (l := B) (by simpa using h.symm)]
 | x :: A, B, hn, hs, h => by
  rw [List.nodup_cons] at hn
  have hx := hs x (by simp)
  have hl := List.length_erase_of_mem hx
  have := perm_sub (A := A) (B := B.erase x) hn.2 (fun y hy => (List.mem_erase_of_ne (fun e => hn.1 (by rw [← e]; exact hy))).2 (hs y (by simp [hy]))) (by simp at h; omega)
  exact (this.cons x).trans (List.perm_cons_erase hx).symm
end
section
theorem gt_take' {l : List Int} {i k : Nat} (h : k < i) (hl : i ≤ l.length) : gt (l.take i) (k : Int) = gt l (k : Int) := by
 rw [gt_nat (by simp; omega), gt_nat (by omega), List.getElem_take]
theorem mem_fullN {N : Nat} {ok : List Int → Int → Bool} : ∀ {k : Nat} {ns l : List Int}, l ∈ fullN N ok k ns ↔ l.length = ns.length + k ∧ l.take ns.length = ns ∧ ∀ i : Nat, ns.length ≤ i → i < l.length → (0 ≤ gt l (i : Int) ∧ gt l (i : Int) < N) ∧ ok (l.take i) (gt l (i : Int)) = true
 | 0, ns, l => by
  simp only [fullN, List.mem_singleton, Nat.add_zero]
  constructor
  ·rintro rfl
   exact ⟨rfl, List.take_length, fun i h1 h2 => by omega⟩
  ·rintro ⟨h1, h2, _⟩
   rw [← h1, List.take_length] at h2
   exact h2
 | k + 1, ns, l => by
  simp only [fullN, List.mem_flatMap, List.mem_range]
  constructor
  ·rintro ⟨n, hn, h⟩
   split at h
   ·rename_i hok
    obtain ⟨h1, h2, h3⟩ := mem_fullN.1 h
    simp only [List.length_append, List.length_singleton] at h1 h2 h3
    have hg : gt l (ns.length : Int) = n ∧ l.take ns.length = ns := by
     have e := take_gt (l := l) (i := ns.length) (by omega)
     rw [h2] at e
     obtain ⟨e1, e2⟩ := List.append_inj' e rfl
     simp only [List.cons.injEq, and_true] at e2
     exact ⟨e2.symm, e1.symm⟩
    refine ⟨by omega, hg.2, fun i h4 h5 => ?_⟩
    rcases Nat.lt_or_ge ns.length i with h6 | h6
    ·exact h3 i (by omega) h5
    ·obtain rfl : i = ns.length := by omega
     rw [hg.1, hg.2]
     exact ⟨⟨by omega, by omega⟩, hok⟩
   ·cases h
  ·rintro ⟨h1, h2, h3⟩
   obtain ⟨⟨h4, h5⟩, h6⟩ := h3 ns.length (Nat.le_refl _) (by omega)
   rw [h2] at h6
   obtain ⟨n, hn⟩ := Int.eq_ofNat_of_zero_le h4
   rw [hn] at h5 h6
   refine ⟨n, by omega, ?_⟩
   rw [if_pos h6]
   refine mem_fullN.2 ⟨by simp; omega, ?_, fun i h7 h8 => h3 i (by simp at h7; omega) h8⟩
   rw [List.length_append, List.length_singleton, take_gt (by omega), h2, hn]
structure NIso (a b : G) (l : List Int) : Prop where
 len : l.length = a.n.length
 rng : ∀ i : Nat, i < a.n.length → 0 ≤ gt l (i : Int) ∧ gt l (i : Int) < b.n.length
 inj : ∀ i k : Nat, i < a.n.length → k < a.n.length → gt l (i : Int) = gt l (k : Int) → i = k
 ty : ∀ i : Nat, i < a.n.length → gt a.n (i : Int) = gt b.n (gt l (i : Int))
 num : ∀ (t : Int) (i k : Nat), i < a.n.length → k < a.n.length → numL a t i k = numL b t (gt l (i : Int)) (gt l (k : Int))
theorem not_mem_take {l : List Int} {i : Nat} (hi : i < l.length) : gt l (i : Int) ∉ l.take i ↔ ∀ k : Nat, k < i → gt l (k : Int) ≠ gt l (i : Int) := by
 constructor
 ·intro h k hk e
  apply h
  rw [← e, ← gt_take' hk (by omega)]
  exact gt_mem (by omega) (by simp; omega)
 ·intro h hm
  obtain ⟨k, hk, e⟩ := List.mem_iff_getElem.1 hm
  simp only [List.length_take] at hk
  refine h k (by omega) ?_
  rw [← gt_take' (i := i) (by omega) (by omega), gt_nat (by simp; omega)]
  exact e
theorem numL_zero {g : G} {t f o : Int} (h : ∀ x ∈ g.e, x.t ≠ t) : numL g t f o = 0 := by
 unfold numL
 rw [List.length_eq_zero_iff, List.filter_eq_nil_iff]
 intro x hx
 simp [numP, h x hx]
theorem knd_all {a b : G} {i k p q : Int} (h : ∀ j : Nat, j < a.e.length + b.e.length → numL a (kndL a b j) i k = numL b (kndL a b j) p q) (t : Int) : numL a t i k = numL b t p q := by
 by_cases h1 : ∃ x ∈ a.e, x.t = t
 ·obtain ⟨x, hx, rfl⟩ := h1
  obtain ⟨j, hj, rfl⟩ := List.mem_iff_getElem.1 hx
  have := h j (by omega)
  rw [kndL, if_pos hj, gt_nat hj] at this
  exact this
 ·by_cases h2 : ∃ x ∈ b.e, x.t = t
  ·obtain ⟨x, hx, rfl⟩ := h2
   obtain ⟨j, hj, rfl⟩ := List.mem_iff_getElem.1 hx
   have := h (a.e.length + j) (by omega)
   rw [kndL, if_neg (by omega), show a.e.length + j - a.e.length = j by omega, gt_nat hj] at this
   exact this
  ·rw [numL_zero (fun x hx e => h1 ⟨x, hx, e⟩), numL_zero (fun x hx e => h2 ⟨x, hx, e⟩)]
theorem mem_fullR {a b : G} {l : List Int} : l ∈ fullN b.n.length (fitsR a b) a.n.length [] ↔ NIso a b l := by
 rw [mem_fullN]
 simp only [List.length_nil, Nat.zero_add, List.take_zero, true_and, Nat.zero_le, forall_const]
 constructor
 ·rintro ⟨h1, h2⟩
  have h3 : ∀ i : Nat, i < a.n.length → gt a.n (i : Int) = gt b.n (gt l (i : Int)) ∧ (∀ k : Nat, k < i → gt l (k : Int) ≠ gt l (i : Int)) ∧ ∀ k : Nat, k ≤ i → ∀ t, numL a t k i = numL b t (gt l (k : Int)) (gt l (i : Int)) ∧ numL a t i k = numL b t (gt l (i : Int)) (gt l (k : Int)) := fun i hi => by
   have h := (h2 i (by omega)).2
   simp only [fitsR, Bool.and_eq_true, decide_eq_true_eq, Bool.not_eq_true', decide_eq_false_iff_not, List.all_eq_true, List.mem_range, List.length_take, show min i l.length = i by omega, pairR] at h
   obtain ⟨e1, e2, e3⟩ := h
   refine ⟨e1, (not_mem_take (by omega)).1 e2, fun k hk t => ?_⟩
   have e4 : gt (l.take i ++ [gt l (i : Int)]) (k : Int) = gt l (k : Int) := by
    rw [← take_gt (by omega)]
    exact gt_take' (by omega) (by omega)
   have e5 := e3 k (by omega)
   rw [e4] at e5
   exact ⟨knd_all (fun j hj => (e5 j hj).1) t, knd_all (fun j hj => (e5 j hj).2) t⟩
  refine ⟨h1, fun i hi => (h2 i (by omega)).1, fun i k hi hk e => ?_, fun i hi => (h3 i hi).1, fun t i k hi hk => ?_⟩
  ·rcases Nat.lt_trichotomy i k with h | h | h
   ·exact absurd e ((h3 k hk).2.1 i h)
   ·exact h
   ·exact absurd e.symm ((h3 i hi).2.1 k h)
  ·rcases Nat.le_total i k with h | h
   ·exact ((h3 k hk).2.2 i h t).1
   ·exact ((h3 i hi).2.2 k h t).2
 ·intro h
  refine ⟨h.len, fun i hi => ?_⟩
  have hl := h.len
  refine ⟨h.rng i (by omega), ?_⟩
  simp only [fitsR, Bool.and_eq_true, decide_eq_true_eq, Bool.not_eq_true', decide_eq_false_iff_not, List.all_eq_true, List.mem_range, List.length_take, show min i l.length = i by omega, pairR]
  refine ⟨h.ty i (by omega), (not_mem_take hi).2 fun k hk e => ?_, fun k hk j _ => ?_⟩
  ·have := h.inj k i (by omega) (by omega) e
   omega
  ·have e4 : gt (l.take i ++ [gt l (i : Int)]) (k : Int) = gt l (k : Int) := by
    rw [← take_gt (by omega)]
    exact gt_take' (by omega) (by omega)
   rw [e4]
   exact ⟨h.num _ k i (by omega) (by omega), h.num _ i k (by omega) (by omega)⟩
end
section
def mapE (l : List Int) (x : E) : E := ⟨x.t, gt l x.f, gt l x.o⟩
theorem NIso.nd {a b : G} {l : List Int} (h : NIso a b l) : l.Nodup := by
 rw [List.nodup_iff_pairwise_ne, List.pairwise_iff_getElem]
 intro i j hi hj hij e
 have hl := h.len
 have := h.inj i j (by omega) (by omega) (by rw [gt_nat hi, gt_nat hj]; exact e)
 omega
theorem NIso.surj {a b : G} {l : List Int} (h : NIso a b l) (hn : a.n.length = b.n.length) {f : Int} (h0 : 0 ≤ f) (h1 : f < b.n.length) : ∃ i : Nat, i < a.n.length ∧ gt l (i : Int) = f := by
 have hl := h.len
 have hp := perm_sub (A := l) (B := (List.range b.n.length).map fun i : Nat => (i : Int)) h.nd (fun x hx => by
  obtain ⟨i, hi, rfl⟩ := List.mem_iff_getElem.1 hx
  have := h.rng i (by omega)
  rw [gt_nat hi] at this
  obtain ⟨n, hn⟩ := Int.eq_ofNat_of_zero_le this.1
  exact List.mem_map.2 ⟨n, List.mem_range.2 (by omega), hn.symm⟩) (by simp; omega)
 have hf : f ∈ l := hp.mem_iff.2 (by
  obtain ⟨n, rfl⟩ := Int.eq_ofNat_of_zero_le h0
  exact List.mem_map.2 ⟨n, List.mem_range.2 (by omega), rfl⟩)
 obtain ⟨i, hi, rfl⟩ := List.mem_iff_getElem.1 hf
 exact ⟨i, by omega, gt_nat hi⟩
theorem NIso.inj' {a b : G} {l : List Int} (h : NIso a b l) {i k : Int} (h1 : 0 ≤ i ∧ i < a.n.length) (h2 : 0 ≤ k ∧ k < a.n.length) (e : gt l i = gt l k) : i = k := by
 obtain ⟨n, rfl⟩ := Int.eq_ofNat_of_zero_le h1.1
 obtain ⟨m, rfl⟩ := Int.eq_ofNat_of_zero_le h2.1
 have := h.inj n m (by omega) (by omega) e
 omega
theorem NIso.rng' {a b : G} {l : List Int} (h : NIso a b l) {i : Int} (h1 : 0 ≤ i ∧ i < a.n.length) : 0 ≤ gt l i ∧ gt l i < b.n.length := by
 obtain ⟨n, rfl⟩ := Int.eq_ofNat_of_zero_le h1.1
 exact h.rng n (by omega)
theorem numP_iff {t f o : Int} {x : E} : numP t f o x = true ↔ x = ⟨t, f, o⟩ := by
 obtain ⟨a, b, c⟩ := x
 simp [numP]
theorem numL_count (g : G) (t f o : Int) : numL g t f o = g.e.count ⟨t, f, o⟩ := by
 rw [numL, List.count_eq_countP, List.countP_eq_length_filter]
 congr 1
 refine List.filter_congr fun x _ => ?_
 rw [Bool.eq_iff_iff, numP_iff, beq_iff_eq]
theorem NIso.edges {a b : G} {l : List Int} (h : NIso a b l) (va : InG a) (vb : InG b) (hn : a.n.length = b.n.length) : (a.e.map (mapE l)).Perm b.e := by
 rw [List.perm_iff_count]
 rintro ⟨t, f, o⟩
 by_cases hf : (0 ≤ f ∧ f < b.n.length) ∧ (0 ≤ o ∧ o < b.n.length)
 ·obtain ⟨i, hi, rfl⟩ := h.surj hn hf.1.1 hf.1.2
  obtain ⟨k, hk, rfl⟩ := h.surj hn hf.2.1 hf.2.2
  rw [← numL_count, ← h.num t i k hi hk, numL_count, List.count_eq_countP, List.count_eq_countP, List.countP_map]
  refine List.countP_congr fun x hx => ?_
  have hv := va.2.2 x hx
  obtain ⟨xt, xf, xo⟩ := x
  simp only [Function.comp_apply, mapE, beq_iff_eq, E.mk.injEq] at hv ⊢
  constructor
  ·rintro ⟨h1, h2, h3⟩
   exact ⟨h1, h.inj' ⟨hv.1, hv.2.1⟩ ⟨by omega, by omega⟩ h2, h.inj' ⟨hv.2.2.1, hv.2.2.2⟩ ⟨by omega, by omega⟩ h3⟩
  ·rintro ⟨rfl, rfl, rfl⟩
   exact ⟨rfl, rfl, rfl⟩
 ·rw [List.count_eq_zero.2, List.count_eq_zero.2]
  ·intro hm
   have := vb.2.2 _ hm
   simp only at this
   omega
  ·intro hm
   obtain ⟨x, hx, e⟩ := List.mem_map.1 hm
   have hv := va.2.2 x hx
   have h1 := h.rng' (i := x.f) ⟨by omega, by omega⟩
   have h2 := h.rng' (i := x.o) ⟨by omega, by omega⟩
   simp only [mapE, E.mk.injEq] at e
   omega
theorem wnt_iff {a b : G} {ns es : List Int} {n : Nat} : wnt a b ns es n = true ↔ gt b.e (n : Int) = mapE ns (gt a.e (es.length : Int)) ∧ (n : Int) ∉ es := by
 simp only [wnt, Bool.and_eq_true, decide_eq_true_eq, Bool.not_eq_true', decide_eq_false_iff_not]
 obtain ⟨xt, xf, xo⟩ := gt a.e (es.length : Int)
 obtain ⟨yt, yf, yo⟩ := gt b.e (n : Int)
 simp only [mapE, E.mk.injEq]
theorem ext_edge {a b : G} {ns es : List Int} (hp : (a.e.map (mapE ns)).Perm b.e) (hk : es.length < a.e.length) (hd : es.Nodup) (hr : ∀ x ∈ es, 0 ≤ x ∧ x < b.e.length)
  (hw : ∀ i : Nat, i < es.length → gt b.e (gt es (i : Int)) = mapE ns (gt a.e (i : Int))) : ∃ n : Nat, n < b.e.length ∧ wnt a b ns es n = true := by
 refine Classical.byContradiction fun hno => ?_
 obtain ⟨w, hwd⟩ : ∃ w, w = mapE ns (gt a.e (es.length : Int)) := ⟨_, rfl⟩
 let I : List Int := ((List.range b.e.length).filter fun n : Nat => gt b.e (n : Int) == w).map fun n : Nat => (n : Int)
 have hI : I.Nodup := by
  rw [List.nodup_iff_pairwise_ne, List.pairwise_map]
  have := (List.nodup_range (n := b.e.length)).filter fun n : Nat => gt b.e (n : Int) == w
  exact this.imp fun h e => h (by omega)
 have hIl : I.length = b.e.count w := by
  have e : (List.range b.e.length).map (fun n : Nat => gt b.e (n : Int)) = b.e := by
   refine List.ext_getElem (by simp) fun i h1 h2 => ?_
   simp only [List.getElem_map, List.getElem_range]
   exact gt_nat h2
  conv => rhs; rw [← e]
  rw [List.length_map, List.count_eq_countP, List.countP_map, List.countP_eq_length_filter]
  rfl
 have hsub : I ⊆ es.filter fun x => gt b.e x == w := fun x hx => by
  obtain ⟨n, hn, rfl⟩ := List.mem_map.1 hx
  obtain ⟨h1, h2⟩ := List.mem_filter.1 hn
  have h1 := List.mem_range.1 h1
  refine List.mem_filter.2 ⟨?_, h2⟩
  refine Classical.byContradiction fun hm => hno ⟨n, h1, wnt_iff.2 ⟨?_, hm⟩⟩
  rw [← hwd]
  exact beq_iff_eq.1 h2
 have hle := List.Nodup.length_le_of_subset hI hsub
 have hes : (es.filter fun x => gt b.e x == w).length = ((a.e.take es.length).map (mapE ns)).count w := by
  have e : es.map (fun x => gt b.e x) = (a.e.take es.length).map (mapE ns) := by
   refine List.ext_getElem (by simp; omega) fun i h1 h2 => ?_
   simp only [List.length_map] at h1
   simp only [List.getElem_map, List.getElem_take]
   have := hw i h1
   rw [gt_nat h1, gt_nat (by omega)] at this
   exact this
  rw [← e, List.count_eq_countP, List.countP_map, List.countP_eq_length_filter]
  rfl
 have hc := hp.count_eq w
 have hsp : a.e.map (mapE ns) = (a.e.take es.length).map (mapE ns) ++ (w :: (a.e.drop (es.length + 1)).map (mapE ns)) := by
  have := (List.take_append_drop es.length a.e).symm
  rw [drop_gt hk] at this
  conv => lhs; rw [this]
  rw [List.map_append, List.map_cons, hwd]
 rw [hsp, List.count_append, List.count_cons_self] at hc
 omega
theorem fullE_ne {a b : G} {ns : List Int} (hp : (a.e.map (mapE ns)).Perm b.e) : ∀ (k : Nat) (es : List Int), es.length + k = a.e.length → es.Nodup → (∀ x ∈ es, 0 ≤ x ∧ x < b.e.length) →
  (∀ i : Nat, i < es.length → gt b.e (gt es (i : Int)) = mapE ns (gt a.e (i : Int))) → fullN b.e.length (fun es n => wnt a b ns es n.toNat) k es ≠ []
 | 0, es, _, _, _, _ => by simp [fullN]
 | k + 1, es, h, hd, hr, hw => by
  obtain ⟨n, hn, hwn⟩ := ext_edge hp (by omega) hd hr hw
  obtain ⟨h1, h2⟩ := wnt_iff.1 hwn
  have := fullE_ne hp k (es ++ [(n : Int)]) (by simp; omega) (by
   rw [List.nodup_append]
   refine ⟨hd, by simp, fun x hx y hy e => ?_⟩
   simp only [List.mem_singleton] at hy
   subst e hy
   exact h2 hx) (fun x hx => by
   rcases List.mem_append.1 hx with hx | hx
   ·exact hr x hx
   ·simp only [List.mem_singleton] at hx; omega) (fun i hi => by
   rw [List.length_append, List.length_singleton] at hi
   rcases Nat.lt_or_ge i es.length with h3 | h3
   ·rw [gt_app_l (x := es) (by omega) (by omega)]
    exact hw i h3
   ·obtain rfl : i = es.length := by omega
    have : gt (es ++ [(n : Int)]) (es.length : Int) = n := by rw [gt_nat (by simp)]; simp
    rw [this, h1])
  obtain ⟨x, hx⟩ := List.exists_mem_of_ne_nil _ this
  refine List.ne_nil_of_mem (a := x) ?_
  rw [fullN, List.mem_flatMap]
  refine ⟨n, List.mem_range.2 hn, ?_⟩
  rw [if_pos (by simpa using hwn)]
  exact hx
theorem NIso.imE_ne {a b : G} {l : List Int} (h : NIso a b l) (va : InG a) (vb : InG b) (hn : a.n.length = b.n.length) : imE a b l ≠ [] :=
 fullE_ne (h.edges va vb hn) _ _ (by simp) List.nodup_nil (by simp) (fun i hi => by simp at hi)
theorem NIso.sgn {a b : G} {l ca cb : List Int} (h : NIso a b l) (va : InG a) (vb : InG b) (hn : a.n.length = b.n.length) (hc : ∀ i : Nat, i < a.n.length → gt ca (i : Int) = gt cb (gt l (i : Int))) {i j : Nat} (hi : i < a.n.length) (hj : gt l (i : Int) = j) :
  sgnO a.e ca i = sgnO b.e cb j := by
 have hc' : ∀ i : Int, 0 ≤ i → i < a.n.length → gt ca i = gt cb (gt l i) := fun i h0 h1 => by
  obtain ⟨n, rfl⟩ := Int.eq_ofNat_of_zero_le h0
  exact hc n (by omega)
 unfold sgnO
 rw [hc i hi, hj]
 congr 2
 refine sorted_one scmp_cmp (sortL_sorted _) (sortL_sorted _) ((sortL_perm _).trans (List.Perm.trans ?_ (sortL_perm _).symm))
 have hp := (h.edges va vb hn).flatMap_right (trE cb j)
 have e : trL a.e ca i = (a.e.map (mapE l)).flatMap (trE cb j) := by
  rw [List.flatMap_map, trL]
  refine flatMap_congr' fun x hx => ?_
  have hv := va.2.2 x hx
  refine trE_sh rfl ?_ ?_ (hc' _ (by omega) (by omega)) (hc' _ (by omega) (by omega))
  ·simp only [mapE]
   rw [← hj]
   exact ⟨fun e => by rw [e], fun e => h.inj' ⟨by omega, by omega⟩ ⟨by omega, by omega⟩ e⟩
  ·simp only [mapE]
   rw [← hj]
   exact ⟨fun e => by rw [e], fun e => h.inj' ⟨by omega, by omega⟩ ⟨by omega, by omega⟩ e⟩
 rw [e]
 exact hp
end
section
def Car (a : G) (l : List Int) (x y : List (List Int)) : Prop := ∀ i : Nat, i < a.n.length → gt x (i : Int) = gt y (gt l (i : Int))
theorem gt_map_c {x : List (List Int)} {f : List Int → Int} {i : Int} (h0 : 0 ≤ i) (h : i < x.length) : gt (x.map f) i = f (gt x i) := by
 obtain ⟨n, rfl⟩ := Int.eq_ofNat_of_zero_le h0
 rw [gt_nat (by simp; omega), gt_nat (by omega)]
 simp
theorem Car.next {a b : G} {l : List Int} {x y : List (List Int)} (h : Car a l x y) (hl : NIso a b l) (va : InG a) (vb : InG b) (hn : a.n.length = b.n.length) (hx : x.length = a.n.length) (hy : y.length = b.n.length) (S : List (List Int)) :
  Car a l (nextL a (colA x S)) (nextL b (colA y S)) := fun i hi => by
 have hr := hl.rng i hi
 obtain ⟨j, hj⟩ := Int.eq_ofNat_of_zero_le hr.1
 rw [nextL_gt hi, hj, nextL_gt (by omega)]
 refine hl.sgn va vb hn (fun k hk => ?_) hi hj
 have hrk := hl.rng k hk
 rw [colA, colA, gt_map_c (by omega) (by omega), gt_map_c hrk.1 (by omega), h k hk]
theorem Car.first {a b : G} {l : List Int} (hl : NIso a b l) : Car a l (frstL a) (frstL b) := fun i hi => by
 have hr := hl.rng i hi
 have ht := hl.ty i hi
 obtain ⟨j, hj⟩ := Int.eq_ofNat_of_zero_le hr.1
 rw [hj] at ht hr ⊢
 rw [gt_nat (by rw [frstL_length]; omega), gt_nat (by rw [frstL_length]; omega)]
 simp only [frstL, List.getElem_map]
 rw [gt_nat hi, gt_nat (by omega)] at ht
 rw [ht]
theorem Car.mem {a b : G} {l : List Int} {x y : List (List Int)} (h : Car a l x y) (hl : NIso a b l) (hn : a.n.length = b.n.length) (hx : x.length = a.n.length) (hy : y.length = b.n.length) (z : List Int) : z ∈ x ↔ z ∈ y := by
 constructor
 ·intro hz
  obtain ⟨i, hi, rfl⟩ := List.mem_iff_getElem.1 hz
  have := h i (by omega)
  rw [gt_nat hi] at this
  rw [this]
  have hr := hl.rng i (by omega)
  exact gt_mem hr.1 (by omega)
 ·intro hz
  obtain ⟨j, hj, rfl⟩ := List.mem_iff_getElem.1 hz
  obtain ⟨i, hi, e⟩ := hl.surj hn (f := (j : Int)) (by omega) (by omega)
  have := h i hi
  rw [e, gt_nat hj] at this
  rw [← this]
  exact gt_mem (by omega) (by omega)
def isos (a b : G) : List Mo := (fullN b.n.length (fitsR a b) a.n.length []).flatMap (imM a b)
end
section
theorem backL_own {l : List Int} (hn : l.Nodup) (hb : ∀ x ∈ l, 0 ≤ x ∧ x < l.length) {j : Nat} (hj : j < l.length) : gt (backL l l.length) (gt l j) = j := by
 obtain ⟨k, hk, hk2⟩ := gtI (hb _ (gt_mem (l := l) (j := j) (by omega) (by omega)))
 rw [hk2, backL_gt hk, ← hk2, lastI_own hn _ (Nat.le_refl _) j hj]
end
section
theorem mem_isos {a b : G} {m : Mo} : m ∈ isos a b ↔ NIso a b m.n ∧ m.e ∈ imE a b m.n := by
 simp only [isos, List.mem_flatMap, mem_fullR, imM, List.mem_map]
 constructor
 ·rintro ⟨ns, h1, es, h2, rfl⟩
  exact ⟨h1, h2⟩
 ·rintro ⟨h1, h2⟩
  exact ⟨m.n, h1, m.e, h2, rfl⟩
end
def setG (g : G) (u : Nat) : G := ⟨g.n.set u (-1), g.e⟩
section
variable (P : Program) (F : String → Nat)
end
section
variable {P : Program} {F : String → Nat} {α : Type}
theorem InG.set {g : G} (h : InG g) (u : Nat) : InG (setG g u) := by
 obtain ⟨h1, h2, h3⟩ := h
 refine ⟨by simpa [setG] using h1, h2, fun x hx => ?_⟩
 have := h3 x hx
 simpa [setG] using this
end
section
theorem NIso.id (g : G) : NIso g g (nums 0 g.n.length) := by
 have hg : ∀ i : Nat, i < g.n.length → gt (nums 0 g.n.length) (i : Int) = i := fun i hi => nums_gt hi
 refine ⟨nums_len _ _, fun i hi => ?_, fun i k hi hk e => ?_, fun i hi => ?_, fun t i k hi hk => ?_⟩
 ·rw [hg i hi]; omega
 ·rw [hg i hi, hg k hk] at e; omega
 ·rw [hg i hi]
 ·rw [hg i hi, hg k hk]
theorem NIso.comp {a b c : G} {l m : List Int} (h : NIso a b l) (k : NIso b c m) : NIso a c (thr l m) := by
 have hl := h.len
 have hg : ∀ i : Nat, i < a.n.length → gt (thr l m) (i : Int) = gt m (gt l (i : Int)) := fun i hi => thr_gt (by omega)
 refine ⟨by rw [thr_len, hl], fun i hi => ?_, fun i k' hi hk e => ?_, fun i hi => ?_, fun t i k' hi hk => ?_⟩
 ·rw [hg i hi]
  exact k.rng' (h.rng i hi)
 ·rw [hg i hi, hg k' hk] at e
  exact h.inj i k' hi hk (k.inj' (h.rng i hi) (h.rng k' hk) e)
 ·rw [hg i hi, h.ty i hi]
  obtain ⟨j, hj⟩ := Int.eq_ofNat_of_zero_le (h.rng i hi).1
  rw [hj]
  exact k.ty j (by have := (h.rng i hi).2; omega)
 ·rw [hg i hi, hg k' hk, h.num t i k' hi hk]
  obtain ⟨j, hj⟩ := Int.eq_ofNat_of_zero_le (h.rng i hi).1
  obtain ⟨p, hp⟩ := Int.eq_ofNat_of_zero_le (h.rng k' hk).1
  rw [hj, hp]
  exact k.num t j p (by have := (h.rng i hi).2; omega) (by have := (h.rng k' hk).2; omega)
theorem NIso.inv {a b : G} {l : List Int} (h : NIso a b l) (hn : a.n.length = b.n.length) : NIso b a (backL l l.length) ∧ ∀ i : Nat, i < a.n.length → gt (backL l l.length) (gt l (i : Int)) = i := by
 have hl := h.len
 have hb : ∀ x ∈ l, 0 ≤ x ∧ x < l.length := fun x hx => by
  obtain ⟨i, hi, rfl⟩ := List.mem_iff_getElem.1 hx
  have := h.rng i (by omega)
  rw [gt_nat hi] at this
  omega
 have ho : ∀ i : Nat, i < a.n.length → gt (backL l l.length) (gt l (i : Int)) = i := fun i hi => backL_own h.nd hb (by omega)
 have hs : ∀ j : Nat, j < b.n.length → ∃ i : Nat, i < a.n.length ∧ gt l (i : Int) = j ∧ gt (backL l l.length) (j : Int) = i := fun j hj => by
  obtain ⟨i, hi, e⟩ := h.surj hn (f := (j : Int)) (by omega) (by omega)
  exact ⟨i, hi, e, by rw [← e, ho i hi]⟩
 refine ⟨⟨by rw [backL_len, hl, hn], fun j hj => ?_, fun j k hj hk e => ?_, fun j hj => ?_, fun t j k hj hk => ?_⟩, ho⟩
 ·obtain ⟨i, hi, _, e⟩ := hs j hj
  rw [e]; omega
 ·obtain ⟨i, hi, e1, e2⟩ := hs j hj
  obtain ⟨p, hp, e3, e4⟩ := hs k hk
  rw [e2, e4] at e
  obtain rfl : i = p := by omega
  omega
 ·obtain ⟨i, hi, e1, e2⟩ := hs j hj
  rw [e2, h.ty i hi, e1]
 ·obtain ⟨i, hi, e1, e2⟩ := hs j hj
  obtain ⟨p, hp, e3, e4⟩ := hs k hk
  rw [e2, e4, h.num t i p hi hp, e1, e3]
def Orb (g : G) (u v : Nat) : Prop := ∃ l, NIso g g l ∧ gt l (u : Int) = v
theorem Orb.refl {g : G} {u : Nat} (h : u < g.n.length) : Orb g u u := ⟨_, NIso.id g, nums_gt h⟩
theorem Orb.symm {g : G} {u v : Nat} (hu : u < g.n.length) (h : Orb g u v) : Orb g v u := by
 obtain ⟨l, h1, h2⟩ := h
 obtain ⟨k1, k2⟩ := h1.inv rfl
 exact ⟨_, k1, by rw [← h2]; exact k2 u hu⟩
theorem Orb.trans {g : G} {u v w : Nat} (hu : u < g.n.length) (h : Orb g u v) (k : Orb g v w) : Orb g u w := by
 obtain ⟨l, h1, h2⟩ := h
 obtain ⟨m, k1, k2⟩ := k
 exact ⟨_, h1.comp k1, by rw [thr_gt (by rw [h1.len]; exact hu), h2, k2]⟩
end
section
theorem NIso.ex {a b : G} {l : List Int} (h : NIso a b l) (va : InG a) (vb : InG b) (hn : a.n.length = b.n.length) : ∃ es, (⟨l, es⟩ : Mo) ∈ isos a b := by
 obtain ⟨es, hes⟩ := List.exists_mem_of_ne_nil _ (h.imE_ne va vb hn)
 exact ⟨es, mem_isos.2 ⟨h, hes⟩⟩
end
end Go.Am
