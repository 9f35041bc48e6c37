/- Drafts of graphs; what laws take. -/
import Derived.Test.YtmkhlefohbfekaaSpPa
import Derived.Test.YtmkhlefohbfekaaSpPb
import Derived.Test.YtmkhlefohbfekaaSpPc
import Derived.Test.YtmkhlefohbfekaaSpPd
namespace Go.Am
open Go
set_option linter.unusedVariables false
set_option linter.unusedSimpArgs false
section
variable (P : Program) (F : String → Nat)
end
def shI : Sh := .int .i64
def shIs : Sh := .slc 1 8 shI
def shE : Sh := .cat [shI, shI, shI]
def shG : Sh := .cat [shIs, .slc 3 24 shE]
theorem rd_int {x : D} (h : HasEl shI x) : ∃ n : Int, x = .int .i64 n ∧ IntKind.i64.min ≤ n ∧ n ≤ IntKind.i64.max := by
 simpa only [shI, HasEl] using h
theorem rd_intl : ∀ {xs : List D}, (∀ y ∈ xs, HasEl shI y) → ∃ l : List Int, xs = ints l
 | [], _ => ⟨[], rfl⟩
 | x :: xs, h => by
  obtain ⟨l, rfl⟩ := rd_intl (xs := xs) fun y hy => h y (by simp [hy])
  obtain ⟨n, rfl, _⟩ := rd_int (h x (by simp))
  exact ⟨n :: l, rfl⟩
theorem rd_ints {x : D} (h : HasEl shIs x) : ∃ l : List Int, x = .lst 1 (ints l) ∧ l.length ≤ 20000000000000 := by
 simp only [shIs, HasEl] at h
 obtain ⟨xs, rfl, h1, h2⟩ := h
 obtain ⟨l, rfl⟩ := rd_intl h2
 refine ⟨l, rfl, ?_⟩
 rw [ints_length] at h1
 unfold reachBytes at h1
 omega
theorem rd_edge {x : D} (h : HasEl shE x) : ∃ e : E, x = edD e := by
 simp only [shE, HasEl] at h
 obtain ⟨ds, rfl, h⟩ := h
 simp only [shI, HasShs, HasEl] at h
 obtain ⟨_, _, rfl, ⟨a, rfl, _⟩, _, _, rfl, ⟨b, rfl, _⟩, _, _, rfl, ⟨c, rfl, _⟩, rfl⟩ := h
 exact ⟨⟨a, b, c⟩, rfl⟩
theorem rd_edl : ∀ {xs : List D}, (∀ y ∈ xs, HasEl shE y) → ∃ l : List E, xs = eds l
 | [], _ => ⟨[], rfl⟩
 | x :: xs, h => by
  obtain ⟨l, rfl⟩ := rd_edl (xs := xs) fun y hy => h y (by simp [hy])
  obtain ⟨n, rfl⟩ := rd_edge (h x (by simp))
  exact ⟨n :: l, rfl⟩
theorem rd_graph {x : D} (h : HasEl shG x) : ∃ g : G, x = gD g := by
 simp only [shG, HasEl] at h
 obtain ⟨ds, rfl, h⟩ := h
 have h' : ∃ a b, ds = a :: b ∧ HasEl shIs a ∧ HasShs [.slc 3 24 shE] b := by simpa only [shIs, HasShs] using h
 obtain ⟨a, _, rfl, h1, h'⟩ := h'
 obtain ⟨l, rfl, _⟩ := rd_ints h1
 simp only [HasShs, HasEl] at h'
 obtain ⟨_, _, rfl, ⟨xs, rfl, _, h3⟩, rfl⟩ := h'
 obtain ⟨es, rfl⟩ := rd_edl h3
 exact ⟨⟨l, es⟩, rfl⟩
section
variable {P : Program} {F : String → Nat} {α : Type}
end
section
theorem gen_Fo {n : Nat} {l : List Pr} (hl : PrIn n l) : ∀ i : Nat, i ≤ l.length → ∃ p, Fo p (genI n l i) ∧ p.length = n
 | 0, _ => ⟨_, nums_Fo n, nums_len 0 n⟩
 | i + 1, hi => by
  obtain ⟨p, h1, h2⟩ := gen_Fo hl i (by omega)
  obtain ⟨⟨a1, a2⟩, b1, b2⟩ := hl i (by omega)
  obtain ⟨a, ha⟩ := natI a1
  obtain ⟨b, hb⟩ := natI b1
  rw [genI, ha, hb]
  exact ⟨_, h1.unite (a := a) (b := b) (by omega) (by omega), by rw [List.length_set, h2]⟩
theorem gen_idem {n : Nat} {l : List Pr} (hl : PrIn n l) {i : Nat} (hi : i ≤ l.length) : Idem (genI n l i) :=
 let ⟨_, h, _⟩ := gen_Fo hl i hi; h.idem
theorem merge_same {p : List Int} {a b : Int} {x y : Nat} (hx : x < p.length) (hy : y < p.length) (h : gt p x = gt p y) : gt (mergeL p a b) x = gt (mergeL p a b) y := by
 rw [mergeL_gt hx, mergeL_gt hy, h]
theorem merge_ab {p : List Int} {a b : Nat} (ha : a < p.length) (hb : b < p.length) : gt (mergeL p a b) a = gt (mergeL p a b) b := by
 rw [mergeL_gt ha, mergeL_gt hb]
 by_cases c : gt p a ≤ gt p b
 ·rw [Int.max_eq_right c, Int.min_eq_left c, if_pos rfl]
  split <;> rfl
 ·rw [Int.max_eq_left (by omega), Int.min_eq_right (by omega), if_pos rfl]
  split <;> rfl
theorem gen_pair {n : Nat} {l : List Pr} (hl : PrIn n l) : ∀ i : Nat, i ≤ l.length → ∀ k : Nat, k < i → gt (genI n l i) (gt l k).a = gt (genI n l i) (gt l k).b
 | 0, _, k, hk => by omega
 | i + 1, hi, k, hk => by
  have gl := gen_len (n := n) (l := l) i
  obtain ⟨⟨a1, a2⟩, b1, b2⟩ := hl k (by omega)
  rw [genI]
  by_cases c : k = i
  ·subst c
   obtain ⟨a, ha⟩ := natI a1
   obtain ⟨b, hb⟩ := natI b1
   rw [ha, hb]
   exact merge_ab (by omega) (by omega)
  ·have ih := gen_pair hl i (by omega) k (by omega)
   obtain ⟨a, ha⟩ := natI a1
   obtain ⟨b, hb⟩ := natI b1
   rw [ha, hb] at ih ⊢
   exact merge_same (by omega) (by omega) ih
theorem gen_fun {β : Type} {φ : Int → β} {n : Nat} {l : List Pr} (hl : PrIn n l) (hf : ∀ i : Nat, i < l.length → φ (gt l i).a = φ (gt l i).b) : ∀ i : Nat, i ≤ l.length → ∀ k : Nat, k < n → φ (gt (genI n l i) k) = φ k
 | 0, _, k, hk => by rw [genI, nums_gt hk]
 | i + 1, hi, k, hk => by
  have gl := gen_len (n := n) (l := l) i
  obtain ⟨⟨a1, a2⟩, b1, b2⟩ := hl i (by omega)
  have ih := gen_fun hl hf i (by omega)
  have he := hf i (by omega)
  obtain ⟨a, ha⟩ := natI a1
  obtain ⟨b, hb⟩ := natI b1
  rw [genI, ha, hb, mergeL_gt (by omega)]
  rw [ha, hb] at he
  have ea := ih a (by omega)
  have eb := ih b (by omega)
  have ek := ih k hk
  by_cases c : gt (genI n l i) a ≤ gt (genI n l i) b
  ·rw [Int.max_eq_right c, Int.min_eq_left c]
   split
   ·rename_i e
    rw [ea, he, ← eb, ← e, ek]
   ·exact ek
  ·rw [Int.max_eq_left (by omega), Int.min_eq_right (by omega)]
   split
   ·rename_i e
    rw [eb, ← he, ← ea, ← e, ek]
   ·exact ek
end
attribute [local irreducible] W
section
variable (P : Program) (F : String → Nat)
end
section
variable {α : Type}
theorem colA_length (l S : List (List Int)) : (colA l S).length = l.length := by simp [colA]
end
section
variable {P : Program} {F : String → Nat} {α : Type}
end
@[go_sem] def c_r08_number_r0 : LL := [qB 4 0,qi 8 0]
@[go_sem] def c_r08_number_r1 : LL := [qi 9 0]
@[go_sem] def c_r08_number_r2 : LL := [qi 10 0]
@[go_sem] def c_r08_number_r3 : LL := [qm 11 10,qf 12 1 4,ql 13 1 12,qz 14 13,qo .lss 15 11 14]
@[go_sem] def c_r08_number_r4 : LL := [qf 18 1 4,ql 19 1 18,qm 20 10,qd 21 3 19 20,qL 22 3 21,qm 23 1,qm 24 2,qm 25 3,qu 26 [.int .i64 (0),.int .i64 (0),.int .i64 (0)] [(0,1,.t 23),(1,1,.t 24),(2,1,.t 25)],
 ⟨some 27,.eqA 3 false (.t 22) (.t 26),none⟩]
@[go_sem] def c_r08_number_r5 : LL := [qm 28 9,qk .add 29 28 1,qm 9 29]
@[go_sem] def c_r08_number_r6 : LL := [qm 16 10,qk .add 17 16 1,qm 10 17]
def c_r08_number_b7 : LC := (.seq (.seq (.reg c_r08_number_r3 [1,2,3,4,9,10,15]) (.cond (.t 15) .skip (.exit 0))) (.seq (.block 1 (.seq (.reg c_r08_number_r4 [1,2,3,4,9,10,27]) (.cond (.t 27) (.reg c_r08_number_r5 [1,2,3,4,9,10]) .skip))) (.reg c_r08_number_r6 [1,2,3,4,9,10])))
@[go_sem] def c_r08_number_r8 : LL := [qm 30 9,qm 8 30]
@[go_sem] def c_r08_number (F : Fn) : LC := (.seq (.reg c_r08_number_r0 [1,2,3,4]) (.seq (.reg c_r08_number_r1 [1,2,3,4,9]) (.seq (.seq (.reg c_r08_number_r2 [1,2,3,4,9,10]) (.block 0 (.loop [1,2,3,4,9,10] c_r08_number_b7))) (.seq (.reg c_r08_number_r8 [8]) .ret))))
def h_r08_number : Hints := hn [] [(0,[1,2,3,4]),(1,[1,2,3,4,9]),(2,[1,2,3,4,9,10]),(3,[1,2,3,4,9,10,15]),(4,[1,2,3,4,9,10]),(5,[1,2,3,4,9,10,27]),(6,[1,2,3,4,9,10]),(7,[8])] [(3,[1,2,3,4,9,10])]
@[go_sem] def c_r08_fits_r0 : LL := [qB 3 0,qB 4 1,qb 6 false]
@[go_sem] def c_r08_fits_r1 : LL := [qm 12 2,qz 13 12,qk .sub 14 13 1,qm 7 14]
@[go_sem] def c_r08_fits_r2 : LL := [qf 15 0 3,ql 16 1 15,qm 17 7,qd 18 1 16 17,ql 19 1 18,qf 20 0 4,ql 21 1 20,qm 22 2,qm 23 7,qd 24 1 22 23,ql 25 1 24,qd 26 1 21 25,ql 27 1 26,qo .neq 28 19 27]
@[go_sem] def c_r08_fits_r3 : LL := [qb 6 false]
@[go_sem] def c_r08_fits_r4 : LL := [qi 8 0]
@[go_sem] def c_r08_fits_r5 : LL := [qm 29 8,qm 30 7,qo .lss 31 29 30]
@[go_sem] def c_r08_fits_r6 : LL := [qm 34 2,qm 35 8,qd 36 1 34 35,ql 37 1 36,qm 38 2,qm 39 7,qd 40 1 38 39,ql 41 1 40,qo .eql 42 37 41]
@[go_sem] def c_r08_fits_r7 : LL := [qb 6 false]
@[go_sem] def c_r08_fits_r8 : LL := [qm 32 8,qk .add 33 32 1,qm 8 33]
def c_r08_fits_b9 : LC := (.seq (.seq (.reg c_r08_fits_r5 [2,3,4,7,8,31]) (.cond (.t 31) .skip (.exit 0))) (.seq (.block 1 (.seq (.dreg [] c_r08_fits_r6 [2,3,4,7,8,42]) (.cond (.t 42) (.seq (.reg c_r08_fits_r7 [6]) .ret) .skip))) (.reg c_r08_fits_r8 [2,3,4,7,8])))
@[go_sem] def c_r08_fits_r10 : LL := [qi 9 0]
@[go_sem] def c_r08_fits_r11 : LL := [qm 43 9,qm 44 7,qo .leq 45 43 44]
@[go_sem] def c_r08_fits_r12 : LL := [qi 10 0]
@[go_sem] def c_r08_fits_r13 : LL := [qm 48 10,qf 49 1 3,ql 50 1 49,qz 51 50,qf 52 1 4,ql 53 1 52,qz 54 53,qo .add 55 51 54,qo .lss 56 48 55]
@[go_sem] def c_r08_fits_r14 : LL := [qi 11 0]
@[go_sem] def c_r08_fits_r15 : LL := [qm 59 10,qf 60 1 3,ql 61 1 60,qz 62 61,qo .lss 63 59 62]
@[go_sem] def c_r08_fits_r16 : LL := [qf 64 1 3,ql 65 1 64,qm 66 10,qd 67 3 65 66,qf 68 0 67,ql 69 1 68,qm 11 69]
@[go_sem] def c_r08_fits_r17 : LL := [qf 70 1 4,ql 71 1 70,qm 72 10,qf 73 1 3,ql 74 1 73,qz 75 74,qo .sub 76 72 75,qd 77 3 71 76,qf 78 0 77,ql 79 1 78,qm 11 79]
@[go_sem] def c_r08_fits_r18 (F : Fn) : LL := [qL 80 2 3,qm 81 11,qm 82 9,qm 83 7,qc 84 (F "r08.number") [.t 80,.t 81,.t 82,.t 83],qL 85 2 4,qm 86 11,qm 87 2,qm 88 9,qd 89 1 87 88,ql 90 1 89,qm 91 2,qm 92 7,qd 93 1 91 92,ql 94 1 93,
 qc 95 (F "r08.number") [.t 85,.t 86,.t 90,.t 94],qo .neq 96 84 95,qm 97 96,qg 97 false (qL 98 2 3),qg 97 false (qm 99 11),qg 97 false (qm 100 7),qg 97 false (qm 101 9),
 qg 97 false (qc 102 (F "r08.number") [.t 98,.t 99,.t 100,.t 101]),qg 97 false (qL 103 2 4),qg 97 false (qm 104 11),qg 97 false (qm 105 2),qg 97 false (qm 106 7),
 qg 97 false (qd 107 1 105 106),qg 97 false (ql 108 1 107),qg 97 false (qm 109 2),qg 97 false (qm 110 9),qg 97 false (qd 111 1 109 110),qg 97 false (ql 112 1 111),
 qg 97 false (qc 113 (F "r08.number") [.t 103,.t 104,.t 108,.t 112]),qg 97 false (qo .neq 114 102 113),qQ 115 97 114]
@[go_sem] def c_r08_fits_r19 : LL := [qb 6 false]
@[go_sem] def c_r08_fits_r20 : LL := [qm 57 10,qk .add 58 57 1,qm 10 58]
def c_r08_fits_b21 (F : Fn) : LC := (.seq (.seq (.reg c_r08_fits_r13 [2,3,4,7,9,10,56]) (.cond (.t 56) .skip (.exit 4))) (.seq (.block 5 (.seq (.reg c_r08_fits_r14 [2,3,4,7,9,10]) (.seq (.seq (.reg c_r08_fits_r15 [2,3,4,7,9,10,63]) (.cond (.t 63) (.reg c_r08_fits_r16 [2,3,4,7,9,10,11]) (.reg c_r08_fits_r17 [2,3,4,7,9,10,11]))) (.seq (.dreg [(4,none,[],true),(5,(some 0),[4],false),(9,(some 384),[4],false),(10,(some 896),[4],false),(13,(some 6144),[4],false),(14,(some 14336),[4],false),(22,none,[],true),(23,(some 262143),[22],false),(27,(some 100925439),[22],false),(28,(some 235143167),[22],false),(31,(some 1610874879),[22],false),(32,(some 3758358527),[22],false)] (c_r08_fits_r18 F) [2,3,4,7,9,10,115]) (.cond (.t 115) (.seq (.reg c_r08_fits_r19 [6]) .ret) .skip))))) (.reg c_r08_fits_r20 [2,3,4,7,9,10])))
@[go_sem] def c_r08_fits_r22 : LL := [qm 46 9,qk .add 47 46 1,qm 9 47]
def c_r08_fits_b23 (F : Fn) : LC := (.seq (.seq (.reg c_r08_fits_r11 [2,3,4,7,9,45]) (.cond (.t 45) .skip (.exit 2))) (.seq (.block 3 (.seq (.reg c_r08_fits_r12 [2,3,4,7,9,10]) (.block 4 (.loop [2,3,4,7,9,10] (c_r08_fits_b21 F))))) (.reg c_r08_fits_r22 [2,3,4,7,9])))
@[go_sem] def c_r08_fits_r24 : LL := [qb 6 true]
@[go_sem] def c_r08_fits (F : Fn) : LC := (.seq (.reg c_r08_fits_r0 [2,3,4]) (.seq (.reg c_r08_fits_r1 [2,3,4,7]) (.seq (.seq (.dreg [] c_r08_fits_r2 [2,3,4,7,28]) (.cond (.t 28) (.seq (.reg c_r08_fits_r3 [6]) .ret) .skip)) (.seq (.seq (.reg c_r08_fits_r4 [2,3,4,7,8]) (.block 0 (.loop [2,3,4,7,8] c_r08_fits_b9))) (.seq (.seq (.reg c_r08_fits_r10 [2,3,4,7,9]) (.block 2 (.loop [2,3,4,7,9] (c_r08_fits_b23 F)))) (.seq (.reg c_r08_fits_r24 [6]) .ret))))))
def h_r08_fits : Hints := hn [] [(0,[2,3,4]),(1,[2,3,4,7]),(2,[2,3,4,7,28]),(3,[6]),(4,[2,3,4,7,8]),(5,[2,3,4,7,8,31]),(6,[2,3,4,7,8]),(7,[2,3,4,7,8,42]),(8,[6]),(9,[2,3,4,7,9]),(10,[2,3,4,7,9,45]),(11,[2,3,4,7,9]),(12,[2,3,4,7,9,10]),(13,[2,3,4,7,9,10,56]),(14,[2,3,4,7,9,10]),(15,[2,3,4,7,9,10]),(16,[2,3,4,7,9,10,63]),(17,[2,3,4,7,9,10,11]),(18,[2,3,4,7,9,10,11]),(19,[2,3,4,7,9,10,115]),(20,[6]),(21,[6])] [(5,[2,3,4,7,8]),(10,[2,3,4,7,9]),(13,[2,3,4,7,9,10])]
def kndL (a b : G) (k : Nat) : Int := if k < a.e.length then (gt a.e (k : Int)).t else (gt b.e ((k - a.e.length : Nat) : Int)).t
def pairR (a b : G) (i k n m t : Int) : Bool := decide (numL a t k i = numL b t m n) && decide (numL a t i k = numL b t n m)
def fitsR (a b : G) (ns : List Int) (n : Int) : Bool := decide (gt a.n ns.length = gt b.n n) && (!decide (n ∈ ns) && (List.range (ns.length + 1)).all fun k => (List.range (a.e.length + b.e.length)).all fun t => pairR a b ns.length k n (gt (ns ++ [n]) (k : Int)) (kndL a b t))
section
variable (P : Program) (F : String → Nat)
def K_r08_number : Prop := ∀ (g : G) (t f o : Int), g.e.length ≤ 1000 → FC P (F "r08.number") [gD g, .int .i64 t, .int .i64 f, .int .i64 o] (.int .i64 (numL g t f o)) []
def K_r08_fits : Prop := ∀ (a b : G) (ns : List Int) (n : Int), InG a → InG b → ns.length < a.n.length → (∀ x ∈ ns, 0 ≤ x ∧ x < b.n.length) → 0 ≤ n → n < b.n.length → FC P (F "r08.fits") [gD a, gD b, .lst 1 (ints (ns ++ [n]))] (.bool (fitsR a b ns n)) []
end
section
variable {P : Program} {F : String → Nat} {α : Type}
theorem filt_take {α : Type} [Inhabited α] (p : α → Bool) {l : List α} {i : Nat} (h : i < l.length) : ((l.take (i + 1)).filter p).length = ((l.take i).filter p).length + (if p (gt l (i : Int)) then 1 else 0) := by
 rw [take_gt h, List.filter_append, List.length_append]
 by_cases hp : p (gt l (i : Int)) = true
 ·rw [if_pos hp]; simp [hp]
 ·rw [if_neg hp]; simp [hp]
theorem w_r08_number (g : G) (t f o : Int) (h : g.e.length ≤ 1000) : W P (c_r08_number F) (Done [.t 8] [] (.int .i64 (numL g t f o)) []) (init [gD g, .int .i64 t, .int .i64 f, .int .i64 o]) := by
 obtain ⟨ns, es⟩ := g
 refine W_of ?_
 have hR : numL ⟨ns, es⟩ t f o = (es.filter (numP t f o)).length := rfl
 generalize numL ⟨ns, es⟩ t f o = R at *
 simp only [gD] at *
 have hle : ∀ i, ((es.take i).filter (numP t f o)).length ≤ i := fun i => Nat.le_trans (List.length_filter_le _ _) (by simp; omega)
 simp (disch := omega) only [go_sem, ↓reduceIte]
 refine W_loop (fun i : Nat => ⟨[(1, .int .i64 t), (2, .int .i64 f), (3, .int .i64 o), (4, .pt 0 0), (9, .int .i64 ((es.take i).filter (numP t f o)).length), (10, .int .i64 i)], [(0, .box [.lst 1 (ints ns), .lst 3 (eds es)])], 1⟩) (fun i => i ≤ es.length) (fun i => es.length - i) 0 ?_ ?_ ?_
 ·simp (disch := omega) only [go_sem, ↓reduceIte]
  rfl
 ·omega
 ·intro i hi
  have hl := hle i
  simp (disch := omega) only [go_sem, ↓reduceIte, c_r08_number_b7]
  refine bran_dec (fun d => ?_) (fun d => ?_)
  ·have hf := filt_take (numP t f o) (l := es) (i := i) (by omega)
   obtain ⟨⟨yt, yf, yo⟩, hz⟩ : ∃ x, gt es (i : Int) = x := ⟨_, rfl⟩
   rw [hz, show numP t f o ⟨yt, yf, yo⟩ = (decide (yt = t) && (decide (yf = f) && decide (yo = o))) from rfl] at hf
   cases he : (decide (yt = t) && (decide (yf = f) && decide (yo = o))) with
   | false =>
    rw [he] at hf
    simp (disch := omega) only [go_sem, ↓reduceIte, hz, he]
    exact ⟨i + 1, by rw [hf]; simp, by omega, by omega⟩
   | true =>
    rw [he] at hf
    simp (disch := omega) only [go_sem, ↓reduceIte, hz, he]
    exact ⟨i + 1, by rw [hf]; simp, by omega, by omega⟩
  ·obtain rfl : i = es.length := by omega
   rw [List.take_length] at *
   simp (disch := omega) only [go_sem, ↓reduceIte]
   rw [hR]
theorem all_dropB {p : Nat → Bool} {n i : Nat} (h : i < n) : (List.range' i (n - i)).all p = (p i && (List.range' (i + 1) (n - (i + 1))).all p) := by
 rw [show n - i = (n - (i + 1)) + 1 by omega, List.range'_succ, List.all_cons]
theorem w_r08_fits (hn : K_r08_number P F) (a b : G) (ns : List Int) (n : Int) (va : InG a) (vb : InG b) (h1 : ns.length < a.n.length) (h2 : ∀ x ∈ ns, 0 ≤ x ∧ x < b.n.length) (h3 : 0 ≤ n) (h4 : n < b.n.length) :
  W P (c_r08_fits F) (Done [.t 6] [] (.bool (fitsR a b ns n)) []) (init [gD a, gD b, .lst 1 (ints (ns ++ [n]))]) := by
 have ra := fun t f o => hn a t f o (by have := va.2.1; omega)
 have rb := fun t f o => hn b t f o (by have := vb.2.1; omega)
 have hF : fitsR a b ns n = (decide (gt a.n ns.length = gt b.n n) && (!decide (n ∈ ns) && (List.range (ns.length + 1)).all fun k => (List.range (a.e.length + b.e.length)).all fun t => pairR a b ns.length k n (gt (ns ++ [n]) (k : Int)) (kndL a b t))) := rfl
 have hP : ∀ i k m p t, pairR a b i k m p t = (decide (numL a t k i = numL b t p m) && decide (numL a t i k = numL b t m p)) := fun _ _ _ _ _ => rfl
 have hK : ∀ k, kndL a b k = if k < a.e.length then (gt a.e (k : Int)).t else (gt b.e ((k - a.e.length : Nat) : Int)).t := fun _ => rfl
 have hgl : gt (ns ++ [n]) (ns.length : Int) = n := by rw [gt_nat (by simp)]; simp
 have hnl : ∀ t f o, numL a t f o ≤ 1000 := fun t f o => Nat.le_trans (List.length_filter_le _ _) (by have := va.2.1; omega)
 have hnb : ∀ t f o, numL b t f o ≤ 1000 := fun t f o => Nat.le_trans (List.length_filter_le _ _) (by have := vb.2.1; omega)
 have hml : (ns ++ [n]).length = ns.length + 1 := by simp
 have hmb : ∀ i : Nat, i ≤ ns.length → 0 ≤ gt (ns ++ [n]) (i : Int) ∧ gt (ns ++ [n]) (i : Int) < b.n.length := fun i hi => by
  rcases Nat.lt_or_ge i ns.length with h | h
  ·have hm := gt_mem (l := ns ++ [n]) (j := (i : Int)) (by omega) (by rw [hml]; omega)
   rcases List.mem_append.1 hm with hm | hm
   ·exact h2 _ hm
   ·simp only [List.mem_singleton] at hm
    rw [hm]; exact ⟨h3, h4⟩
  ·obtain rfl : i = ns.length := by omega
   rw [hgl]; exact ⟨h3, h4⟩
 have hin : decide (n ∈ ns) = (List.range ns.length).any fun i => decide (gt (ns ++ [n]) (i : Int) = n) := by
  rw [Bool.eq_iff_iff, decide_eq_true_eq, List.any_eq_true]
  constructor
  ·intro h
   obtain ⟨i, hi, e⟩ := List.mem_iff_getElem.1 h
   refine ⟨i, List.mem_range.2 hi, decide_eq_true ?_⟩
   rw [gt_nat (by rw [hml]; omega), List.getElem_append_left hi, e]
  ·rintro ⟨i, hi, e⟩
   have hi := List.mem_range.1 hi
   have e := of_decide_eq_true e
   rw [gt_nat (by rw [hml]; omega), List.getElem_append_left hi] at e
   rw [← e]; exact List.getElem_mem _
 rw [hin] at hF
 have va1 := va.1; have va2 := va.2.1; have vb1 := vb.1; have vb2 := vb.2.1
 generalize fitsR a b ns n = R at *
 generalize pairR a b = pr at *
 generalize kndL a b = kd at *
 generalize numL a = na at *
 generalize numL b = nb at *
 generalize ns ++ [n] = ms at *
 generalize hM : ns.length = M at *
 clear hn hin h2
 obtain ⟨an, ae⟩ := a
 obtain ⟨bn, be⟩ := b
 simp only [gD] at *
 refine W_of ?_
 have hm1 : (ms.length : Int) - 1 = M := by omega
 simp (disch := omega) only [go_sem, ↓reduceIte, hm1, hgl]
 refine bran_ndec (fun c0 => ?_) (fun c0 => ?_)
 ·rw [decide_eq_false c0, Bool.false_and] at hF
  subst hF
  simp (disch := omega) only [go_sem, ↓reduceIte]
 rw [decide_eq_true c0, Bool.true_and] at hF
 obtain ⟨T, hT⟩ : ∃ T : Bool, T = (List.range (M + 1)).all fun k => (List.range (ae.length + be.length)).all fun t => pr M k n (gt ms (k : Int)) (kd t) := ⟨_, rfl⟩
 rw [← hT] at hF
 simp (disch := omega) only [go_sem, ↓reduceIte]
 refine W_loop (fun i : Nat => ⟨[(2, .lst 1 (ints ms)), (3, .pt 0 0), (4, .pt 1 0), (7, .int .i64 M), (8, .int .i64 i)], [(0, .box [.lst 1 (ints an), .lst 3 (eds ae)]), (1, .box [.lst 1 (ints bn), .lst 3 (eds be)])], 2⟩)
  (fun i => i ≤ M ∧ R = (!((List.range' i (M - i)).any fun i => decide (gt ms (i : Int) = n)) && T)) (fun i => M - i) 0 ?_ ?_ ?_
 ·simp (disch := omega) only [go_sem, ↓reduceIte]
  rfl
 ·exact ⟨Nat.zero_le _, by rw [hF, Nat.sub_zero, List.range_eq_range' (n := M)]⟩
 ·rintro i ⟨k1, k2⟩
  simp (disch := omega) only [go_sem, ↓reduceIte, c_r08_fits_b9, hgl]
  refine bran_dec (fun d => ?_) (fun d => ?_)
  ·rw [show M - i = (M - (i + 1)) + 1 by omega, List.range'_succ, List.any_cons] at k2
   simp (disch := omega) only [go_sem, ↓reduceIte, hgl]
   refine bran_dec (fun e => ?_) (fun e => ?_)
   ·rw [decide_eq_true e, Bool.true_or] at k2
    simp only [Bool.not_true, Bool.false_and] at k2
    subst k2
    simp (disch := omega) only [go_sem, ↓reduceIte]
   ·rw [decide_eq_false e, Bool.false_or] at k2
    simp (disch := omega) only [go_sem, ↓reduceIte]
    exact ⟨i + 1, by simp, ⟨by omega, k2⟩, by omega⟩
  ·obtain rfl : i = M := by omega
   rw [Nat.sub_self] at k2
   simp only [List.range'_zero, List.any_nil, Bool.not_false, Bool.true_and] at k2
   rw [hT, List.range_eq_range' (n := i + 1)] at k2
   clear hT
   obtain ⟨A, hA⟩ : ∃ A : Nat → Bool, ∀ k, A k = (List.range (ae.length + be.length)).all fun t => pr i k n (gt ms (k : Int)) (kd t) := ⟨_, fun _ => rfl⟩
   simp only [← hA] at k2
   simp (disch := omega) only [go_sem, ↓reduceIte]
   refine W_loop (fun k : Nat => ⟨[(2, .lst 1 (ints ms)), (3, .pt 0 0), (4, .pt 1 0), (7, .int .i64 i), (9, .int .i64 k)], [(0, .box [.lst 1 (ints an), .lst 3 (eds ae)]), (1, .box [.lst 1 (ints bn), .lst 3 (eds be)])], 2⟩)
    (fun k => k ≤ i + 1 ∧ R = (List.range' k (i + 1 - k)).all A) (fun k => i + 1 - k) 0 ?_ ?_ ?_
   ·simp (disch := omega) only [go_sem, ↓reduceIte]
    rfl
   ·exact ⟨Nat.zero_le _, by rw [k2, Nat.sub_zero]⟩
   ·rintro k ⟨q1, q2⟩
    simp (disch := omega) only [go_sem, ↓reduceIte, c_r08_fits_b23]
    refine bran_dec (fun e => ?_) (fun e => ?_)
    ·rw [all_dropB (by omega)] at q2
     have hAk := hA k
     have hmk := hmb k (by omega)
     have hmi := hmb i (by omega)
     obtain ⟨B, hB⟩ : ∃ B : Bool, B = (List.range' (k + 1) (i + 1 - (k + 1))).all A := ⟨_, rfl⟩
     rw [← hB] at q2
     rw [List.range_eq_range'] at hAk
     simp (disch := omega) only [go_sem, ↓reduceIte]
     refine W_loop (fun t : Nat => ⟨[(2, .lst 1 (ints ms)), (3, .pt 0 0), (4, .pt 1 0), (7, .int .i64 i), (9, .int .i64 k), (10, .int .i64 t)], [(0, .box [.lst 1 (ints an), .lst 3 (eds ae)]), (1, .box [.lst 1 (ints bn), .lst 3 (eds be)])], 2⟩)
      (fun t => t ≤ ae.length + be.length ∧ A k = (List.range' t (ae.length + be.length - t)).all fun t => pr i k n (gt ms (k : Int)) (kd t)) (fun t => ae.length + be.length - t) 0 ?_ ?_ ?_
     ·simp (disch := omega) only [go_sem, ↓reduceIte]
      rfl
     ·exact ⟨Nat.zero_le _, by rw [hAk, Nat.sub_zero]⟩
     ·rintro t ⟨p1, p2⟩
      simp (disch := omega) only [go_sem, ↓reduceIte, c_r08_fits_b21]
      refine bran_dec (fun f => ?_) (fun f => ?_)
      ·rw [all_dropB (by omega)] at p2
       obtain ⟨C, hC⟩ : ∃ C : Bool, C = (List.range' (t + 1) (ae.length + be.length - (t + 1))).all fun t => pr i k n (gt ms (k : Int)) (kd t) := ⟨_, rfl⟩
       rw [← hC, hP] at p2
       have hKt := hK t
       simp (disch := omega) only [go_sem, ↓reduceIte]
       refine bran_dec (fun g => ?_) (fun g => ?_)
       ·rw [if_pos (by omega)] at hKt
        obtain ⟨⟨yt, yf, yo⟩, hz⟩ : ∃ x, gt ae (t : Int) = x := ⟨_, rfl⟩
        rw [hz] at hKt
        simp only at hKt
        rw [hKt] at p2
        simp (disch := omega) only [go_sem, ↓reduceIte, hz]
        refine call_by (ra yt k i) ?_
        simp (disch := omega) only [go_sem, ↓reduceIte, hgl]
        refine call_by (rb yt (gt ms (k : Int)) n) ?_
        by_cases e1 : na yt k i = nb yt (gt ms (k : Int)) n
        ·have d1 : decide ((na yt k i : Int) = nb yt (gt ms (k : Int)) n) = true := decide_eq_true (by omega)
         simp (disch := omega) only [go_sem, ↓reduceIte, hgl, d1]
         refine call_by (ra yt i k) ?_
         simp (disch := omega) only [go_sem, ↓reduceIte, hgl, d1]
         refine call_by (rb yt n (gt ms (k : Int))) ?_
         by_cases e2 : na yt i k = nb yt n (gt ms (k : Int))
         ·have d2 : decide ((na yt i k : Int) = nb yt n (gt ms (k : Int))) = true := decide_eq_true (by omega)
          simp (disch := omega) only [go_sem, ↓reduceIte, hgl, d1, d2]
          rw [decide_eq_true e1, decide_eq_true e2] at p2
          exact ⟨t + 1, by simp, ⟨by omega, by rw [p2]; exact hC⟩, by omega⟩
         ·have d2 : decide ((na yt i k : Int) = nb yt n (gt ms (k : Int))) = false := decide_eq_false (by omega)
          simp (disch := omega) only [go_sem, ↓reduceIte, hgl, d1, d2]
          rw [decide_eq_false e2, Bool.and_false, Bool.false_and] at p2
          rw [p2, Bool.false_and] at q2
          rw [q2]
        ·have d1 : decide ((na yt k i : Int) = nb yt (gt ms (k : Int)) n) = false := decide_eq_false (by omega)
         simp (disch := omega) only [go_sem, ↓reduceIte, hgl, d1]
         rw [decide_eq_false e1, Bool.false_and, Bool.false_and] at p2
         rw [p2, Bool.false_and] at q2
         rw [q2]
       ·rw [if_neg (by omega)] at hKt
        obtain ⟨⟨yt, yf, yo⟩, hz⟩ : ∃ x, gt be ((t - ae.length : Nat) : Int) = x := ⟨_, rfl⟩
        rw [hz] at hKt
        simp only at hKt
        rw [hKt] at p2
        have hz2 : gt be ((t : Int) - ae.length) = ⟨yt, yf, yo⟩ := by rw [← hz]; congr 1; omega
        simp (disch := omega) only [go_sem, ↓reduceIte, hz2]
        refine call_by (ra yt k i) ?_
        simp (disch := omega) only [go_sem, ↓reduceIte, hgl]
        refine call_by (rb yt (gt ms (k : Int)) n) ?_
        by_cases e1 : na yt k i = nb yt (gt ms (k : Int)) n
        ·have d1 : decide ((na yt k i : Int) = nb yt (gt ms (k : Int)) n) = true := decide_eq_true (by omega)
         simp (disch := omega) only [go_sem, ↓reduceIte, hgl, d1]
         refine call_by (ra yt i k) ?_
         simp (disch := omega) only [go_sem, ↓reduceIte, hgl, d1]
         refine call_by (rb yt n (gt ms (k : Int))) ?_
         by_cases e2 : na yt i k = nb yt n (gt ms (k : Int))
         ·have d2 : decide ((na yt i k : Int) = nb yt n (gt ms (k : Int))) = true := decide_eq_true (by omega)
          simp (disch := omega) only [go_sem, ↓reduceIte, hgl, d1, d2]
          rw [decide_eq_true e1, decide_eq_true e2] at p2
          exact ⟨t + 1, by simp, ⟨by omega, by rw [p2]; exact hC⟩, by omega⟩
         ·have d2 : decide ((na yt i k : Int) = nb yt n (gt ms (k : Int))) = false := decide_eq_false (by omega)
          simp (disch := omega) only [go_sem, ↓reduceIte, hgl, d1, d2]
          rw [decide_eq_false e2, Bool.and_false, Bool.false_and] at p2
          rw [p2, Bool.false_and] at q2
          rw [q2]
        ·have d1 : decide ((na yt k i : Int) = nb yt (gt ms (k : Int)) n) = false := decide_eq_false (by omega)
         simp (disch := omega) only [go_sem, ↓reduceIte, hgl, d1]
         rw [decide_eq_false e1, Bool.false_and, Bool.false_and] at p2
         rw [p2, Bool.false_and] at q2
         rw [q2]
      ·obtain rfl : t = ae.length + be.length := by omega
       rw [Nat.sub_self] at p2
       simp only [List.range'_zero, List.all_nil] at p2
       rw [p2, Bool.true_and] at q2
       simp (disch := omega) only [go_sem, ↓reduceIte]
       exact ⟨k + 1, by simp, ⟨by omega, by rw [q2, hB]⟩, by omega⟩
    ·obtain rfl : k = i + 1 := by omega
     rw [Nat.sub_self] at q2
     simp only [List.range'_zero, List.all_nil] at q2
     subst q2
     simp (disch := omega) only [go_sem, ↓reduceIte]
end
@[go_sem] def c_r08_maps_r0 : LL := [qB 5 0,qB 6 1,qn 10 1]
@[go_sem] def c_r08_maps_r1 : LL := [qm 13 2,qz 14 13,qf 15 0 5,ql 16 1 15,qz 17 16,qo .eql 18 14 17]
@[go_sem] def c_r08_maps_r2 : LL := [qm 19 4,⟨some 20,.buildSl 1 8 (.int .i64 (0)) 0 [],none⟩,qm 21 2,qp 22 1 8 20 21,⟨some 23,.buildSl 1 24 (.lst 1 []) 1 [(0,.t 22)],none⟩,qp 24 1 24 19 23,qm 10 24]
@[go_sem] def c_r08_maps_r3 : LL := [qi 11 0]
@[go_sem] def c_r08_maps_r4 : LL := [qm 25 11,qf 26 0 6,ql 27 1 26,qz 28 27,qo .lss 29 25 28,qm 30 29,qg 30 true (qm 31 4),qg 30 true (qz 32 31),qg 30 true (qm 33 3),qg 30 true (qo .lss 34 32 33),qP 35 30 34]
@[go_sem] def c_r08_maps_r5 : LL := [⟨some 38,.buildSl 1 8 (.int .i64 (0)) 0 [],none⟩,qm 39 2,qp 40 1 8 38 39,qm 41 11,⟨some 42,.buildSl 1 8 (.int .i64 (0)) 1 [(0,.t 41)],none⟩,qp 43 1 8 40 42,qm 12 43]
@[go_sem] def c_r08_maps_r6 (F : Fn) : LL := [qL 44 2 5,qL 45 2 6,qm 46 12,qc 47 (F "r08.fits") [.t 44,.t 45,.t 46]]
@[go_sem] def c_r08_maps_r7 (F : Fn) : LL := [qL 48 2 5,qL 49 2 6,qm 50 12,qm 51 3,qm 52 4,⟨some 53,.call (F "r08.maps") [.t 48,.t 49,.t 50,.t 51,.t 52] [.rd,.rd,.rd,.rd,.ow],none⟩,qm 4 53]
@[go_sem] def c_r08_maps_r8 : LL := [qm 36 11,qk .add 37 36 1,qm 11 37]
def c_r08_maps_b9 (F : Fn) : LC := (.seq (.seq (.reg c_r08_maps_r4 [2,3,4,5,6,11,35]) (.cond (.t 35) .skip (.exit 0))) (.seq (.block 1 (.seq (.reg c_r08_maps_r5 [2,3,4,5,6,11,12]) (.seq (.reg (c_r08_maps_r6 F) [2,3,4,5,6,11,12,47]) (.cond (.t 47) (.reg (c_r08_maps_r7 F) [2,3,4,5,6,11]) .skip)))) (.reg c_r08_maps_r8 [2,3,4,5,6,11])))
@[go_sem] def c_r08_maps_r10 : LL := [qm 54 4,qm 10 54]
@[go_sem] def c_r08_maps (F : Fn) : LC := (.seq (.reg c_r08_maps_r0 [2,3,4,5,6]) (.seq (.seq (.reg c_r08_maps_r1 [2,3,4,5,6,18]) (.cond (.t 18) (.seq (.reg c_r08_maps_r2 [10]) .ret) .skip)) (.seq (.seq (.reg c_r08_maps_r3 [2,3,4,5,6,11]) (.block 0 (.loop [2,3,4,5,6,11] (c_r08_maps_b9 F)))) (.seq (.reg c_r08_maps_r10 [10]) .ret))))
def h_r08_maps : Hints := hn [] [(0,[2,3,4,5,6]),(1,[2,3,4,5,6,18]),(2,[10]),(3,[2,3,4,5,6,11]),(4,[2,3,4,5,6,11,35]),(5,[2,3,4,5,6,11]),(6,[2,3,4,5,6,11,12]),(7,[2,3,4,5,6,11,12,47]),(8,[2,3,4,5,6,11]),(9,[10])] [(4,[2,3,4,5,6,11])]
@[go_sem] def c_r08_edges_r0 : LL := [qB 6 0,qB 7 1,qn 12 1]
@[go_sem] def c_r08_edges_r1 : LL := [qm 18 3,qz 19 18,qf 20 1 6,ql 21 1 20,qz 22 21,qo .eql 23 19 22]
@[go_sem] def c_r08_edges_r2 : LL := [qm 24 5,⟨some 25,.buildSl 1 8 (.int .i64 (0)) 0 [],none⟩,qm 26 3,qp 27 1 8 25 26,⟨some 28,.buildSl 1 24 (.lst 1 []) 1 [(0,.t 27)],none⟩,qp 29 1 24 24 28,qm 12 29]
@[go_sem] def c_r08_edges_r3 : LL := [qf 30 1 6,ql 31 1 30,qm 32 3,qz 33 32,qd 34 3 31 33,qL 35 3 34,qa 13 [.int .i64 (0),.int .i64 (0),.int .i64 (0)],qs 3 13 35]
@[go_sem] def c_r08_edges_r4 : LL := [qf 36 0 13,ql 37 1 36,qm 38 2,qf 39 1 13,ql 40 1 39,qd 41 1 38 40,ql 42 1 41,qm 43 2,qf 44 2 13,ql 45 1 44,qd 46 1 43 45,ql 47 1 46,
 qu 48 [.int .i64 (0),.int .i64 (0),.int .i64 (0)] [(0,1,.t 37),(1,1,.t 42),(2,1,.t 47)],qa 14 [.int .i64 (0),.int .i64 (0),.int .i64 (0)],qs 3 14 48]
@[go_sem] def c_r08_edges_r5 : LL := [qi 15 0]
@[go_sem] def c_r08_edges_r6 : LL := [qm 49 15,qf 50 1 7,ql 51 1 50,qz 52 51,qo .lss 53 49 52,qm 54 53,qg 54 true (qm 55 5),qg 54 true (qz 56 55),qg 54 true (qm 57 4),qg 54 true (qo .lss 58 56 57),qP 59 54 58]
@[go_sem] def c_r08_edges_r7 : LL := [qb 16 false]
@[go_sem] def c_r08_edges_r8 : LL := [qi 17 0]
@[go_sem] def c_r08_edges_r9 : LL := [qm 62 17,qm 63 3,qz 64 63,qo .lss 65 62 64]
@[go_sem] def c_r08_edges_r10 : LL := [qm 68 16,qm 69 68,qg 69 false (qm 70 3),qg 69 false (qm 71 17),qg 69 false (qd 72 1 70 71),qg 69 false (ql 73 1 72),qg 69 false (qm 74 15),qg 69 false (qo .eql 75 73 74),
 qQ 76 69 75,qm 16 76]
@[go_sem] def c_r08_edges_r11 : LL := [qm 66 17,qk .add 67 66 1,qm 17 67]
def c_r08_edges_b12 : LC := (.seq (.seq (.reg c_r08_edges_r9 [2,3,4,5,6,7,14,15,16,17,65]) (.cond (.t 65) .skip (.exit 2))) (.seq (.block 3 (.reg c_r08_edges_r10 [2,3,4,5,6,7,14,15,16,17])) (.reg c_r08_edges_r11 [2,3,4,5,6,7,14,15,16,17])))
@[go_sem] def c_r08_edges_r13 : LL := [qm 77 16,qv 78 77,qm 79 78,qg 79 true (qf 80 1 7),qg 79 true (ql 81 1 80),qg 79 true (qm 82 15),qg 79 true (qd 83 3 81 82),qg 79 true (qL 84 3 83),qg 79 true (qL 85 3 14),
 ⟨some 86,.eqA 3 false (.t 84) (.t 85),some (79,true)⟩,qP 87 79 86]
@[go_sem] def c_r08_edges_r14 (F : Fn) : LL := [qL 88 2 6,qL 89 2 7,qm 90 2,⟨some 91,.buildSl 1 8 (.int .i64 (0)) 0 [],none⟩,qm 92 3,qp 93 1 8 91 92,qm 94 15,⟨some 95,.buildSl 1 8 (.int .i64 (0)) 1 [(0,.t 94)],none⟩,
 qp 96 1 8 93 95,qm 97 4,qm 98 5,⟨some 99,.call (F "r08.edges") [.t 88,.t 89,.t 90,.t 96,.t 97,.t 98] [.rd,.rd,.rd,.rd,.rd,.ow],none⟩,qm 5 99]
@[go_sem] def c_r08_edges_r15 : LL := [qm 60 15,qk .add 61 60 1,qm 15 61]
def c_r08_edges_b16 (F : Fn) : LC := (.seq (.seq (.reg c_r08_edges_r6 [2,3,4,5,6,7,14,15,59]) (.cond (.t 59) .skip (.exit 0))) (.seq (.block 1 (.seq (.reg c_r08_edges_r7 [2,3,4,5,6,7,14,15,16]) (.seq (.seq (.reg c_r08_edges_r8 [2,3,4,5,6,7,14,15,16,17]) (.block 2 (.loop [2,3,4,5,6,7,14,15,16,17] c_r08_edges_b12))) (.seq (.dreg [] c_r08_edges_r13 [2,3,4,5,6,7,14,15,87]) (.cond (.t 87) (.dreg [(0,none,[],true),(1,none,[],true),(5,none,[0,1],true),(7,(some 64),[0,1,5],false),(8,none,[0,1],false)] (c_r08_edges_r14 F) [2,3,4,5,6,7,14,15]) .skip))))) (.reg c_r08_edges_r15 [2,3,4,5,6,7,14,15])))
@[go_sem] def c_r08_edges_r17 : LL := [qm 100 5,qm 12 100]
@[go_sem] def c_r08_edges (F : Fn) : LC := (.seq (.reg c_r08_edges_r0 [2,3,4,5,6,7]) (.seq (.seq (.reg c_r08_edges_r1 [2,3,4,5,6,7,23]) (.cond (.t 23) (.seq (.reg c_r08_edges_r2 [12]) .ret) .skip)) (.seq (.reg c_r08_edges_r3 [2,3,4,5,6,7,13]) (.seq (.dreg [] c_r08_edges_r4 [2,3,4,5,6,7,14]) (.seq (.seq (.reg c_r08_edges_r5 [2,3,4,5,6,7,14,15]) (.block 0 (.loop [2,3,4,5,6,7,14,15] (c_r08_edges_b16 F)))) (.seq (.reg c_r08_edges_r17 [12]) .ret))))))
def h_r08_edges : Hints := hn [] [(0,[2,3,4,5,6,7]),(1,[2,3,4,5,6,7,23]),(2,[12]),(3,[2,3,4,5,6,7,13]),(4,[2,3,4,5,6,7,14]),(5,[2,3,4,5,6,7,14,15]),(6,[2,3,4,5,6,7,14,15,59]),(7,[2,3,4,5,6,7,14,15]),(8,[2,3,4,5,6,7,14,15,16]),(9,[2,3,4,5,6,7,14,15,16,17]),(10,[2,3,4,5,6,7,14,15,16,17,65]),(11,[2,3,4,5,6,7,14,15,16,17]),(12,[2,3,4,5,6,7,14,15,16,17]),(13,[2,3,4,5,6,7,14,15,87]),(14,[2,3,4,5,6,7,14,15]),(15,[12])] [(6,[2,3,4,5,6,7,14,15]),(10,[2,3,4,5,6,7,14,15,16,17])]
def mapR (a b : G) (most : Int) : Nat → List Int → List (List Int) → List (List Int)
 | 0, ns, out => out ++ [ns]
 | k + 1, ns, out => (List.range b.n.length).foldl (fun o (i : Nat) => if (o.length : Int) < most then (if fitsR a b ns i then mapR a b most k (ns ++ [(i : Int)]) o else o) else o) out
def edgR (a b : G) (ns : List Int) (most : Int) : Nat → List Int → List (List Int) → List (List Int)
 | 0, es, out => out ++ [es]
 | k + 1, es, out => (List.range b.e.length).foldl (fun o (i : Nat) => if (o.length : Int) < most then (if wnt a b ns es i then edgR a b ns most k (es ++ [(i : Int)]) o else o) else o) out
section
variable (P : Program) (F : String → Nat)
def KA_r08_maps (n : Nat) : Prop := ∀ (a b : G) (ns : List Int) (most : Int) (out : List (List Int)), InG a → InG b → ns.length + n = a.n.length → (∀ x ∈ ns, 0 ≤ x ∧ x < b.n.length) → out.length < most → most ≤ 3000 →
 FC P (F "r08.maps") [gD a, gD b, .lst 1 (ints ns), .int .i64 most, .arr 1 (iis out)] (.arr 1 (iis (mapR a b most n ns out))) []
def K_r08_maps : Prop := ∀ n, KA_r08_maps P F n
def KA_r08_edges (n : Nat) : Prop := ∀ (a b : G) (ns es : List Int) (most : Int) (out : List (List Int)), InG a → InG b → ns.length = a.n.length → es.length + n = a.e.length → out.length < most → most ≤ 3000 →
 FC P (F "r08.edges") [gD a, gD b, .lst 1 (ints ns), .lst 1 (ints es), .int .i64 most, .arr 1 (iis out)] (.arr 1 (iis (edgR a b ns most n es out))) []
def K_r08_edges : Prop := ∀ n, KA_r08_edges P F n
end
section
variable {α : Type}
theorem mapR_len (a b : G) (most : Int) : ∀ (k : Nat) (ns : List Int) (out : List (List Int)), (out.length : Int) < most → ((mapR a b most k ns out).length : Int) ≤ most
 | 0, ns, out, h => by simp only [mapR, List.length_append, List.length_cons, List.length_nil]; omega
 | k + 1, ns, out, h => by
  simp only [mapR]
  refine foldl_lenI (fun o n ho => ?_) _ _ (by omega)
  split
  ·split
   ·exact mapR_len a b most k _ _ (by assumption)
   ·exact ho
  ·exact ho
theorem edgR_len (a b : G) (ns : List Int) (most : Int) : ∀ (k : Nat) (es : List Int) (out : List (List Int)), (out.length : Int) < most → ((edgR a b ns most k es out).length : Int) ≤ most
 | 0, ns, out, h => by simp only [edgR, List.length_append, List.length_cons, List.length_nil]; omega
 | k + 1, ns, out, h => by
  simp only [edgR]
  refine foldl_lenI (fun o n ho => ?_) _ _ (by omega)
  split
  ·split
   ·exact edgR_len a b _ most k _ _ (by assumption)
   ·exact ho
  ·exact ho
theorem foldl_full {β γ : Type} {f : List β → γ → List β} {m : Int} (hf : ∀ o x, ¬ (o.length : Int) < m → f o x = o) : ∀ (l : List γ) (o : List β), ¬ (o.length : Int) < m → l.foldl f o = o
 | [], o, h => rfl
 | x :: l, o, h => by rw [List.foldl_cons, hf o x h]; exact foldl_full hf l o h
theorem foldl_split {β : Type} (f : β → Nat → β) (o : β) {N i : Nat} (h : i ≤ N) : (List.range N).foldl f o = (List.range' i (N - i)).foldl f (((List.range N).take i).foldl f o) := by
 rw [← List.foldl_append]
 congr 1
 have := List.range'_append_1 (s := 0) (m := i) (n := N - i)
 rw [Nat.zero_add, show i + (N - i) = N by omega] at this
 rw [List.take_range, show min i N = i by omega, List.range_eq_range', List.range_eq_range', this]
end
section
variable {P : Program} {F : String → Nat} {α : Type}
theorem w_r08_maps (hf : K_r08_fits P F) (n : Nat) (ih : ∀ m, m < n → KA_r08_maps P F m) (a b : G) (ns : List Int) (most : Int) (out : List (List Int)) (va : InG a) (vb : InG b) (h1 : ns.length + n = a.n.length) (h2 : ∀ x ∈ ns, 0 ≤ x ∧ x < b.n.length) (h3 : out.length < most) (h4 : most ≤ 3000) :
  W P (c_r08_maps F) (Done [.t 10] [] (.arr 1 (iis (mapR a b most n ns out))) []) (init [gD a, gD b, .lst 1 (ints ns), .int .i64 most, .arr 1 (iis out)]) := by
 refine W_of ?_
 have va1 := va.1; have vb1 := vb.1
 cases n with
 | zero =>
  have hE : mapR a b most 0 ns out = out ++ [ns] := rfl
  generalize mapR a b most 0 ns out = q at *
  subst hE
  obtain ⟨an, ae⟩ := a
  obtain ⟨bn, be⟩ := b
  simp only [gD] at *
  simp (disch := omega) only [go_sem, ↓reduceIte]
  refine bran_dec (fun c => ?_) (fun c => ?_)
  ·simp (disch := omega) only [go_sem, ↓reduceIte]
  ·omega
 | succ n =>
  have hE : mapR a b most (n + 1) ns out = (List.range b.n.length).foldl (fun o (i : Nat) => if (o.length : Int) < most then (if fitsR a b ns i then mapR a b most n (ns ++ [(i : Int)]) o else o) else o) out := rfl
  obtain ⟨acc, hacc⟩ : ∃ acc : Nat → List (List Int), ∀ i, acc i = ((List.range b.n.length).take i).foldl (fun o (i : Nat) => if (o.length : Int) < most then (if fitsR a b ns i then mapR a b most n (ns ++ [(i : Int)]) o else o) else o) out := ⟨_, fun _ => rfl⟩
  have hacc0 : acc 0 = out := by rw [hacc]; rfl
  have hful : ∀ i, i ≤ b.n.length → ¬ ((acc i).length : Int) < most → mapR a b most (n + 1) ns out = acc i := fun i hi h => by
   rw [hE, foldl_split _ _ hi, ← hacc, foldl_full (fun o x h => if_neg h) _ _ h]
  have haccn : mapR a b most (n + 1) ns out = acc b.n.length := by
   rw [hE, hacc, List.take_of_length_le (by simp)]
  have haccs : ∀ i, i < b.n.length → ((acc i).length : Int) < most → acc (i + 1) = if fitsR a b ns i then mapR a b most n (ns ++ [(i : Int)]) (acc i) else acc i := fun i hi h => by
   rw [hacc, foldl_takeR _ _ _ _ hi, ← hacc, if_pos h]
  have hlen : ∀ i, ((acc i).length : Int) ≤ most := fun i => by
   rw [hacc]
   refine foldl_lenI (fun o k ho => ?_) _ _ (by omega)
   split
   ·split
    ·exact mapR_len a b most n _ o (by assumption)
    ·exact ho
   ·exact ho
  have hrec : ∀ i : Nat, i < b.n.length → ((acc i).length : Int) < most → fitsR a b ns i = true → FC P (F "r08.maps") [gD a, gD b, .lst 1 (ints (ns ++ [(i : Int)])), .int .i64 most, .arr 1 (iis (acc i))] (.arr 1 (iis (acc (i + 1)))) [] := fun i hi hl hw => by
   rw [haccs i hi hl, if_pos hw]
   refine ih n (by omega) a b (ns ++ [(i : Int)]) most (acc i) va vb (by simp; omega) (fun x hx => ?_) hl h4
   rcases List.mem_append.1 hx with hx | hx
   ·exact h2 x hx
   ·simp only [List.mem_singleton] at hx; omega
  have hnw : ∀ i : Nat, i < b.n.length → ((acc i).length : Int) < most → fitsR a b ns i = false → acc (i + 1) = acc i := fun i hi hl hw => by
   rw [haccs i hi hl, if_neg (by simp [hw])]
  have rf := fun (i : Nat) (hi : i < b.n.length) => hf a b ns i va vb (by omega) h2 (by omega) (by omega)
  generalize mapR a b most (n + 1) ns out = q at *
  generalize fitsR a b ns = wn at *
  clear haccs hacc ih hE
  obtain ⟨an, ae⟩ := a
  obtain ⟨bn, be⟩ := b
  simp only [gD] at *
  simp (disch := omega) only [go_sem, ↓reduceIte]
  refine bran_dec (fun k0 => ?_) (fun k0 => ?_)
  ·omega
  ·simp (disch := omega) only [go_sem, ↓reduceIte]
   refine W_loop (fun i : Nat => ⟨[(2, .lst 1 (ints ns)), (3, .int .i64 most), (4, .sl 0 0 (acc i).length), (5, .pt 1 0), (6, .pt 2 0), (11, .int .i64 i)], [(0, .arr 1 (iis (acc i))), (1, .box [.lst 1 (ints an), .lst 3 (eds ae)]), (2, .box [.lst 1 (ints bn), .lst 3 (eds be)])], 3⟩) (fun i => i ≤ bn.length) (fun i => bn.length - i) 0 ?_ ?_ ?_
   ·simp (disch := omega) only [go_sem, ↓reduceIte, hacc0]
    rfl
   ·omega
   ·intro i hi
    have hli := hlen i
    have hli2 := hlen (i + 1)
    have hfi := hful i hi
    by_cases c1 : i < bn.length
    ·have d1 : decide ((i : Int) < bn.length) = true := decide_eq_true (by omega)
     have rfi := rf i c1
     have hr := hrec i c1
     have hno := hnw i c1
     by_cases c2 : ((acc i).length : Int) < most
     ·have d2 := decide_eq_true c2
      replace hr := hr c2
      replace hno := hno c2
      generalize wn i = u at *
      simp (disch := omega) only [go_sem, ↓reduceIte, c_r08_maps_b9, d1, d2]
      refine call_by rfi ?_
      cases u with
      | false =>
       replace hno := hno rfl
       simp (disch := omega) only [go_sem, ↓reduceIte, d1, d2]
       exact ⟨i + 1, by simp [hno], by omega, by omega⟩
      | true =>
       replace hr := hr rfl
       simp (disch := omega) only [go_sem, ↓reduceIte, d1, d2]
       refine call_by hr ?_
       cases hfl : (iis (acc (i + 1))).all D.flatE
       all_goals
        simp (disch := omega) only [go_sem, ↓reduceIte, hfl]
        exact ⟨i + 1, by simp, by omega, by omega⟩
     ·have d2 := decide_eq_false c2
      replace hfi := hfi c2
      subst hfi
      simp (disch := omega) only [go_sem, ↓reduceIte, c_r08_maps_b9, d1, d2]
    ·have d1 : decide ((i : Int) < bn.length) = false := decide_eq_false (by omega)
     obtain rfl : i = bn.length := by omega
     subst haccn
     simp (disch := omega) only [go_sem, ↓reduceIte, c_r08_maps_b9, d1]
theorem w_r08_edges (n : Nat) (ih : ∀ m, m < n → KA_r08_edges P F m) (a b : G) (ns es : List Int) (most : Int) (out : List (List Int)) (va : InG a) (vb : InG b) (h1 : ns.length = a.n.length) (h2 : es.length + n = a.e.length) (h3 : out.length < most) (h4 : most ≤ 3000) :
  W P (c_r08_edges F) (Done [.t 12] [] (.arr 1 (iis (edgR a b ns most n es out))) []) (init [gD a, gD b, .lst 1 (ints ns), .lst 1 (ints es), .int .i64 most, .arr 1 (iis out)]) := by
 refine W_of ?_
 obtain ⟨a1, a2, a4⟩ := va
 obtain ⟨b1, b2, b4⟩ := vb
 cases n with
 | zero =>
  have hE : edgR a b ns most 0 es out = out ++ [es] := rfl
  generalize edgR a b ns most 0 es out = q at *
  subst hE
  obtain ⟨an, ae⟩ := a
  obtain ⟨bn, be⟩ := b
  simp only [gD] at *
  simp (disch := omega) only [go_sem, ↓reduceIte]
  refine bran_dec (fun c => ?_) (fun c => ?_)
  ·simp (disch := omega) only [go_sem, ↓reduceIte]
  ·omega
 | succ n =>
  have hE : edgR a b ns most (n + 1) es out = (List.range b.e.length).foldl (fun o (i : Nat) => if (o.length : Int) < most then (if wnt a b ns es i then edgR a b ns most n (es ++ [(i : Int)]) o else o) else o) out := rfl
  obtain ⟨acc, hacc⟩ : ∃ acc : Nat → List (List Int), ∀ i, acc i = ((List.range b.e.length).take i).foldl (fun o (i : Nat) => if (o.length : Int) < most then (if wnt a b ns es i then edgR a b ns most n (es ++ [(i : Int)]) o else o) else o) out := ⟨_, fun _ => rfl⟩
  have hacc0 : acc 0 = out := by rw [hacc]; rfl
  have hful : ∀ i, i ≤ b.e.length → ¬ ((acc i).length : Int) < most → edgR a b ns most (n + 1) es out = acc i := fun i hi h => by
   rw [hE, foldl_split _ _ hi, ← hacc, foldl_full (fun o x h => if_neg h) _ _ h]
  have haccn : edgR a b ns most (n + 1) es out = acc b.e.length := by
   rw [hE, hacc, List.take_of_length_le (by simp)]
  have haccs : ∀ i, i < b.e.length → ((acc i).length : Int) < most → acc (i + 1) = if wnt a b ns es i then edgR a b ns most n (es ++ [(i : Int)]) (acc i) else acc i := fun i hi h => by
   rw [hacc, foldl_takeR _ _ _ _ hi, ← hacc, if_pos h]
  have hlen : ∀ i, ((acc i).length : Int) ≤ most := fun i => by
   rw [hacc]
   refine foldl_lenI (fun o k ho => ?_) _ _ (by omega)
   split
   ·split
    ·exact edgR_len a b ns most n _ o (by assumption)
    ·exact ho
   ·exact ho
  have hrec : ∀ i : Nat, i < b.e.length → ((acc i).length : Int) < most → wnt a b ns es i = true → FC P (F "r08.edges") [gD a, gD b, .lst 1 (ints ns), .lst 1 (ints (es ++ [(i : Int)])), .int .i64 most, .arr 1 (iis (acc i))] (.arr 1 (iis (acc (i + 1)))) [] := fun i hi hl hw => by
   rw [haccs i hi hl, if_pos hw]
   exact ih n (by omega) a b ns (es ++ [(i : Int)]) most (acc i) ⟨a1, a2, a4⟩ ⟨b1, b2, b4⟩ h1 (by simp; omega) hl h4
  have hnw : ∀ i : Nat, i < b.e.length → ((acc i).length : Int) < most → wnt a b ns es i = false → acc (i + 1) = acc i := fun i hi hl hw => by
   rw [haccs i hi hl, if_neg (by simp [hw])]
  have hw : ∀ i : Nat, wnt a b ns es i = ((decide ((gt b.e (i : Int)).t = (gt a.e es.length).t) && (decide ((gt b.e (i : Int)).f = gt ns (gt a.e es.length).f) && decide ((gt b.e (i : Int)).o = gt ns (gt a.e es.length).o))) && !(es.any fun x => decide (x = (i : Int)))) := fun i => by
   have : decide ((i : Int) ∈ es) = es.any fun x => decide (x = (i : Int)) := by
    rw [Bool.eq_iff_iff, decide_eq_true_eq, List.any_eq_true]
    exact ⟨fun h => ⟨_, h, decide_eq_true rfl⟩, fun ⟨x, h, e⟩ => of_decide_eq_true e ▸ h⟩
   rw [← this]; rfl
  have hx := a4 _ (gt_mem (l := a.e) (j := es.length) (by omega) (by omega))
  generalize edgR a b ns most (n + 1) es out = q at *
  generalize wnt a b ns es = wn at *
  clear haccs hacc ih hE
  obtain ⟨an, ae⟩ := a
  obtain ⟨bn, be⟩ := b
  simp only [gD] at *
  obtain ⟨⟨xt, xf, xo⟩, hy⟩ : ∃ x, gt ae (es.length : Int) = x := ⟨_, rfl⟩
  rw [hy] at hx
  simp only [hy] at hw
  simp only at hx
  simp (disch := omega) only [go_sem, ↓reduceIte, hy]
  refine bran_dec (fun k0 => ?_) (fun k0 => ?_)
  ·omega
  ·simp (disch := omega) only [go_sem, ↓reduceIte, hy]
   refine W_loop (fun i : Nat => ⟨[(2, .lst 1 (ints ns)), (3, .lst 1 (ints es)), (4, .int .i64 most), (5, .sl 0 0 (acc i).length), (6, .pt 1 0), (7, .pt 2 0), (14, .pt 3 0), (15, .int .i64 i)], [(0, .arr 1 (iis (acc i))), (1, .box [.lst 1 (ints an), .lst 3 (eds ae)]), (2, .box [.lst 1 (ints bn), .lst 3 (eds be)]), (3, .box [.int .i64 xt, .int .i64 (gt ns xf), .int .i64 (gt ns xo)])], 4⟩) (fun i => i ≤ be.length) (fun i => be.length - i) 0 ?_ ?_ ?_
   ·simp (disch := omega) only [go_sem, ↓reduceIte, hacc0]
    rfl
   ·omega
   ·intro i hi
    have hli := hlen i
    have hli2 := hlen (i + 1)
    have hfi := hful i hi
    by_cases c1 : i < be.length
    ·have d1 : decide ((i : Int) < be.length) = true := decide_eq_true (by omega)
     have hr := hrec i c1
     have hno := hnw i c1
     by_cases c2 : ((acc i).length : Int) < most
     ·have d2 := decide_eq_true c2
      replace hr := hr c2
      replace hno := hno c2
      have hwi := hw i
      simp (disch := omega) only [go_sem, ↓reduceIte, c_r08_edges_b16, d1, d2]
      refine W_loop (fun s : Nat × Bool => ⟨[(2, .lst 1 (ints ns)), (3, .lst 1 (ints es)), (4, .int .i64 most), (5, .sl 0 0 (acc i).length), (6, .pt 1 0), (7, .pt 2 0), (14, .pt 3 0), (15, .int .i64 i), (16, .bool s.2), (17, .int .i64 s.1)], [(0, .arr 1 (iis (acc i))), (1, .box [.lst 1 (ints an), .lst 3 (eds ae)]), (2, .box [.lst 1 (ints bn), .lst 3 (eds be)]), (3, .box [.int .i64 xt, .int .i64 (gt ns xf), .int .i64 (gt ns xo)])], 4⟩) (fun s => s.1 ≤ es.length ∧ s.2 = (es.take s.1).any fun x => decide (x = (i : Int))) (fun s => es.length - s.1) (0, false) ?_ ?_ ?_
      ·simp (disch := omega) only [go_sem, ↓reduceIte]
       rfl
      ·exact ⟨Nat.zero_le _, by simp⟩
      ·rintro ⟨j, u⟩ ⟨p1, p2⟩
       simp only at p1 p2
       simp (disch := omega) only [go_sem, ↓reduceIte, c_r08_edges_b12]
       refine bran_dec (fun f => ?_) (fun f => ?_)
       ·have p3 : (es.take (j + 1)).any (fun x => decide (x = (i : Int))) = (u || decide (gt es (j : Int) = (i : Int))) := by
         rw [take_gt (by omega), List.any_append, ← p2]; simp
        cases u
        ·rw [Bool.false_or] at p3
         cases he : decide (gt es (j : Int) = (i : Int)) <;> rw [he] at p3 <;> simp (disch := omega) only [go_sem, ↓reduceIte, he]
         ·exact ⟨(j + 1, false), by simp, ⟨by simp only; omega, p3.symm⟩, by simp only; omega⟩
         ·exact ⟨(j + 1, true), by simp, ⟨by simp only; omega, p3.symm⟩, by simp only; omega⟩
        ·rw [Bool.true_or] at p3
         simp (disch := omega) only [go_sem, ↓reduceIte]
         exact ⟨(j + 1, true), by simp, ⟨by simp only; omega, p3.symm⟩, by simp only; omega⟩
       ·obtain rfl : j = es.length := by omega
        rw [List.take_length] at p2
        rw [← p2] at hwi
        obtain ⟨⟨yt, yf, yo⟩, hz⟩ : ∃ x, gt be (i : Int) = x := ⟨_, rfl⟩
        rw [hz] at hwi
        simp only at hwi
        cases u with
        | true =>
         rw [Bool.not_true, Bool.and_false] at hwi
         replace hno := hno hwi
         simp (disch := omega) only [go_sem, ↓reduceIte, hz]
         exact ⟨i + 1, by simp [hno], by omega, by omega⟩
        | false =>
         rw [Bool.not_false, Bool.and_true] at hwi
         cases he : (decide (yt = xt) && (decide (yf = gt ns xf) && decide (yo = gt ns xo))) with
         | false =>
          rw [he] at hwi
          replace hno := hno hwi
          simp (disch := omega) only [go_sem, ↓reduceIte, hz, he]
          exact ⟨i + 1, by simp [hno], by omega, by omega⟩
         | true =>
          rw [he] at hwi
          replace hr := hr hwi
          simp (disch := omega) only [go_sem, ↓reduceIte, hz, he]
          refine call_by hr ?_
          cases hfl : (iis (acc (i + 1))).all D.flatE
          all_goals
           simp (disch := omega) only [go_sem, ↓reduceIte, hfl]
           exact ⟨i + 1, by simp, by omega, by omega⟩
     ·have d2 := decide_eq_false c2
      replace hfi := hfi c2
      subst hfi
      simp (disch := omega) only [go_sem, ↓reduceIte, c_r08_edges_b16, d1, d2]
    ·have d1 : decide ((i : Int) < be.length) = false := decide_eq_false (by omega)
     obtain rfl : i = be.length := by omega
     subst haccn
     simp (disch := omega) only [go_sem, ↓reduceIte, c_r08_edges_b16, d1]
end
@[go_sem] def c_r08_all_r0 : LL := [qB 3 0,qB 4 1,qn 6 2]
@[go_sem] def c_r08_all_r1 : LL := [qn 7 2]
@[go_sem] def c_r08_all_r2 : LL := [qf 12 0 3,ql 13 1 12,qz 14 13,qf 15 0 4,ql 16 1 15,qz 17 16,qo .neq 18 14 17,qm 19 18,qg 19 false (qf 20 1 3),qg 19 false (ql 21 1 20),qg 19 false (qz 22 21),
 qg 19 false (qf 23 1 4),qg 19 false (ql 24 1 23),qg 19 false (qz 25 24),qg 19 false (qo .neq 26 22 25),qQ 27 19 26]
@[go_sem] def c_r08_all_r3 : LL := [qn 6 2]
@[go_sem] def c_r08_all_r4 (F : Fn) : LL := [qL 28 2 3,qL 29 2 4,qm 30 2,⟨some 31,.call (F "r08.maps") [.t 28,.t 29,.k (.nl 0),.t 30,.k (.nl 0)] [.rd,.rd,.rd,.rd,.ow],none⟩,qm 8 31]
@[go_sem] def c_r08_all_r5 : LL := [qi 9 0]
@[go_sem] def c_r08_all_r6 : LL := [qm 32 9,qm 33 8,qz 34 33,qo .lss 35 32 34]
@[go_sem] def c_r08_all_r7 (F : Fn) : LL := [qL 38 2 3,qL 39 2 4,qm 40 8,qm 41 9,qd 42 1 40 41,ql 43 1 42,qm 44 2,qm 45 7,qz 46 45,qo .sub 47 44 46,
 ⟨some 48,.call (F "r08.edges") [.t 38,.t 39,.t 43,.k (.nl 0),.t 47,.k (.nl 0)] [.rd,.rd,.rd,.rd,.rd,.ow],none⟩,qm 10 48]
@[go_sem] def c_r08_all_r8 : LL := [qi 11 0]
@[go_sem] def c_r08_all_r9 : LL := [qm 49 11,qm 50 10,qz 51 50,qo .lss 52 49 51]
@[go_sem] def c_r08_all_r10 : LL := [qm 55 7,qm 56 8,qm 57 9,qd 58 1 56 57,ql 59 1 58,qm 60 10,qm 61 11,qd 62 1 60 61,ql 63 1 62,qu 64 [.nl 1,.nl 1] [(0,1,.t 59),(1,1,.t 63)],
 ⟨some 65,.buildSl 2 48 (.agg [.lst 1 [],.lst 1 []]) 1 [(0,.t 64)],none⟩,qp 66 2 48 55 65,qm 7 66]
@[go_sem] def c_r08_all_r11 : LL := [qm 53 11,qk .add 54 53 1,qm 11 54]
def c_r08_all_b12 : LC := (.seq (.seq (.reg c_r08_all_r9 [2,3,4,7,8,9,10,11,52]) (.cond (.t 52) .skip (.exit 2))) (.seq (.block 3 (.dreg [] c_r08_all_r10 [2,3,4,7,8,9,10,11])) (.reg c_r08_all_r11 [2,3,4,7,8,9,10,11])))
@[go_sem] def c_r08_all_r13 : LL := [qm 67 7,qz 68 67,qm 69 2,qo .geq 70 68 69]
@[go_sem] def c_r08_all_r14 : LL := [qm 71 7,qm 6 71]
@[go_sem] def c_r08_all_r15 : LL := [qm 36 9,qk .add 37 36 1,qm 9 37]
def c_r08_all_b16 (F : Fn) : LC := (.seq (.seq (.reg c_r08_all_r6 [2,3,4,7,8,9,35]) (.cond (.t 35) .skip (.exit 0))) (.seq (.block 1 (.seq (.dreg [] (c_r08_all_r7 F) [2,3,4,7,8,9,10]) (.seq (.seq (.reg c_r08_all_r8 [2,3,4,7,8,9,10,11]) (.block 2 (.loop [2,3,4,7,8,9,10,11] c_r08_all_b12))) (.seq (.reg c_r08_all_r13 [2,3,4,7,8,9,70]) (.cond (.t 70) (.seq (.reg c_r08_all_r14 [6]) .ret) .skip))))) (.reg c_r08_all_r15 [2,3,4,7,8,9])))
@[go_sem] def c_r08_all_r17 : LL := [qm 72 7,qm 6 72]
@[go_sem] def c_r08_all (F : Fn) : LC := (.seq (.reg c_r08_all_r0 [2,3,4]) (.seq (.reg c_r08_all_r1 [2,3,4,7]) (.seq (.seq (.reg c_r08_all_r2 [2,3,4,7,27]) (.cond (.t 27) (.seq (.reg c_r08_all_r3 [6]) .ret) .skip)) (.seq (.reg (c_r08_all_r4 F) [2,3,4,7,8]) (.seq (.seq (.reg c_r08_all_r5 [2,3,4,7,8,9]) (.block 0 (.loop [2,3,4,7,8,9] (c_r08_all_b16 F)))) (.seq (.reg c_r08_all_r17 [6]) .ret))))))
def h_r08_all : Hints := hn [] [(0,[2,3,4]),(1,[2,3,4,7]),(2,[2,3,4,7,27]),(3,[6]),(4,[2,3,4,7,8]),(5,[2,3,4,7,8,9]),(6,[2,3,4,7,8,9,35]),(7,[2,3,4,7,8,9]),(8,[2,3,4,7,8,9,10]),(9,[2,3,4,7,8,9,10,11]),(10,[2,3,4,7,8,9,10,11,52]),(11,[2,3,4,7,8,9,10,11]),(12,[2,3,4,7,8,9,10,11]),(13,[2,3,4,7,8,9,70]),(14,[6]),(15,[6])] [(6,[2,3,4,7,8,9]),(10,[2,3,4,7,8,9,10,11])]
def addR (a b : G) (most : Int) (out : List Mo) (ns : List Int) : List Mo := if (out.length : Int) < most then out ++ (edgR a b ns (most - out.length) a.e.length [] []).map (fun es => ⟨ns, es⟩) else out
def allR (a b : G) (most : Int) : List Mo := if shpB a b = true then (mapR a b most a.n.length [] []).foldl (addR a b most) [] else []
section
variable (P : Program) (F : String → Nat)
def K_r08_all : Prop := ∀ (a b : G) (most : Int), InG a → InG b → 1 ≤ most → most ≤ 3000 → FC P (F "r08.all") [gD a, gD b, .int .i64 most] (.arr 2 (pts (allR a b most))) []
end
section
variable {α : Type}
theorem mapR_mem (a b : G) (most : Int) (n : Nat) : ∀ (k : Nat) (ns : List Int) (out : List (List Int)), ns.length + k = n → (∀ x ∈ ns, 0 ≤ x ∧ x < b.n.length) → (∀ y ∈ out, y.length = n ∧ ∀ x ∈ y, 0 ≤ x ∧ x < (b.n.length : Int)) → ∀ y ∈ mapR a b most k ns out, y.length = n ∧ ∀ x ∈ y, 0 ≤ x ∧ x < (b.n.length : Int)
 | 0, ns, out, h, h2, h3 => fun y hy => by
  simp only [mapR, List.mem_append, List.mem_singleton] at hy
  rcases hy with hy | rfl
  ·exact h3 y hy
  ·exact ⟨by omega, h2⟩
 | k + 1, ns, out, h, h2, h3 => by
  simp only [mapR]
  have key : ∀ (l : List Nat), (∀ i ∈ l, i < b.n.length) → ∀ o : List (List Int), (∀ y ∈ o, y.length = n ∧ ∀ x ∈ y, 0 ≤ x ∧ x < (b.n.length : Int)) → ∀ y ∈ l.foldl (fun o (i : Nat) => if (o.length : Int) < most then (if fitsR a b ns i then mapR a b most k (ns ++ [(i : Int)]) o else o) else o) o, y.length = n ∧ ∀ x ∈ y, 0 ≤ x ∧ x < (b.n.length : Int) := fun l => by
   induction l with
   | nil => intro _ o ho; exact ho
   | cons i l ih =>
    intro hl o ho
    rw [List.foldl_cons]
    refine ih (fun j hj => hl j (by simp [hj])) _ ?_
    split
    ·split
     ·have hi := hl i (by simp)
      refine mapR_mem a b most n k _ _ (by simp; omega) (fun x hx => ?_) ho
      rcases List.mem_append.1 hx with hx | hx
      ·exact h2 x hx
      ·simp only [List.mem_singleton] at hx; omega
     ·exact ho
    ·exact ho
  exact key _ (fun i hi => List.mem_range.1 hi) _ h3
end
section
variable {P : Program} {F : String → Nat} {α : Type}
theorem w_r08_all (hm : K_r08_maps P F) (he : K_r08_edges P F) (a b : G) (most : Int) (va : InG a) (vb : InG b) (h1 : 1 ≤ most) (h2 : most ≤ 3000) :
  W P (c_r08_all F) (Done [.t 6] [] (.arr 2 (pts (allR a b most))) []) (init [gD a, gD b, .int .i64 most]) := by
 refine W_of ?_
 have hR : allR a b most = if shpB a b = true then (mapR a b most a.n.length [] []).foldl (addR a b most) [] else [] := rfl
 have r1 := hm a.n.length a b [] most [] va vb (by simp) (by simp) (by simp; omega) h2
 replace r1 := FC.nils (a := [gD a, gD b, .nl 0, .int .i64 most, .nl 0]) r1 (by simp [NilW, ints, iis])
 have hml := mapR_len a b most a.n.length [] [] (by simp; omega)
 have hmm := mapR_mem a b most a.n.length a.n.length [] [] (by simp) (by simp) (by simp)
 have r2 : ∀ ns : List Int, ns.length = a.n.length → ∀ k : Int, 1 ≤ k → k ≤ 3000 → FC P (F "r08.edges") [gD a, gD b, .lst 1 (ints ns), .nl 0, .int .i64 k, .nl 0] (.arr 1 (iis (edgR a b ns k a.e.length [] []))) [] := fun ns hn k h3 h4 => by
  have := he a.e.length a b ns [] k [] va vb hn (by simp) (by simp; omega) h4
  exact FC.nils (a := [gD a, gD b, .lst 1 (ints ns), .nl 0, .int .i64 k, .nl 0]) this (by simp [NilW, ints, iis])
 have hel : ∀ (ns : List Int) (k : Int), 1 ≤ k → ((edgR a b ns k a.e.length [] []).length : Int) ≤ k := fun ns k h => edgR_len a b ns k _ _ _ (by simp; omega)
 have hadd : ∀ out ns, addR a b most out ns = if (out.length : Int) < most then out ++ (edgR a b ns (most - out.length) a.e.length [] []).map (fun es => ⟨ns, es⟩) else out := fun _ _ => rfl
 have hs : shpB a b = (decide (a.n.length = b.n.length) && decide (a.e.length = b.e.length)) := rfl
 generalize allR a b most = R at *
 generalize addR a b most = ad at *
 generalize mapR a b most a.n.length [] [] = N at *
 generalize hE : (fun ns k => edgR a b ns k a.e.length [] []) = E at *
 have hE' : ∀ ns k, edgR a b ns k a.e.length [] [] = E ns k := fun ns k => by rw [← hE]
 simp only [hE'] at *
 clear hE hE' hm he
 generalize shpB a b = sh at *
 obtain ⟨an, ae⟩ := a
 obtain ⟨bn, be⟩ := b
 simp only [gD] at *
 cases sh with
 | false =>
  rw [if_neg (by simp)] at hR
  subst hR
  by_cases e1 : an.length = bn.length
  ·have d1 : decide ((an.length : Int) = bn.length) = true := decide_eq_true (by omega)
   have d2 : decide ((ae.length : Int) = be.length) = false := decide_eq_false (fun h => by simp [e1, show ae.length = be.length by omega] at hs)
   simp (disch := omega) only [go_sem, ↓reduceIte, d1, d2]
   rfl
  ·have d1 : decide ((an.length : Int) = bn.length) = false := decide_eq_false (by omega)
   simp (disch := omega) only [go_sem, ↓reduceIte, d1]
   rfl
 | true =>
  rw [if_pos rfl] at hR
  have d1 : decide ((an.length : Int) = bn.length) = true := decide_eq_true (by simp at hs; omega)
  have d2 : decide ((ae.length : Int) = be.length) = true := decide_eq_true (by simp at hs; omega)
  simp (disch := omega) only [go_sem, ↓reduceIte, d1, d2]
  refine call_by r1 ?_
  obtain ⟨A, hA⟩ : ∃ A : Nat → List Mo, ∀ i, A i = (N.take i).foldl ad [] := ⟨_, fun _ => rfl⟩
  have hA0 : A 0 = [] := by rw [hA]; rfl
  have hAs : ∀ i, i < N.length → A (i + 1) = ad (A i) (gt N (i : Int)) := fun i hi => by rw [hA, hA, take_gt hi, List.foldl_append]; rfl
  have hAn : R = A N.length := by rw [hR, hA, List.take_length]
  have hAl : ∀ i, ((A i).length : Int) ≤ most := fun i => by
   rw [hA]
   refine foldl_lenI (fun o ns ho => ?_) _ _ (by simp; omega)
   rw [hadd]
   split
   ·have := hel ns (most - o.length) (by omega)
    simp only [List.length_append, List.length_map]; omega
   ·exact ho
  have hAf : ∀ i, ¬ ((A i).length : Int) < most → R = A i := fun i h => by
   have : N = N.take i ++ N.drop i := (List.take_append_drop i N).symm
   rw [hR, this, List.foldl_append, ← hA, foldl_full (fun o ns h => by rw [hadd, if_neg h]) _ _ h]
  clear hR hA
  cases hfN : (iis N).all D.flatE
  all_goals
   simp (disch := omega) only [go_sem, ↓reduceIte, hfN]
   refine W_loop (fun i : Nat => ⟨[(2, .int .i64 most), (3, .pt 0 0), (4, .pt 1 0), (7, .sl 2 0 (A i).length), (8, .sl 3 0 N.length), (9, .int .i64 i)], [(0, .box [.lst 1 (ints an), .lst 3 (eds ae)]), (1, .box [.lst 1 (ints bn), .lst 3 (eds be)]), (2, .arr 2 (pts (A i))), (3, .arr 1 (iis N))], 4⟩)
    (fun i => i ≤ N.length ∧ (1 ≤ i → ((A i).length : Int) < most) ∧ ((A i).length : Int) < most) (fun i => N.length - i) 0 ?_ ?_ ?_
   ·simp (disch := omega) only [go_sem, ↓reduceIte, hA0]
    rfl
   ·exact ⟨Nat.zero_le _, by omega, by rw [hA0]; simp; omega⟩
   ·rintro i ⟨k1, k2, k3⟩
    simp (disch := omega) only [go_sem, ↓reduceIte, c_r08_all_b16]
    refine bran_dec (fun d => ?_) (fun d => ?_)
    ·have q2 := r2 (gt N (i : Int)) (hmm _ (gt_mem (by omega) (by omega))).1 (most - (A i).length) (by omega) (by omega)
     have ql := hel (gt N (i : Int)) (most - (A i).length) (by omega)
     have hAi := hAs i (by omega)
     rw [hadd, if_pos k3] at hAi
     have hAl1 := hAl (i + 1)
     have hAf1 := hAf (i + 1)
     have hAl0 := hAl i
     generalize E (gt N (i : Int)) (most - (A i).length) = L at *
     obtain ⟨B, hB⟩ : ∃ B : Nat → List Mo, ∀ k, B k = A i ++ (L.take k).map fun es => (⟨gt N (i : Int), es⟩ : Mo) := ⟨_, fun _ => rfl⟩
     have hB0 : B 0 = A i := by rw [hB]; simp
     have hBs : ∀ k, k < L.length → B (k + 1) = B k ++ [⟨gt N (i : Int), gt L (k : Int)⟩] := fun k hk => by
      rw [hB, hB, take_gt hk, List.map_append, List.append_assoc]; rfl
     have hBn : B L.length = A (i + 1) := by rw [hB, List.take_length, hAi]
     have hBl : ∀ k, k ≤ L.length → (B k).length ≤ 3000 := fun k hk => by
      rw [hB, List.length_append, List.length_map, List.length_take]; omega
     clear hB hAi
     simp (disch := omega) only [go_sem, ↓reduceIte]
     refine call_by q2 ?_
     cases hfL : (iis L).all D.flatE
     all_goals
      simp (disch := omega) only [go_sem, ↓reduceIte, hfL]
      refine W_loop (fun k : Nat => ⟨[(2, .int .i64 most), (3, .pt 0 0), (4, .pt 1 0), (7, .sl 2 0 (B k).length), (8, .sl 3 0 N.length), (9, .int .i64 i), (10, .sl 4 0 L.length), (11, .int .i64 k)], [(0, .box [.lst 1 (ints an), .lst 3 (eds ae)]), (1, .box [.lst 1 (ints bn), .lst 3 (eds be)]), (2, .arr 2 (pts (B k))), (3, .arr 1 (iis N)), (4, .arr 1 (iis L))], 5⟩)
       (fun k => k ≤ L.length) (fun k => L.length - k) 0 ?_ ?_ ?_
      ·simp (disch := omega) only [go_sem, ↓reduceIte, hB0]
       rfl
      ·omega
      ·intro k k4
       have hBk := hBl k k4
       simp (disch := omega) only [go_sem, ↓reduceIte, c_r08_all_b12]
       refine bran_dec (fun e => ?_) (fun e => ?_)
       ·have hB := hBs k (by omega)
        have hBk2 := hBl (k + 1) (by omega)
        simp (disch := omega) only [go_sem, ↓reduceIte]
        exact ⟨k + 1, by simp [hB], by omega, by omega⟩
       ·obtain rfl : k = L.length := by omega
        rw [hBn]
        simp (disch := omega) only [go_sem, ↓reduceIte]
        refine bran_dec (fun f => ?_) (fun f => ?_)
        ·rw [hAf1 (by omega)]
         simp (disch := omega) only [go_sem, ↓reduceIte]
        ·simp (disch := omega) only [go_sem, ↓reduceIte]
         exact ⟨i + 1, by simp, ⟨by omega, fun _ => by omega, by omega⟩, by omega⟩
    ·obtain rfl : i = N.length := by omega
     rw [hAn]
     simp (disch := omega) only [go_sem, ↓reduceIte]
theorem allR_len (a b : G) {most : Int} (h : 1 ≤ most) : ((allR a b most).length : Int) ≤ most := by
 unfold allR
 split
 ·refine foldl_lenI (fun o ns ho => ?_) _ _ (by simp; omega)
  unfold addR
  split
  ·have := edgR_len a b ns (most - o.length) a.e.length [] [] (by simp; omega)
   simp only [List.length_append, List.length_map]; omega
  ·exact ho
 ·simp; omega
end
section
theorem take_app {β : Type} (A B : List β) (M : Nat) : (A.take M ++ B).take M = (A ++ B).take M := by
 rw [List.take_append, List.take_append, List.take_take, Nat.min_self, List.length_take]
 rcases Nat.le_total M A.length with h | h
 ·rw [show M - min M A.length = 0 by omega, show M - A.length = 0 by omega]
 ·rw [show min M A.length = A.length by omega]
theorem foldl_takM {β γ : Type} {f : List β → γ → List β} {g : γ → List β} {M : Nat} (hf : ∀ o x, o.length ≤ M → f o x = (o ++ g x).take M) : ∀ (l : List γ) (o : List β), o.length ≤ M → l.foldl f o = (o ++ l.flatMap g).take M
 | [], o, h => by rw [List.foldl_nil, List.flatMap_nil, List.append_nil, List.take_of_length_le h]
 | x :: l, o, h => by
  rw [List.foldl_cons, hf o x h, foldl_takM hf l _ (by rw [List.length_take]; omega), List.flatMap_cons, ← List.append_assoc, take_app]
theorem take_full {β : Type} {o : List β} (X : List β) {M : Nat} (h : o.length = M) : (o ++ X).take M = o := by
 rw [List.take_append_of_le_length (by omega), List.take_of_length_le (by omega)]
def fullN (N : Nat) (ok : List Int → Int → Bool) : Nat → List Int → List (List Int)
 | 0, ns => [ns]
 | k + 1, ns => (List.range N).flatMap fun (n : Nat) => if ok ns (n : Int) then fullN N ok k (ns ++ [(n : Int)]) else []
def imE (a b : G) (ns : List Int) : List (List Int) := fullN b.e.length (fun es n => wnt a b ns es n.toNat) a.e.length []
def imM (a b : G) (ns : List Int) : List Mo := (imE a b ns).map fun es => ⟨ns, es⟩
theorem eE_take (a b : G) (ns : List Int) (m : Int) (hm : 0 ≤ m) : ∀ (k : Nat) (es : List Int) (out : List Mo), out.length ≤ m.toNat + 1 →
  eE a b ns m k es out = (out ++ (fullN b.e.length (fun es n => wnt a b ns es n.toNat) k es).map fun es => (⟨ns, es⟩ : Mo)).take (m.toNat + 1)
 | 0, es, out, h => by
  simp only [eE, fullN, List.map_cons, List.map_nil]
  split
  ·rw [take_full _ (by omega)]
  ·rw [List.take_of_length_le (by simp; omega)]
 | k + 1, es, out, h => by
  simp only [eE]
  split
  ·rw [take_full _ (by omega)]
  ·rw [foldl_takM (g := fun (n : Nat) => (if wnt a b ns es n then fullN b.e.length (fun es n => wnt a b ns es n.toNat) k (es ++ [(n : Int)]) else []).map fun es => (⟨ns, es⟩ : Mo)) (M := m.toNat + 1) _ _ _ h]
   ·rw [fullN, List.map_flatMap]
    rfl
   ·intro o n ho
    split
    ·exact eE_take a b ns m hm k _ _ ho
    ·rw [List.map_nil, List.append_nil, List.take_of_length_le ho]
theorem nN_take (a b : G) (c : List Int) (m : Int) (al : Int → Int → Bool) (hm : 0 ≤ m) : ∀ (k : Nat) (ns : List Int) (out : List Mo), out.length ≤ m.toNat + 1 →
  nN a b c m al k ns out = (out ++ (fullN b.n.length (fun ns n => al ns.length n && fitsP a b c ns n) k ns).flatMap (imM a b)).take (m.toNat + 1)
 | 0, ns, out, h => by
  simp only [nN, fullN, List.flatMap_cons, List.flatMap_nil, List.append_nil]
  split
  ·rw [take_full _ (by omega)]
  ·rw [eE_take a b ns m hm _ _ _ h]
   rfl
 | k + 1, ns, out, h => by
  simp only [nN]
  split
  ·rw [take_full _ (by omega)]
  ·rw [foldl_takM (g := fun (n : Nat) => (if al ns.length (n : Int) && fitsP a b c ns (n : Int) then fullN b.n.length (fun ns n => al ns.length n && fitsP a b c ns n) k (ns ++ [(n : Int)]) else []).flatMap (imM a b)) (M := m.toNat + 1) _ _ _ h]
   ·rw [fullN, List.flatMap_assoc]
   ·intro o n ho
    split
    ·exact nN_take a b c m al hm k _ _ ho
    ·rw [List.flatMap_nil, List.append_nil, List.take_of_length_le ho]
theorem mapR_take (a b : G) (most : Int) : ∀ (k : Nat) (ns : List Int) (out : List (List Int)), (out.length : Int) < most →
  mapR a b most k ns out = (out ++ fullN b.n.length (fitsR a b) k ns).take most.toNat
 | 0, ns, out, h => by
  simp only [mapR, fullN]
  rw [List.take_of_length_le (by simp; omega)]
 | k + 1, ns, out, h => by
  simp only [mapR]
  rw [foldl_takM (g := fun (n : Nat) => if fitsR a b ns (n : Int) then fullN b.n.length (fitsR a b) k (ns ++ [(n : Int)]) else []) (M := most.toNat) _ _ _ (by omega)]
  ·rfl
  ·intro o n ho
   split
   ·split
    ·exact mapR_take a b most k _ _ (by assumption)
    ·rw [List.append_nil, List.take_of_length_le ho]
   ·rw [take_full _ (by omega)]
theorem edgR_take (a b : G) (ns : List Int) (most : Int) : ∀ (k : Nat) (es : List Int) (out : List (List Int)), (out.length : Int) < most →
  edgR a b ns most k es out = (out ++ fullN b.e.length (fun es n => wnt a b ns es n.toNat) k es).take most.toNat
 | 0, es, out, h => by
  simp only [edgR, fullN]
  rw [List.take_of_length_le (by simp; omega)]
 | k + 1, es, out, h => by
  simp only [edgR]
  rw [foldl_takM (g := fun (n : Nat) => if wnt a b ns es n then fullN b.e.length (fun es n => wnt a b ns es n.toNat) k (es ++ [(n : Int)]) else []) (M := most.toNat) _ _ _ (by omega)]
  ·rfl
  ·intro o n ho
   split
   ·split
    ·exact edgR_take a b ns most k _ _ (by assumption)
    ·rw [List.append_nil, List.take_of_length_le ho]
   ·rw [take_full _ (by omega)]
theorem flatM_take {β γ : Type} {g : γ → List β} : ∀ (l : List γ) (M : Nat), (∀ x ∈ l, g x ≠ []) → ((l.take M).flatMap g).take M = (l.flatMap g).take M
 | [], M, _ => by simp
 | x :: l, 0, _ => by simp
 | x :: l, M + 1, h => by
  have hx : 0 < (g x).length := List.length_pos_iff.2 (h x (by simp))
  have key : ∀ K, K ≤ M → ((l.take M).flatMap g).take K = (l.flatMap g).take K := fun K hK => by
   have := congrArg (List.take K) (flatM_take l M fun y hy => h y (by simp [hy]))
   rw [List.take_take, List.take_take, show min K M = K by omega] at this
   exact this
  rw [List.take_succ_cons, List.flatMap_cons, List.flatMap_cons, List.take_append, List.take_append, key _ (by omega)]
theorem allR_take {a b : G} {most : Int} (h1 : 1 ≤ most) (hs : shpB a b = true) (hne : ∀ ns ∈ fullN b.n.length (fitsR a b) a.n.length [], imE a b ns ≠ []) :
  allR a b most = ((fullN b.n.length (fitsR a b) a.n.length []).flatMap (imM a b)).take most.toNat := by
 rw [allR, if_pos hs, mapR_take _ _ _ _ _ _ (by simp; omega), List.nil_append]
 rw [foldl_takM (g := imM a b) (M := most.toNat) _ _ _ (by simp), List.nil_append]
 ·exact flatM_take _ _ fun ns hns e => hne ns hns (List.map_eq_nil_iff.1 e)
 ·intro o ns ho
  unfold addR
  split
  ·rw [edgR_take _ _ _ _ _ _ _ (by simp; omega), List.nil_append, List.map_take, List.take_append, List.take_of_length_le ho]
   rw [show (most - (o.length : Int)).toNat = most.toNat - o.length by omega]
   rfl
  ·rw [take_full _ (by omega)]
theorem isoN_take (a b : G) {m : Int} (al : Int → Int → Bool) (hm : 0 ≤ m) : isoN a b m al = ((fullN b.n.length (fun ns n => al ns.length n && fitsP a b (colJ a b) ns n) a.n.length []).flatMap (imM a b)).take (m.toNat + 1) := by
 rw [isoN, nN_take _ _ _ _ _ hm _ _ _ (by simp), List.nil_append]
end
section
theorem joinG_two (a b : G) : joinG [a, b] = join2 a b := by
 have := joinG_one a
 simp only [joinG, List.foldl_cons, List.foldl_nil] at this ⊢
 rw [this]
theorem gt_app_l {α : Type} [Inhabited α] {x y : List α} {i : Int} (h0 : 0 ≤ i) (h : i < x.length) : gt (x ++ y) i = gt x i := by
 obtain ⟨j, rfl⟩ := Int.eq_ofNat_of_zero_le h0
 rw [gt_nat (by simp; omega), gt_nat (by omega), List.getElem_append_left (by omega)]
theorem gt_app_r {α : Type} [Inhabited α] {x y : List α} {i : Int} (h0 : 0 ≤ i) (h : i < y.length) : gt (x ++ y) (i + x.length) = gt y i := by
 obtain ⟨j, rfl⟩ := Int.eq_ofNat_of_zero_le h0
 rw [show ((j : Int) + x.length) = ((j + x.length : Nat) : Int) by omega, gt_nat (by simp; omega), gt_nat (by omega), List.getElem_append_right (by omega)]
 simp
theorem flatMap_nil' {α β : Type} {f : α → List β} : ∀ {l : List α}, (∀ x ∈ l, f x = []) → l.flatMap f = []
 | [], _ => rfl
 | x :: l, h => by rw [List.flatMap_cons, h x (by simp), flatMap_nil' fun y hy => h y (by simp [hy]), List.append_nil]
theorem trE_nil {c : List Int} {i : Nat} {x : E} (h1 : x.f ≠ i) (h2 : x.o ≠ i) : trE c i x = [] := by
 unfold trE
 rw [if_neg h1, if_neg h2]; rfl
theorem sgn_join_l {a b : G} (va : InG a) (vb : InG b) {ca cb : List Int} (h1 : ca.length = a.n.length) {i : Nat} (hi : i < a.n.length) : sgnO (join2 a b).e (ca ++ cb) i = sgnO a.e ca i := by
 unfold sgnO
 rw [gt_app_l (by omega) (by omega)]
 congr 3
 simp only [join2, trL, List.flatMap_append]
 rw [flatMap_nil' (l := List.map _ _), List.append_nil]
 ·refine flatMap_congr' fun x hx => ?_
  have := va.2.2 x hx
  simp only [trE]
  rw [gt_app_l (i := x.o) (by omega) (by omega), gt_app_l (i := x.f) (by omega) (by omega)]
 ·intro x hx
  obtain ⟨y, hy, rfl⟩ := List.mem_map.1 hx
  have := vb.2.2 y hy
  exact trE_nil (by simp only [shJ]; omega) (by simp only [shJ]; omega)
theorem sgn_join_r {a b : G} (va : InG a) (vb : InG b) {ca cb : List Int} (h1 : ca.length = a.n.length) (h2 : cb.length = b.n.length) {i : Nat} (hi : i < b.n.length) : sgnO (join2 a b).e (ca ++ cb) (a.n.length + i) = sgnO b.e cb i := by
 unfold sgnO
 have e : ((a.n.length + i : Nat) : Int) = (i : Int) + ca.length := by omega
 rw [e, gt_app_r (by omega) (by omega)]
 congr 3
 simp only [join2, trL, List.flatMap_append]
 rw [flatMap_nil' (l := a.e), List.nil_append, List.flatMap_map]
 ·refine flatMap_congr' fun x hx => ?_
  have := vb.2.2 x hx
  refine trE_sh rfl (by simp only [shJ]; omega) (by simp only [shJ]; omega) ?_ ?_
  ·simp only [shJ]
   rw [← h1]
   exact gt_app_r (by omega) (by omega)
  ·simp only [shJ]
   rw [← h1]
   exact gt_app_r (by omega) (by omega)
 ·intro x hx
  have := va.2.2 x hx
  exact trE_nil (by omega) (by omega)
theorem nextL_join {a b : G} (va : InG a) (vb : InG b) {ca cb : List Int} (h1 : ca.length = a.n.length) (h2 : cb.length = b.n.length) : nextL (join2 a b) (ca ++ cb) = nextL a ca ++ nextL b cb := by
 have hn : (join2 a b).n.length = a.n.length + b.n.length := by simp [join2]
 refine List.ext_getElem (by simp [nextL, hn]) fun i hi _ => ?_
 simp only [nextL, List.length_map, List.length_range, hn] at hi
 rcases Nat.lt_or_ge i a.n.length with h | h
 ·rw [List.getElem_append_left (by simp [nextL]; omega)]
  simp only [nextL, List.getElem_map, List.getElem_range]
  exact sgn_join_l va vb h1 h
 ·rw [List.getElem_append_right (by simp [nextL]; omega)]
  simp only [nextL, List.getElem_map, List.getElem_range, List.length_map, List.length_range]
  obtain ⟨j, rfl⟩ : ∃ j, i = a.n.length + j := ⟨i - a.n.length, by omega⟩
  rw [show a.n.length + j - a.n.length = j by omega]
  exact sgn_join_r va vb h1 h2 (by omega)
end
section
theorem gt_take' {l : List Int} {i k : Nat} (h : k < i) (hl : i ≤ l.length) : gt (l.take i) (k : Int) = gt l (k : Int) := by
 rw [gt_nat (by simp; omega), gt_nat (by omega), List.getElem_take]
theorem mem_fullN {N : Nat} {ok : List Int → Int → Bool} : ∀ {k : Nat} {ns l : List Int}, l ∈ fullN N ok k ns ↔ l.length = ns.length + k ∧ l.take ns.length = ns ∧ ∀ i : Nat, ns.length ≤ i → i < l.length → (0 ≤ gt l (i : Int) ∧ gt l (i : Int) < N) ∧ ok (l.take i) (gt l (i : Int)) = true
 | 0, ns, l => by
  simp only [fullN, List.mem_singleton, Nat.add_zero]
  constructor
  ·rintro rfl
   exact ⟨rfl, List.take_length, fun i h1 h2 => by omega⟩
  ·rintro ⟨h1, h2, _⟩
   rw [← h1, List.take_length] at h2
   exact h2
 | k + 1, ns, l => by
  simp only [fullN, List.mem_flatMap, List.mem_range]
  constructor
  ·rintro ⟨n, hn, h⟩
   split at h
   ·rename_i hok
    obtain ⟨h1, h2, h3⟩ := mem_fullN.1 h
    simp only [List.length_append, List.length_singleton] at h1 h2 h3
    have hg : gt l (ns.length : Int) = n ∧ l.take ns.length = ns := by
     have e := take_gt (l := l) (i := ns.length) (by omega)
     rw [h2] at e
     obtain ⟨e1, e2⟩ := List.append_inj' e rfl
     simp only [List.cons.injEq, and_true] at e2
     exact ⟨e2.symm, e1.symm⟩
    refine ⟨by omega, hg.2, fun i h4 h5 => ?_⟩
    rcases Nat.lt_or_ge ns.length i with h6 | h6
    ·exact h3 i (by omega) h5
    ·obtain rfl : i = ns.length := by omega
     rw [hg.1, hg.2]
     exact ⟨⟨by omega, by omega⟩, hok⟩
   ·cases h
  ·rintro ⟨h1, h2, h3⟩
   obtain ⟨⟨h4, h5⟩, h6⟩ := h3 ns.length (Nat.le_refl _) (by omega)
   rw [h2] at h6
   obtain ⟨n, hn⟩ := Int.eq_ofNat_of_zero_le h4
   rw [hn] at h5 h6
   refine ⟨n, by omega, ?_⟩
   rw [if_pos h6]
   refine mem_fullN.2 ⟨by simp; omega, ?_, fun i h7 h8 => h3 i (by simp at h7; omega) h8⟩
   rw [List.length_append, List.length_singleton, take_gt (by omega), h2, hn]
theorem not_mem_take {l : List Int} {i : Nat} (hi : i < l.length) : gt l (i : Int) ∉ l.take i ↔ ∀ k : Nat, k < i → gt l (k : Int) ≠ gt l (i : Int) := by
 constructor
 ·intro h k hk e
  apply h
  rw [← e, ← gt_take' hk (by omega)]
  exact gt_mem (by omega) (by simp; omega)
 ·intro h hm
  obtain ⟨k, hk, e⟩ := List.mem_iff_getElem.1 hm
  simp only [List.length_take] at hk
  refine h k (by omega) ?_
  rw [← gt_take' (i := i) (by omega) (by omega), gt_nat (by simp; omega)]
  exact e
theorem numL_zero {g : G} {t f o : Int} (h : ∀ x ∈ g.e, x.t ≠ t) : numL g t f o = 0 := by
 unfold numL
 rw [List.length_eq_zero_iff, List.filter_eq_nil_iff]
 intro x hx
 simp [numP, h x hx]
theorem knd_all {a b : G} {i k p q : Int} (h : ∀ j : Nat, j < a.e.length + b.e.length → numL a (kndL a b j) i k = numL b (kndL a b j) p q) (t : Int) : numL a t i k = numL b t p q := by
 by_cases h1 : ∃ x ∈ a.e, x.t = t
 ·obtain ⟨x, hx, rfl⟩ := h1
  obtain ⟨j, hj, rfl⟩ := List.mem_iff_getElem.1 hx
  have := h j (by omega)
  rw [kndL, if_pos hj, gt_nat hj] at this
  exact this
 ·by_cases h2 : ∃ x ∈ b.e, x.t = t
  ·obtain ⟨x, hx, rfl⟩ := h2
   obtain ⟨j, hj, rfl⟩ := List.mem_iff_getElem.1 hx
   have := h (a.e.length + j) (by omega)
   rw [kndL, if_neg (by omega), show a.e.length + j - a.e.length = j by omega, gt_nat hj] at this
   exact this
  ·rw [numL_zero (fun x hx e => h1 ⟨x, hx, e⟩), numL_zero (fun x hx e => h2 ⟨x, hx, e⟩)]
theorem mem_fullR {a b : G} {l : List Int} : l ∈ fullN b.n.length (fitsR a b) a.n.length [] ↔ NIso a b l := by
 rw [mem_fullN]
 simp only [List.length_nil, Nat.zero_add, List.take_zero, true_and, Nat.zero_le, forall_const]
 constructor
 ·rintro ⟨h1, h2⟩
  have h3 : ∀ i : Nat, i < a.n.length → gt a.n (i : Int) = gt b.n (gt l (i : Int)) ∧ (∀ k : Nat, k < i → gt l (k : Int) ≠ gt l (i : Int)) ∧ ∀ k : Nat, k ≤ i → ∀ t, numL a t k i = numL b t (gt l (k : Int)) (gt l (i : Int)) ∧ numL a t i k = numL b t (gt l (i : Int)) (gt l (k : Int)) := fun i hi => by
   have h := (h2 i (by omega)).2
   simp only [fitsR, Bool.and_eq_true, decide_eq_true_eq, Bool.not_eq_true', decide_eq_false_iff_not, List.all_eq_true, List.mem_range, List.length_take, show min i l.length = i by omega, pairR] at h
   obtain ⟨e1, e2, e3⟩ := h
   refine ⟨e1, (not_mem_take (by omega)).1 e2, fun k hk t => ?_⟩
   have e4 : gt (l.take i ++ [gt l (i : Int)]) (k : Int) = gt l (k : Int) := by
    rw [← take_gt (by omega)]
    exact gt_take' (by omega) (by omega)
   have e5 := e3 k (by omega)
   rw [e4] at e5
   exact ⟨knd_all (fun j hj => (e5 j hj).1) t, knd_all (fun j hj => (e5 j hj).2) t⟩
  refine ⟨h1, fun i hi => (h2 i (by omega)).1, fun i k hi hk e => ?_, fun i hi => (h3 i hi).1, fun t i k hi hk => ?_⟩
  ·rcases Nat.lt_trichotomy i k with h | h | h
   ·exact absurd e ((h3 k hk).2.1 i h)
   ·exact h
   ·exact absurd e.symm ((h3 i hi).2.1 k h)
  ·rcases Nat.le_total i k with h | h
   ·exact ((h3 k hk).2.2 i h t).1
   ·exact ((h3 i hi).2.2 k h t).2
 ·intro h
  refine ⟨h.len, fun i hi => ?_⟩
  have hl := h.len
  refine ⟨h.rng i (by omega), ?_⟩
  simp only [fitsR, Bool.and_eq_true, decide_eq_true_eq, Bool.not_eq_true', decide_eq_false_iff_not, List.all_eq_true, List.mem_range, List.length_take, show min i l.length = i by omega, pairR]
  refine ⟨h.ty i (by omega), (not_mem_take hi).2 fun k hk e => ?_, fun k hk j _ => ?_⟩
  ·have := h.inj k i (by omega) (by omega) e
   omega
  ·have e4 : gt (l.take i ++ [gt l (i : Int)]) (k : Int) = gt l (k : Int) := by
    rw [← take_gt (by omega)]
    exact gt_take' (by omega) (by omega)
   rw [e4]
   exact ⟨h.num _ k i (by omega) (by omega), h.num _ i k (by omega) (by omega)⟩
theorem betL_cnt (g : G) (f o t : Int) : (betL g f o).count t = numL g t f o := by
 rw [betL, (srt_perm _).count_eq, List.count_eq_countP, List.countP_map, List.countP_filter, numL, ← List.countP_eq_length_filter]
 refine List.countP_congr fun x _ => ?_
 simp only [Function.comp_apply, Bool.and_eq_true, decide_eq_true_eq, beq_iff_eq, numP]
theorem betL_iff {a b : G} {i k p q : Int} : betL a i k = betL b p q ↔ ∀ t, numL a t i k = numL b t p q := by
 constructor
 ·intro h t
  rw [← betL_cnt, ← betL_cnt, h]
 ·intro h
  refine asc_one (srt_sorted _) (srt_sorted _) (List.perm_iff_count.2 fun t => ?_)
  have := h t
  rw [← betL_cnt, ← betL_cnt] at this
  exact this
theorem mem_fullP {a b : G} {c l : List Int} {al : Int → Int → Bool} : l ∈ fullN b.n.length (fun ns n => al ns.length n && fitsP a b c ns n) a.n.length [] ↔
  l.length = a.n.length ∧ (∀ i : Nat, i < a.n.length → 0 ≤ gt l (i : Int) ∧ gt l (i : Int) < b.n.length) ∧ (∀ i k : Nat, i < a.n.length → k < a.n.length → gt l (i : Int) = gt l (k : Int) → i = k) ∧
   (∀ i : Nat, i < a.n.length → gt c (i : Int) = gt c ((a.n.length : Int) + gt l (i : Int))) ∧ (∀ (t : Int) (i k : Nat), i < a.n.length → k < a.n.length → numL a t i k = numL b t (gt l (i : Int)) (gt l (k : Int))) ∧ ∀ i : Nat, i < a.n.length → al i (gt l (i : Int)) = true := by
 rw [mem_fullN]
 simp only [List.length_nil, Nat.zero_add, List.take_zero, true_and, Nat.zero_le, forall_const]
 constructor
 ·rintro ⟨h1, h2⟩
  have h3 : ∀ i : Nat, i < a.n.length → al i (gt l (i : Int)) = true ∧ gt c (i : Int) = gt c ((a.n.length : Int) + gt l (i : Int)) ∧ (∀ k : Nat, k < i → gt l (k : Int) ≠ gt l (i : Int)) ∧ ∀ k : Nat, k ≤ i → ∀ t, numL a t k i = numL b t (gt l (k : Int)) (gt l (i : Int)) ∧ numL a t i k = numL b t (gt l (i : Int)) (gt l (k : Int)) := fun i hi => by
   have h := (h2 i (by omega)).2
   simp only [fitsP, Bool.and_eq_true, decide_eq_true_eq, Bool.not_eq_true', decide_eq_false_iff_not, List.all_eq_true, List.mem_range, List.length_take, show min i l.length = i by omega, pairO, betL_iff] at h
   obtain ⟨e0, e1, e2, e3, e4⟩ := h
   refine ⟨e0, e2, (not_mem_take (by omega)).1 e1, fun k hk t => ?_⟩
   rcases Nat.lt_or_ge k i with h | h
   ·have e5 := e4 k h
    rw [gt_take' h (by omega)] at e5
    exact ⟨e5.2 t, e5.1 t⟩
   ·obtain rfl : k = i := by omega
    exact ⟨e3 t, e3 t⟩
  refine ⟨h1, fun i hi => (h2 i (by omega)).1, fun i k hi hk e => ?_, fun i hi => (h3 i hi).2.1, fun t i k hi hk => ?_, fun i hi => (h3 i hi).1⟩
  ·rcases Nat.lt_trichotomy i k with h | h | h
   ·exact absurd e ((h3 k hk).2.2.1 i h)
   ·exact h
   ·exact absurd e.symm ((h3 i hi).2.2.1 k h)
  ·rcases Nat.le_total i k with h | h
   ·exact ((h3 k hk).2.2.2 i h t).1
   ·exact ((h3 i hi).2.2.2 k h t).2
 ·rintro ⟨hl, h1, h2, h3, h4, h5⟩
  refine ⟨hl, fun i hi => ⟨h1 i (by omega), ?_⟩⟩
  simp only [fitsP, Bool.and_eq_true, decide_eq_true_eq, Bool.not_eq_true', decide_eq_false_iff_not, List.all_eq_true, List.mem_range, List.length_take, show min i l.length = i by omega, pairO, betL_iff]
  refine ⟨h5 i (by omega), (not_mem_take hi).2 fun k hk e => ?_, h3 i (by omega), fun t => h4 t i i (by omega) (by omega), fun k hk => ?_⟩
  ·have := h2 k i (by omega) (by omega) e
   omega
  ·rw [gt_take' hk (by omega)]
   exact ⟨fun t => h4 t i k (by omega) (by omega), fun t => h4 t k i (by omega) (by omega)⟩
end
section
theorem wnt_iff {a b : G} {ns es : List Int} {n : Nat} : wnt a b ns es n = true ↔ gt b.e (n : Int) = mapE ns (gt a.e (es.length : Int)) ∧ (n : Int) ∉ es := by
 simp only [wnt, Bool.and_eq_true, decide_eq_true_eq, Bool.not_eq_true', decide_eq_false_iff_not]
 obtain ⟨xt, xf, xo⟩ := gt a.e (es.length : Int)
 obtain ⟨yt, yf, yo⟩ := gt b.e (n : Int)
 simp only [mapE, E.mk.injEq]
theorem ext_edge {a b : G} {ns es : List Int} (hp : (a.e.map (mapE ns)).Perm b.e) (hk : es.length < a.e.length) (hd : es.Nodup) (hr : ∀ x ∈ es, 0 ≤ x ∧ x < b.e.length)
  (hw : ∀ i : Nat, i < es.length → gt b.e (gt es (i : Int)) = mapE ns (gt a.e (i : Int))) : ∃ n : Nat, n < b.e.length ∧ wnt a b ns es n = true := by
 refine Classical.byContradiction fun hno => ?_
 obtain ⟨w, hwd⟩ : ∃ w, w = mapE ns (gt a.e (es.length : Int)) := ⟨_, rfl⟩
 let I : List Int := ((List.range b.e.length).filter fun n : Nat => gt b.e (n : Int) == w).map fun n : Nat => (n : Int)
 have hI : I.Nodup := by
  rw [List.nodup_iff_pairwise_ne, List.pairwise_map]
  have := (List.nodup_range (n := b.e.length)).filter fun n : Nat => gt b.e (n : Int) == w
  exact this.imp fun h e => h (by omega)
 have hIl : I.length = b.e.count w := by
  have e : (List.range b.e.length).map (fun n : Nat => gt b.e (n : Int)) = b.e := by
   refine List.ext_getElem (by simp) fun i h1 h2 => ?_
   simp only [List.getElem_map, List.getElem_range]
   exact gt_nat h2
  conv => rhs; rw [← e]
  rw [List.length_map, List.count_eq_countP, List.countP_map, List.countP_eq_length_filter]
  rfl
 have hsub : I ⊆ es.filter fun x => gt b.e x == w := fun x hx => by
  obtain ⟨n, hn, rfl⟩ := List.mem_map.1 hx
  obtain ⟨h1, h2⟩ := List.mem_filter.1 hn
  have h1 := List.mem_range.1 h1
  refine List.mem_filter.2 ⟨?_, h2⟩
  refine Classical.byContradiction fun hm => hno ⟨n, h1, wnt_iff.2 ⟨?_, hm⟩⟩
  rw [← hwd]
  exact beq_iff_eq.1 h2
 have hle := List.Nodup.length_le_of_subset hI hsub
 have hes : (es.filter fun x => gt b.e x == w).length = ((a.e.take es.length).map (mapE ns)).count w := by
  have e : es.map (fun x => gt b.e x) = (a.e.take es.length).map (mapE ns) := by
   refine List.ext_getElem (by simp; omega) fun i h1 h2 => ?_
   simp only [List.length_map] at h1
   simp only [List.getElem_map, List.getElem_take]
   have := hw i h1
   rw [gt_nat h1, gt_nat (by omega)] at this
   exact this
  rw [← e, List.count_eq_countP, List.countP_map, List.countP_eq_length_filter]
  rfl
 have hc := hp.count_eq w
 have hsp : a.e.map (mapE ns) = (a.e.take es.length).map (mapE ns) ++ (w :: (a.e.drop (es.length + 1)).map (mapE ns)) := by
  have := (List.take_append_drop es.length a.e).symm
  rw [drop_gt hk] at this
  conv => lhs; rw [this]
  rw [List.map_append, List.map_cons, hwd]
 rw [hsp, List.count_append, List.count_cons_self] at hc
 omega
theorem fullE_ne {a b : G} {ns : List Int} (hp : (a.e.map (mapE ns)).Perm b.e) : ∀ (k : Nat) (es : List Int), es.length + k = a.e.length → es.Nodup → (∀ x ∈ es, 0 ≤ x ∧ x < b.e.length) →
  (∀ i : Nat, i < es.length → gt b.e (gt es (i : Int)) = mapE ns (gt a.e (i : Int))) → fullN b.e.length (fun es n => wnt a b ns es n.toNat) k es ≠ []
 | 0, es, _, _, _, _ => by simp [fullN]
 | k + 1, es, h, hd, hr, hw => by
  obtain ⟨n, hn, hwn⟩ := ext_edge hp (by omega) hd hr hw
  obtain ⟨h1, h2⟩ := wnt_iff.1 hwn
  have := fullE_ne hp k (es ++ [(n : Int)]) (by simp; omega) (by
   rw [List.nodup_append]
   refine ⟨hd, by simp, fun x hx y hy e => ?_⟩
   simp only [List.mem_singleton] at hy
   subst e hy
   exact h2 hx) (fun x hx => by
   rcases List.mem_append.1 hx with hx | hx
   ·exact hr x hx
   ·simp only [List.mem_singleton] at hx; omega) (fun i hi => by
   rw [List.length_append, List.length_singleton] at hi
   rcases Nat.lt_or_ge i es.length with h3 | h3
   ·rw [gt_app_l (x := es) (by omega) (by omega)]
    exact hw i h3
   ·obtain rfl : i = es.length := by omega
    have : gt (es ++ [(n : Int)]) (es.length : Int) = n := by rw [gt_nat (by simp)]; simp
    rw [this, h1])
  obtain ⟨x, hx⟩ := List.exists_mem_of_ne_nil _ this
  refine List.ne_nil_of_mem (a := x) ?_
  rw [fullN, List.mem_flatMap]
  refine ⟨n, List.mem_range.2 hn, ?_⟩
  rw [if_pos (by simpa using hwn)]
  exact hx
theorem NIso.imE_ne {a b : G} {l : List Int} (h : NIso a b l) (va : InG a) (vb : InG b) (hn : a.n.length = b.n.length) : imE a b l ≠ [] :=
 fullE_ne (h.edges va vb hn) _ _ (by simp) List.nodup_nil (by simp) (fun i hi => by simp at hi)
end
section
theorem colL_sig {s : List (List Int)} {i j : Nat} (hi : i < s.length) (hj : j < s.length) (h : gt (colL s) (i : Int) = gt (colL s) (j : Int)) : gt s (i : Int) = gt s (j : Int) := by
 rw [colL_gt hi, colL_gt hj] at h
 exact below_inj (dstL_mem.2 (gt_mem (by omega) (by omega))) (dstL_mem.2 (gt_mem (by omega) (by omega))) (by omega)
theorem stb_sig {g : G} : ∀ (k : Nat) {s : List (List Int)} {i j : Nat}, s.length = g.n.length → i < g.n.length → j < g.n.length → gt (stb g k s) (i : Int) = gt (stb g k s) (j : Int) → gt s (i : Int) = gt s (j : Int)
 | 0, s, i, j, hs, hi, hj, h => colL_sig (by omega) (by omega) h
 | k + 1, s, i, j, hs, hi, hj, h => by
  rw [stb] at h
  split at h
  ·exact colL_sig (by omega) (by omega) h
  ·have := stb_sig k (nextL_length g _) hi hj h
   rw [nextL_gt hi, nextL_gt hj] at this
   simp only [sgnO, List.cons.injEq] at this
   exact colL_sig (by omega) (by omega) this.1
theorem stabL_ty {g : G} {i j : Nat} (hi : i < g.n.length) (hj : j < g.n.length) (h : gt (stabL g) (i : Int) = gt (stabL g) (j : Int)) : gt g.n (i : Int) = gt g.n (j : Int) := by
 have := stb_sig _ (frstL_length g) hi hj h
 rw [gt_nat (by rw [frstL_length]; omega), gt_nat (by rw [frstL_length]; omega)] at this
 simp only [frstL, List.getElem_map, List.cons.injEq, and_true] at this
 rw [gt_nat hi, gt_nat hj, this]
theorem colL_app (x y : List (List Int)) : colL (x ++ y) = colA x (dstL (x ++ y)) ++ colA y (dstL (x ++ y)) := by simp [colL, colA]
theorem colA_gt {x S : List (List Int)} {i : Int} (h0 : 0 ≤ i) (h : i < x.length) : gt (colA x S) i = (below S (gt x i) : Int) := by
 rw [colA, gt_map_c h0 h]
theorem stb_join {a b : G} {l : List Int} (hl : NIso a b l) (va : InG a) (vb : InG b) (hn : a.n.length = b.n.length) : ∀ (k : Nat) {x y : List (List Int)}, Car a l x y → x.length = a.n.length → y.length = b.n.length → ∀ i : Nat, i < a.n.length →
  gt (stb (join2 a b) k (x ++ y)) (i : Int) = gt (stb (join2 a b) k (x ++ y)) (a.n.length + gt l (i : Int))
 | k, x, y, h, hx, hy, i, hi => by
  have base : gt (colL (x ++ y)) (i : Int) = gt (colL (x ++ y)) (a.n.length + gt l (i : Int)) := by
   have hr := hl.rng i hi
   rw [colL_app, gt_app_l (by omega) (by rw [colA_length]; omega), colA_gt (by omega) (by omega)]
   have e : (a.n.length : Int) + gt l (i : Int) = gt l (i : Int) + (colA x (dstL (x ++ y))).length := by rw [colA_length]; omega
   rw [e, gt_app_r hr.1 (by rw [colA_length]; omega), colA_gt hr.1 (by omega), h i hi]
  cases k with
  | zero => exact base
  | succ k =>
   rw [stb]
   split
   ·exact base
   ·rw [colL_app, nextL_join va vb (by rw [colA_length, hx]) (by rw [colA_length, hy])]
    exact stb_join hl va vb hn k (h.next hl va vb hn hx hy _) (nextL_length _ _) (nextL_length _ _) i hi
theorem NIso.col {a b : G} {l : List Int} (h : NIso a b l) (va : InG a) (vb : InG b) (hn : a.n.length = b.n.length) {i : Nat} (hi : i < a.n.length) : gt (colJ a b) (i : Int) = gt (colJ a b) (a.n.length + gt l (i : Int)) := by
 rw [colJ, stabL, joinG_two]
 have e : frstL (join2 a b) = frstL a ++ frstL b := by simp [frstL, join2]
 rw [e]
 exact stb_join h va vb hn _ (Car.first h) (frstL_length a) (frstL_length b) i hi
theorem mem_fullP' {a b : G} {l : List Int} {al : Int → Int → Bool} (va : InG a) (vb : InG b) (hn : a.n.length = b.n.length) : l ∈ fullN b.n.length (fun ns n => al ns.length n && fitsP a b (colJ a b) ns n) a.n.length [] ↔
  NIso a b l ∧ ∀ i : Nat, i < a.n.length → al i (gt l (i : Int)) = true := by
 rw [mem_fullP]
 constructor
 ·rintro ⟨h1, h2, h3, h4, h5, h6⟩
  refine ⟨⟨h1, h2, h3, fun i hi => ?_, h5⟩, h6⟩
  have h := h4 i hi
  have hr := h2 i hi
  obtain ⟨j, hj⟩ := Int.eq_ofNat_of_zero_le hr.1
  rw [hj] at h hr ⊢
  have hJ : (joinG [a, b]).n = a.n ++ b.n := by rw [joinG_two]; rfl
  have h7 := stabL_ty (g := joinG [a, b]) (i := i) (j := a.n.length + j) (by rw [hJ]; simp; omega) (by rw [hJ]; simp; omega) (by
   rw [show ((a.n.length + j : Nat) : Int) = a.n.length + j by omega]; exact h)
  rw [hJ, gt_app_l (by omega) (by omega), show ((a.n.length + j : Nat) : Int) = (j : Int) + a.n.length by omega, gt_app_r (by omega) (by omega)] at h7
  exact h7
 ·rintro ⟨h, h6⟩
  exact ⟨h.len, h.rng, h.inj, fun i hi => h.col va vb hn hi, h.num, h6⟩
def isos (a b : G) : List Mo := (fullN b.n.length (fitsR a b) a.n.length []).flatMap (imM a b)
theorem allR_isos {a b : G} (va : InG a) (vb : InG b) (hs : shpB a b = true) {most : Int} (h1 : 1 ≤ most) : allR a b most = (isos a b).take most.toNat := by
 have hn : a.n.length = b.n.length := by
  simp only [shpB, Bool.and_eq_true, decide_eq_true_eq] at hs; exact hs.1
 exact allR_take h1 hs fun ns hns => (mem_fullR.1 hns).imE_ne va vb hn
end
section
theorem mem_isos {a b : G} {m : Mo} : m ∈ isos a b ↔ NIso a b m.n ∧ m.e ∈ imE a b m.n := by
 simp only [isos, List.mem_flatMap, mem_fullR, imM, List.mem_map]
 constructor
 ·rintro ⟨ns, h1, es, h2, rfl⟩
  exact ⟨h1, h2⟩
 ·rintro ⟨h1, h2⟩
  exact ⟨m.n, h1, m.e, h2, rfl⟩
end
@[go_sem] def c_r08_moves_r0 : LL := [qB 3 0,qb 6 false]
@[go_sem] def c_r08_moves_r1 (F : Fn) : LL := [qL 9 2 3,qc 10 (F "r05.Copied") [.t 9],qL 11 2 3,qc 12 (F "r05.Copied") [.t 11],qa 7 [.nl 1,.nl 3],qa 8 [.nl 1,.nl 3],qs 2 7 10,qs 2 8 12]
@[go_sem] def c_r08_moves_r2 : LL := [qf 13 0 7,ql 14 1 13,qm 15 1,qd 16 1 14 15,ql 17 1 16,qf 18 0 8,ql 19 1 18,qm 20 2,qd 21 1 19 20,ql 22 1 21,qo .neq 23 17 22]
@[go_sem] def c_r08_moves_r3 : LL := [qb 6 false]
@[go_sem] def c_r08_moves_r4 : LL := [qf 24 0 7,ql 25 1 24,qm 26 1,qf 27 0 8,ql 28 1 27,qm 29 2,qd 30 1 25 26,⟨none,.store 1 (.t 30) (.k (.int .i64 (-1))),none⟩,qd 31 1 28 29,
 ⟨none,.store 1 (.t 31) (.k (.int .i64 (-1))),none⟩]
@[go_sem] def c_r08_moves_r5 (F : Fn) : LL := [qL 32 2 7,qL 33 2 8,qc 34 (F "r08.all") [.t 32,.t 33,.k (.int .i64 (1))],qz 35 34,qk .gtr 36 35 0,qm 6 36]
@[go_sem] def c_r08_moves (F : Fn) : LC := (.seq (.reg c_r08_moves_r0 [1,2,3]) (.seq (.dreg [(1,none,[],true),(2,(some 0),[1],false)] (c_r08_moves_r1 F) [1,2,7,8]) (.seq (.seq (.dreg [] c_r08_moves_r2 [1,2,7,8,23]) (.cond (.t 23) (.seq (.reg c_r08_moves_r3 [6]) .ret) .skip)) (.seq (.dreg [(4,none,[],true),(7,none,[4],false)] c_r08_moves_r4 [7,8]) (.seq (.reg (c_r08_moves_r5 F) [6]) .ret)))))
def h_r08_moves : Hints := hOf [] (c_r08_moves fun _ => 0)
@[go_sem] def c_r08_Orbits_r0 : LL := [qB 1 0,qn 2 1,qi 3 0]
@[go_sem] def c_r08_Orbits_r1 (F : Fn) : LL := [qL 8 2 1,qc 9 (F "r05.Valid") [.t 8],qm 4 9]
@[go_sem] def c_r08_Orbits_r2 : LL := [qm 10 4,qk .neq 11 10 0]
@[go_sem] def c_r08_Orbits_r3 : LL := [qm 12 4,qn 2 1,qm 3 12]
@[go_sem] def c_r08_Orbits_r4 : LL := [qf 13 0 1,ql 14 1 13,qz 15 14,qk .gtr 16 15 12]
@[go_sem] def c_r08_Orbits_r5 : LL := [qn 2 1,qi 3 3]
@[go_sem] def c_r08_Orbits_r6 : LL := [qn 5 1]
@[go_sem] def c_r08_Orbits_r7 : LL := [qi 6 0]
@[go_sem] def c_r08_Orbits_r8 : LL := [qm 17 6,qf 18 0 1,ql 19 1 18,qz 20 19,qo .lss 21 17 20]
@[go_sem] def c_r08_Orbits_r9 : LL := [qi 7 0]
@[go_sem] def c_r08_Orbits_r10 (F : Fn) : LL := [qm 24 7,qm 25 6,qo .lss 26 24 25,qm 27 26,qg 27 true (qL 28 2 1),qg 27 true (qm 29 7),qg 27 true (qm 30 6),qg 27 true (qc 31 (F "r08.moves") [.t 28,.t 29,.t 30]),qg 27 true (qv 32 31),
 qP 33 27 32]
@[go_sem] def c_r08_Orbits_r11 : LL := [qm 34 7,qk .add 35 34 1,qm 7 35]
def c_r08_Orbits_b12 (F : Fn) : LC := (.seq (.seq (.reg (c_r08_Orbits_r10 F) [1,5,6,7,33]) (.cond (.t 33) .skip (.exit 2))) (.block 3 (.reg c_r08_Orbits_r11 [1,5,6,7])))
@[go_sem] def c_r08_Orbits_r13 : LL := [qm 36 5,qm 37 7,⟨some 38,.buildSl 1 8 (.int .i64 (0)) 1 [(0,.t 37)],none⟩,qp 39 1 8 36 38,qm 5 39]
@[go_sem] def c_r08_Orbits_r14 : LL := [qm 22 6,qk .add 23 22 1,qm 6 23]
def c_r08_Orbits_b15 (F : Fn) : LC := (.seq (.seq (.reg c_r08_Orbits_r8 [1,5,6,21]) (.cond (.t 21) .skip (.exit 0))) (.seq (.block 1 (.seq (.reg c_r08_Orbits_r9 [1,5,6,7]) (.seq (.block 2 (.loop [1,5,6,7] (c_r08_Orbits_b12 F))) (.reg c_r08_Orbits_r13 [1,5,6])))) (.reg c_r08_Orbits_r14 [1,5,6])))
@[go_sem] def c_r08_Orbits_r16 : LL := [qm 40 5,qm 2 40,qi 3 0]
@[go_sem] def c_r08_Orbits (F : Fn) : LC := (.seq (.reg c_r08_Orbits_r0 [1]) (.seq (.seq (.reg (c_r08_Orbits_r1 F) [1,4]) (.seq (.reg c_r08_Orbits_r2 [1,4,11]) (.cond (.t 11) (.seq (.reg c_r08_Orbits_r3 [2,3]) .ret) .skip))) (.seq (.seq (.reg c_r08_Orbits_r4 [1,16]) (.cond (.t 16) (.seq (.reg c_r08_Orbits_r5 [2,3]) .ret) .skip)) (.seq (.reg c_r08_Orbits_r6 [1,5]) (.seq (.seq (.reg c_r08_Orbits_r7 [1,5,6]) (.block 0 (.loop [1,5,6] (c_r08_Orbits_b15 F)))) (.seq (.reg c_r08_Orbits_r16 [2,3]) .ret))))))
def h_r08_Orbits : Hints := hn [] [(0,[1]),(1,[1,4]),(2,[1,4,11]),(3,[2,3]),(4,[1,16]),(5,[2,3]),(6,[1,5]),(7,[1,5,6]),(8,[1,5,6,21]),(9,[1,5,6]),(10,[1,5,6,7]),(11,[1,5,6,7,33]),(12,[1,5,6,7]),(13,[1,5,6]),(14,[2,3])] [(8,[1,5,6]),(11,[1,5,6,7])]
def movR (g : G) (u v : Nat) : Bool := decide (gt g.n (u : Int) = gt g.n (v : Int)) && !(allR (setG g u) (setG g v) 1).isEmpty
def orbF (g : G) (i : Nat) : Nat → Nat → Nat
 | 0, k => k
 | f + 1, k => if k < i ∧ movR g k i = false then orbF g i f (k + 1) else k
def orbV (g : G) (i : Nat) : Int := (orbF g i i 0 : Nat)
def orbRf (g : G) : List Int × Int := if validG g = 0 then (if 12 < g.n.length then ([], 3) else ((List.range g.n.length).map (orbV g), 0)) else ([], validG g)
section
variable (P : Program) (F : String → Nat)
def K_r08_moves : Prop := ∀ (g : G) (u v : Nat), InG g → u < g.n.length → v < g.n.length → FC P (F "r08.moves") [gD g, .int .i64 u, .int .i64 v] (.bool (movR g u v)) []
def K_r08_Orbits : Prop := ∀ g : G, FC P (F "r08.Orbits") [gD g] (.tup [.arr 1 (ints (orbRf g).1), .int .i64 (orbRf g).2]) []
end
section
variable {P : Program} {F : String → Nat} {α : Type}
theorem w_r08_moves (hc : K_r05_Copied P F) (hl : K_r08_all P F) (g : G) (u v : Nat) (vg : InG g) (h1 : u < g.n.length) (h2 : v < g.n.length) : W P (c_r08_moves F) (Done [.t 6] [] (.bool (movR g u v)) []) (init [gD g, .int .i64 u, .int .i64 v]) := by
 refine W_of ?_
 have r1 := hc g (by have := vg.1; omega) (by have := vg.2.1; omega)
 have r2 := hl (setG g u) (setG g v) 1 (vg.set u) (vg.set v) (by omega) (by omega)
 have hlen := allR_len (setG g u) (setG g v) (most := 1) (by omega)
 have hM : movR g u v = (decide (gt g.n (u : Int) = gt g.n (v : Int)) && !(allR (setG g u) (setG g v) 1).isEmpty) := rfl
 have hg1 := vg.1
 generalize allR (setG g u) (setG g v) 1 = l at *
 generalize movR g u v = R at *
 obtain ⟨ns, es⟩ := g
 simp only [gD, gA, setG] at *
 simp (disch := omega) only [go_sem, ↓reduceIte]
 refine call_by r1 ?_
 simp (disch := omega) only [go_sem, ↓reduceIte]
 refine call_by r1 ?_
 simp (disch := omega) only [go_sem, ↓reduceIte]
 refine bran_ndec (fun d => ?_) (fun d => ?_)
 ·rw [decide_eq_false d, Bool.false_and] at hM
  subst hM
  simp (disch := omega) only [go_sem, ↓reduceIte]
 ·rw [decide_eq_true d, Bool.true_and] at hM
  simp (disch := omega) only [go_sem, ↓reduceIte]
  refine call_by r2 ?_
  cases hfl : (pts l).all D.flatE
  all_goals
   simp (disch := omega) only [go_sem, ↓reduceIte, hfl]
   have : decide ((0 : Int) < l.length) = R := by
    rw [hM]
    cases l with
    | nil => simp
    | cons x l => simp
   rw [this]
theorem orbF_le (g : G) (i : Nat) : ∀ f k, k ≤ i → orbF g i f k ≤ i
 | 0, k, h => h
 | f + 1, k, h => by
  rw [orbF]
  split
  ·exact orbF_le g i f (k + 1) (by omega)
  ·exact h
theorem w_r08_Orbits (hv : K_r05_Valid P F) (hm : K_r08_moves P F) (g : G) : W P (c_r08_Orbits F) (Done [.t 2, .t 3] [] (.tup [.arr 1 (ints (orbRf g).1), .int .i64 (orbRf g).2]) []) (init [gD g]) := by
 have r1 := hv g
 by_cases h0 : validG g = 0
 ·by_cases h1 : 12 < g.n.length
  ·rw [show orbRf g = ([], 3) by unfold orbRf; rw [if_pos h0, if_pos h1]]
   rw [h0] at r1
   have d0 : decide ((0 : Int) = 0) = true := rfl
   have d1 : decide ((12 : Int) < g.n.length) = true := decide_eq_true (by omega)
   simp only [gD] at *
   refine W_of ?_
   simp (disch := omega) only [go_sem, ↓reduceIte]
   refine call_by r1 ?_
   simp (disch := omega) only [go_sem, ↓reduceIte, d0, d1]
   rfl
  ·rw [show orbRf g = ((List.range g.n.length).map (orbV g), 0) by unfold orbRf; rw [if_pos h0, if_neg h1]]
   rw [h0] at r1
   have r2 := fun u v => hm g u v (InG.of_valid h0)
   have hV : ∀ i, orbV g i = (orbF g i i 0 : Nat) := fun _ => rfl
   have hF : ∀ i f k, orbF g i (f + 1) k = if k < i ∧ movR g k i = false then orbF g i f (k + 1) else k := fun _ _ _ => rfl
   have hF0 : ∀ i k, orbF g i 0 k = k := fun _ _ => rfl
   have hRt : ∀ v, v < g.n.length → ((List.range g.n.length).take (v + 1)).map (orbV g) = ((List.range g.n.length).take v).map (orbV g) ++ [orbV g v] := fun v hv => by
    rw [List.take_range, List.take_range, show min (v + 1) g.n.length = v + 1 by omega, show min v g.n.length = v by omega, List.range_succ, List.map_append]
    rfl
   have hRn : ((List.range g.n.length).take g.n.length).map (orbV g) = (List.range g.n.length).map (orbV g) := by rw [List.take_of_length_le (by simp)]
   obtain ⟨A, hA⟩ : ∃ A : Nat → List Int, ∀ v, A v = ((List.range g.n.length).take v).map (orbV g) := ⟨_, fun _ => rfl⟩
   have hA0 : A 0 = [] := by rw [hA]; rfl
   have hAl : ∀ v, v ≤ g.n.length → (A v).length = v := fun v hv => by rw [hA]; simp; omega
   simp only [← hA] at hRt hRn
   rw [← hRn]
   generalize orbF g = oF at *
   generalize movR g = mv at *
   clear hA hRn
   generalize orbV g = V at *
   clear hv hm
   simp only [gD] at *
   refine W_of ?_
   have d0 : decide ((0 : Int) = 0) = true := rfl
   have d1 : decide ((12 : Int) < g.n.length) = false := decide_eq_false (by omega)
   simp (disch := omega) only [go_sem, ↓reduceIte]
   refine call_by r1 ?_
   simp (disch := omega) only [go_sem, ↓reduceIte, d0, d1]
   refine W_loop (fun v : Nat => ⟨[(1, .pt 0 0), (5, .sl 1 0 v), (6, .int .i64 v)], [(0, .box [.lst 1 (ints g.n), .lst 3 (eds g.e)]), (1, .arr 1 (ints (A v)))], 2⟩) (fun v => v ≤ g.n.length) (fun v => g.n.length - v) 0 ?_ ?_ ?_
   ·simp (disch := omega) only [go_sem, ↓reduceIte, hA0]
    rfl
   ·omega
   ·intro v hv
    have hAv := hAl v hv
    simp (disch := omega) only [go_sem, ↓reduceIte, c_r08_Orbits_b15]
    refine bran_dec (fun d => ?_) (fun d => ?_)
    ·have hRv := hRt v (by omega)
     have hVv := hV v
     have hAv2 := hAl (v + 1) (by omega)
     simp (disch := omega) only [go_sem, ↓reduceIte]
     refine W_loop (fun u : Nat => ⟨[(1, .pt 0 0), (5, .sl 1 0 v), (6, .int .i64 v), (7, .int .i64 u)], [(0, .box [.lst 1 (ints g.n), .lst 3 (eds g.e)]), (1, .arr 1 (ints (A v)))], 2⟩)
      (fun u => u ≤ v ∧ V v = (oF v (v - u) u : Nat)) (fun u => v - u) 0 ?_ ?_ ?_
     ·simp (disch := omega) only [go_sem, ↓reduceIte]
      rfl
     ·exact ⟨Nat.zero_le _, by rw [hVv, Nat.sub_zero]⟩
     ·rintro u ⟨k1, k2⟩
      by_cases c1 : u < v
      ·have e1 : decide ((u : Int) < v) = true := decide_eq_true (by omega)
       have q2 := r2 u v (by omega) (by omega)
       have hk : v - u = (v - (u + 1)) + 1 := by omega
       rw [hk, hF] at k2
       generalize mv u v = m at *
       simp (disch := omega) only [go_sem, ↓reduceIte, c_r08_Orbits_b12, e1]
       refine call_by q2 ?_
       cases m with
       | false =>
        rw [if_pos ⟨c1, rfl⟩] at k2
        simp (disch := omega) only [go_sem, ↓reduceIte, e1]
        exact ⟨u + 1, by simp, ⟨by omega, k2⟩, by omega⟩
       | true =>
        rw [if_neg (fun h => by simp at h)] at k2
        simp (disch := omega) only [go_sem, ↓reduceIte, e1, hAv]
        exact ⟨v + 1, by simp [hRv, k2], by omega, by omega⟩
      ·have e1 : decide ((u : Int) < v) = false := decide_eq_false (by omega)
       obtain rfl : u = v := by omega
       rw [Nat.sub_self, hF0] at k2
       simp (disch := omega) only [go_sem, ↓reduceIte, c_r08_Orbits_b12, e1, hAv]
       exact ⟨u + 1, by simp [hRv, k2], by omega, by omega⟩
    ·obtain rfl : v = g.n.length := by omega
     simp (disch := omega) only [go_sem, ↓reduceIte, hAv]
 ·rw [show orbRf g = ([], validG g) from if_neg h0]
  generalize validG g = e at *
  simp only [gD] at *
  refine W_of ?_
  have d0 : decide (e = 0) = false := decide_eq_false h0
  simp (disch := omega) only [go_sem, ↓reduceIte]
  refine call_by r1 ?_
  simp (disch := omega) only [go_sem, ↓reduceIte, d0]
  rfl
end
end Go.Am
