/- The graph package and its reference: parts. -/
import Derived.Test.YtelmgaflhmcihaaGreatSpPa
import Derived.Test.YtelmgaflhmcihaaGreatSpPb
import Derived.Test.YtelmgaflhmcihaaGreatSpPc
import Derived.Test.YtelmgaflhmcihaaGreatSpPd
import Derived.Test.YtelmgaflhmcihaaGreatSpPe
import Derived.Test.YtelmgaflhmcihaaGreatAmZc
namespace Go.Am
open Go
set_option linter.unusedVariables false
set_option linter.unusedSimpArgs false
@[go_sem] def c_r05_kind_r0 : LL := [qb 2 false]
@[go_sem] def c_r05_kind_r1 : LL := [qm 3 0,qk .geq 4 3 0,qm 5 4,qg 5 true (qm 6 0),qg 5 true (qk .leq 7 6 99),qP 8 5 7,qm 2 8]
@[go_sem] def c_r05_kind (F : Fn) : LC := (.seq (.reg c_r05_kind_r0 [0]) (.seq (.reg c_r05_kind_r1 [2]) .ret))
def h_r05_kind : Hints := hOf [] (c_r05_kind fun _ => 0)
@[go_sem] def c_r05_right_r0 : LL := [qB 2 0,qb 4 false]
@[go_sem] def c_r05_right_r1 (F : Fn) : LL := [qf 5 0 2,ql 6 1 5,qc 7 (F "r05.kind") [.t 6],qm 8 7,qg 8 true (qf 9 1 2),qg 8 true (ql 10 1 9),qg 8 true (qk .geq 11 10 0),qP 12 8 11,qm 13 12,qg 13 true (qf 14 1 2),qg 13 true (ql 15 1 14),
 qg 13 true (qm 16 1),qg 13 true (qo .lss 17 15 16),qP 18 13 17,qm 19 18,qg 19 true (qf 20 2 2),qg 19 true (ql 21 1 20),qg 19 true (qk .geq 22 21 0),qP 23 19 22,qm 24 23,
 qg 24 true (qf 25 2 2),qg 24 true (ql 26 1 25),qg 24 true (qm 27 1),qg 24 true (qo .lss 28 26 27),qP 29 24 28,qm 4 29]
@[go_sem] def c_r05_right (F : Fn) : LC := (.seq (.reg c_r05_right_r0 [1,2]) (.seq (.reg (c_r05_right_r1 F) [4]) .ret))
def h_r05_right : Hints := hOf [] (c_r05_right fun _ => 0)
@[go_sem] def c_r05_Few_r0 : LL := [qB 1 0,qb 2 false]
@[go_sem] def c_r05_Few_r1 : LL := [qf 3 0 1,ql 4 1 3,qz 5 4,qk .leq 6 5 45,qm 7 6,qg 7 true (qf 8 1 1),qg 7 true (ql 9 1 8),qg 7 true (qz 10 9),qg 7 true (qk .leq 11 10 90),qP 12 7 11,qm 2 12]
@[go_sem] def c_r05_Few (F : Fn) : LC := (.seq (.reg c_r05_Few_r0 [1]) (.seq (.reg c_r05_Few_r1 [2]) .ret))
def h_r05_Few : Hints := hOf [] (c_r05_Few fun _ => 0)
def few (g : G) : Bool := decide (g.n.length ≤ 45) && decide (g.e.length ≤ 90)
section
variable (P : Program) (F : String → Nat)
def K_r05_kind : Prop := ∀ n : Int, FC P (F "r05.kind") [.int .i64 n] (.bool (okN n)) []
def K_r05_right : Prop := ∀ (x : E) (n : Int), FC P (F "r05.right") [edD x, .int .i64 n] (.bool (fitsE n x)) []
def K_r05_Valid : Prop := ∀ g : G, FC P (F "r05.Valid") [gD g] (.int .i64 (validG g)) []
def K_r05_Few : Prop := ∀ g : G, FC P (F "r05.Few") [gD g] (.bool (few g)) []
end
section
variable {P : Program} {F : String → Nat} {α : Type}
theorem w_r05_Few (g : G) : W P (c_r05_Few F) (Done [.t 2] [] (.bool (few g)) []) (init [gD g]) := by
 refine W_of ?_
 obtain ⟨ns, es⟩ := g
 simp (disch := omega) only [go_sem, ↓reduceIte, gD]
 refine bran_dec (fun a => ?_) (fun a => ?_)
 ·simp (disch := omega) only [go_sem, ↓reduceIte, a]
  have : ns.length ≤ 45 := by omega
  simp [few, this]
  omega
 ·simp (disch := omega) only [go_sem, ↓reduceIte, a]
  have : ¬ ns.length ≤ 45 := by omega
  simp [few, this]
theorem w_r05_kind (n : Int) : W P (c_r05_kind F) (Done [.t 2] [] (.bool (okN n)) []) (init [.int .i64 n]) := by
 refine W_of ?_
 simp (disch := omega) only [go_sem, ↓reduceIte]
 refine bran_dec (fun a => ?_) (fun a => ?_)
 ·simp (disch := omega) only [go_sem, ↓reduceIte, a]
  simp [okN, a]
 ·simp (disch := omega) only [go_sem, ↓reduceIte, a]
  simp [okN, a]
theorem w_r05_right (h : K_r05_kind P F) (x : E) (n : Int) : W P (c_r05_right F) (Done [.t 4] [] (.bool (fitsE n x)) []) (init [edD x, .int .i64 n]) := by
 refine W_of ?_
 simp (disch := omega) only [go_sem, ↓reduceIte, edD]
 refine call_by (h _) ?_
 simp (disch := omega) only [go_sem, ↓reduceIte]
 refine bran_by (fun a => ?_) (fun a => ?_)
 ·have a' : 0 ≤ x.t ∧ x.t ≤ 99 := by simpa [okN] using a
  simp (disch := omega) only [go_sem, ↓reduceIte, a]
  refine bran_dec (fun b => ?_) (fun b => ?_)
  ·simp (disch := omega) only [go_sem, ↓reduceIte, b]
   refine bran_dec (fun c => ?_) (fun c => ?_)
   ·simp (disch := omega) only [go_sem, ↓reduceIte, c]
    refine bran_dec (fun d => ?_) (fun d => ?_)
    ·simp (disch := omega) only [go_sem, ↓reduceIte, d]
     have e1 : decide (x.f ≤ n - 1) = true := by rw [decide_eq_true_eq]; omega
     have e2 : decide (x.o < n) = decide (x.o ≤ n - 1) := by rw [Bool.eq_iff_iff, decide_eq_true_eq, decide_eq_true_eq]; omega
     simp only [fitsE, Bool.decide_and, a', b, d, e1, e2, decide_true, Bool.true_and, Bool.and_true]
    ·simp (disch := omega) only [go_sem, ↓reduceIte, d]
     simp [fitsE, a', d]
   ·simp (disch := omega) only [go_sem, ↓reduceIte, c]
    simp [fitsE, a']
    omega
  ·simp (disch := omega) only [go_sem, ↓reduceIte, b]
   simp [fitsE, a']
   omega
 ·have a' : ¬ (0 ≤ x.t ∧ x.t ≤ 99) := by simpa [okN] using a
  simp (disch := omega) only [go_sem, ↓reduceIte, a]
  simp [fitsE, a']
end
@[go_sem] def c_r05_Valid_r0 : LL := [qB 1 0,qi 2 0]
@[go_sem] def c_r05_Valid_r1 : LL := [qf 5 0 1,ql 6 1 5,qz 7 6,qk .gtr 8 7 40,qm 9 8,qg 9 false (qf 10 1 1),qg 9 false (ql 11 1 10),qg 9 false (qz 12 11),qg 9 false (qk .gtr 13 12 80),qQ 14 9 13]
@[go_sem] def c_r05_Valid_r2 : LL := [qi 2 3]
@[go_sem] def c_r05_Valid_r3 : LL := [qi 3 0]
@[go_sem] def c_r05_Valid_r4 : LL := [qm 15 3,qf 16 0 1,ql 17 1 16,qz 18 17,qo .lss 19 15 18]
@[go_sem] def c_r05_Valid_r5 (F : Fn) : LL := [qf 22 0 1,ql 23 1 22,qm 24 3,qd 25 1 23 24,ql 26 1 25,qc 27 (F "r05.kind") [.t 26],qv 28 27]
@[go_sem] def c_r05_Valid_r6 : LL := [qi 2 6]
@[go_sem] def c_r05_Valid_r7 : LL := [qm 20 3,qk .add 21 20 1,qm 3 21]
def c_r05_Valid_b8 (F : Fn) : LC := (.seq (.seq (.reg c_r05_Valid_r4 [1,3,19]) (.cond (.t 19) .skip (.exit 0))) (.seq (.block 1 (.seq (.reg (c_r05_Valid_r5 F) [1,3,28]) (.cond (.t 28) (.seq (.reg c_r05_Valid_r6 [2]) .ret) .skip))) (.reg c_r05_Valid_r7 [1,3])))
@[go_sem] def c_r05_Valid_r9 : LL := [qi 4 0]
@[go_sem] def c_r05_Valid_r10 : LL := [qm 29 4,qf 30 1 1,ql 31 1 30,qz 32 31,qo .lss 33 29 32]
@[go_sem] def c_r05_Valid_r11 (F : Fn) : LL := [qf 36 1 1,ql 37 1 36,qm 38 4,qd 39 3 37 38,qL 40 3 39,qf 41 0 1,ql 42 1 41,qz 43 42,qc 44 (F "r05.right") [.t 40,.t 43],qv 45 44]
@[go_sem] def c_r05_Valid_r12 : LL := [qi 2 6]
@[go_sem] def c_r05_Valid_r13 : LL := [qm 34 4,qk .add 35 34 1,qm 4 35]
def c_r05_Valid_b14 (F : Fn) : LC := (.seq (.seq (.reg c_r05_Valid_r10 [1,4,33]) (.cond (.t 33) .skip (.exit 2))) (.seq (.block 3 (.seq (.dreg [] (c_r05_Valid_r11 F) [1,4,45]) (.cond (.t 45) (.seq (.reg c_r05_Valid_r12 [2]) .ret) .skip))) (.reg c_r05_Valid_r13 [1,4])))
@[go_sem] def c_r05_Valid_r15 : LL := [qi 2 0]
@[go_sem] def c_r05_Valid (F : Fn) : LC := (.seq (.reg c_r05_Valid_r0 [1]) (.seq (.seq (.reg c_r05_Valid_r1 [1,14]) (.cond (.t 14) (.seq (.reg c_r05_Valid_r2 [2]) .ret) .skip)) (.seq (.seq (.reg c_r05_Valid_r3 [1,3]) (.block 0 (.loop [1,3] (c_r05_Valid_b8 F)))) (.seq (.seq (.reg c_r05_Valid_r9 [1,4]) (.block 2 (.loop [1,4] (c_r05_Valid_b14 F)))) (.seq (.reg c_r05_Valid_r15 [2]) .ret)))))
def h_r05_Valid : Hints := hn [] [(0,[1]),(1,[1,14]),(2,[2]),(3,[1,3]),(4,[1,3,19]),(5,[1,3]),(6,[1,3,28]),(7,[2]),(8,[1,4]),(9,[1,4,33]),(10,[1,4]),(11,[1,4,45]),(12,[2]),(13,[2])] [(4,[1,3]),(9,[1,4])]
section
variable {P : Program} {F : String → Nat} {α : Type}
theorem w_r05_Valid (hk : K_r05_kind P F) (hr : K_r05_right P F) (g : G) : W P (c_r05_Valid F) (Done [.t 2] [] (.int .i64 (validG g)) []) (init [gD g]) := by
 refine W_of ?_
 obtain ⟨ns, es⟩ := g
 simp (disch := omega) only [go_sem, ↓reduceIte, gD]
 refine bran_dec (fun a1 => ?_) (fun a1 => ?_)
 ·simp (disch := omega) only [go_sem, ↓reduceIte, a1]
  simp [validG]
  omega
 ·simp (disch := omega) only [go_sem, ↓reduceIte, a1]
  refine bran_dec (fun a2 => ?_) (fun a2 => ?_)
  ·simp (disch := omega) only [go_sem, ↓reduceIte]
   simp [validG]
   omega
  ·have hv : validG ⟨ns, es⟩ = if ns.all okN && es.all (fitsE ns.length) then 0 else 6 := by
    simp only [validG]; rw [if_neg (by omega)]
   rw [hv]
   simp (disch := omega) only [go_sem, ↓reduceIte]
   refine W_loop (fun i : Nat => ⟨[(1, .pt 0 0), (3, .int .i64 i)], [(0, .box [.lst 1 (ints ns), .lst 3 (eds es)])], 1⟩) (fun i => i ≤ ns.length ∧ ns.all okN = (ns.drop i).all okN) (fun i => ns.length - i) 0 ?_ ?_ ?_
   ·simp (disch := omega) only [go_sem, ↓reduceIte]
    rfl
   ·simp
   ·intro i hi
    simp (disch := omega) only [go_sem, ↓reduceIte, c_r05_Valid_b8]
    refine bran_dec (fun f => ?_) (fun f => ?_)
    ·have hd := drop_gt (l := ns) (i := i) (by omega)
     simp (disch := omega) only [go_sem, ↓reduceIte]
     refine call_by (hk _) ?_
     simp (disch := omega) only [go_sem, ↓reduceIte]
     refine bran_nby (fun d => ?_) (fun d => ?_)
     ·simp (disch := omega) only [go_sem, ↓reduceIte]
      rw [hi.2, hd]
      simp [d]
     ·simp (disch := omega) only [go_sem, ↓reduceIte]
      exact ⟨i + 1, by simp, ⟨by omega, by rw [hi.2, hd]; simp [d]⟩, by omega⟩
    ·have hn : ns.all okN = true := by rw [hi.2, List.drop_of_length_le (by omega)]; rfl
     simp (disch := omega) only [go_sem, ↓reduceIte]
     refine W_loop (fun i : Nat => ⟨[(1, .pt 0 0), (4, .int .i64 i)], [(0, .box [.lst 1 (ints ns), .lst 3 (eds es)])], 1⟩) (fun i => i ≤ es.length ∧ es.all (fitsE ns.length) = (es.drop i).all (fitsE ns.length)) (fun i => es.length - i) 0 ?_ ?_ ?_
     ·simp (disch := omega) only [go_sem, ↓reduceIte]
      rfl
     ·simp
     ·intro i hi
      simp (disch := omega) only [go_sem, ↓reduceIte, c_r05_Valid_b14]
      refine bran_dec (fun f => ?_) (fun f => ?_)
      ·have hd := drop_gt (l := es) (i := i) (by omega)
       simp (disch := omega) only [go_sem, ↓reduceIte]
       refine call_by (hr _ _) ?_
       simp (disch := omega) only [go_sem, ↓reduceIte]
       refine bran_nby (fun d => ?_) (fun d => ?_)
       ·simp (disch := omega) only [go_sem, ↓reduceIte]
        rw [hi.2, hd]
        simp [d]
       ·simp (disch := omega) only [go_sem, ↓reduceIte]
        exact ⟨i + 1, by simp, ⟨by omega, by rw [hi.2, hd]; simp [d]⟩, by omega⟩
      ·simp (disch := omega) only [go_sem, ↓reduceIte]
       rw [hi.2, List.drop_of_length_le (by omega), hn]
       rfl
end
section
variable (P : Program) (F : String → Nat)
end
def shI : Sh := .int .i64
def shIs : Sh := .slc 1 8 shI
def shE : Sh := .cat [shI, shI, shI]
def shG : Sh := .cat [shIs, .slc 3 24 shE]
theorem rd_int {x : D} (h : HasEl shI x) : ∃ n : Int, x = .int .i64 n ∧ IntKind.i64.min ≤ n ∧ n ≤ IntKind.i64.max := by
 simpa only [shI, HasEl] using h
theorem rd_intl : ∀ {xs : List D}, (∀ y ∈ xs, HasEl shI y) → ∃ l : List Int, xs = ints l
 | [], _ => ⟨[], rfl⟩
 | x :: xs, h => by
  obtain ⟨l, rfl⟩ := rd_intl (xs := xs) fun y hy => h y (by simp [hy])
  obtain ⟨n, rfl, _⟩ := rd_int (h x (by simp))
  exact ⟨n :: l, rfl⟩
theorem rd_ints {x : D} (h : HasEl shIs x) : ∃ l : List Int, x = .lst 1 (ints l) ∧ l.length ≤ 20000000000000 := by
 simp only [shIs, HasEl] at h
 obtain ⟨xs, rfl, h1, h2⟩ := h
 obtain ⟨l, rfl⟩ := rd_intl h2
 refine ⟨l, rfl, ?_⟩
 rw [ints_length] at h1
 unfold reachBytes at h1
 omega
theorem rd_edge {x : D} (h : HasEl shE x) : ∃ e : E, x = edD e := by
 simp only [shE, HasEl] at h
 obtain ⟨ds, rfl, h⟩ := h
 simp only [shI, HasShs, HasEl] at h
 obtain ⟨_, _, rfl, ⟨a, rfl, _⟩, _, _, rfl, ⟨b, rfl, _⟩, _, _, rfl, ⟨c, rfl, _⟩, rfl⟩ := h
 exact ⟨⟨a, b, c⟩, rfl⟩
theorem rd_edl : ∀ {xs : List D}, (∀ y ∈ xs, HasEl shE y) → ∃ l : List E, xs = eds l
 | [], _ => ⟨[], rfl⟩
 | x :: xs, h => by
  obtain ⟨l, rfl⟩ := rd_edl (xs := xs) fun y hy => h y (by simp [hy])
  obtain ⟨n, rfl⟩ := rd_edge (h x (by simp))
  exact ⟨n :: l, rfl⟩
theorem rd_graph {x : D} (h : HasEl shG x) : ∃ g : G, x = gD g := by
 simp only [shG, HasEl] at h
 obtain ⟨ds, rfl, h⟩ := h
 have h' : ∃ a b, ds = a :: b ∧ HasEl shIs a ∧ HasShs [.slc 3 24 shE] b := by simpa only [shIs, HasShs] using h
 obtain ⟨a, _, rfl, h1, h'⟩ := h'
 obtain ⟨l, rfl, _⟩ := rd_ints h1
 simp only [HasShs, HasEl] at h'
 obtain ⟨_, _, rfl, ⟨xs, rfl, _, h3⟩, rfl⟩ := h'
 obtain ⟨es, rfl⟩ := rd_edl h3
 exact ⟨⟨l, es⟩, rfl⟩
theorem hasShs_slc {z b : Nat} {e : Sh} {l : List Sh} {ds : List D} (h : HasShs (.slc z b e :: l) ds) : ∃ a b', ds = a :: b' ∧ HasEl (.slc z b e) a ∧ HasShs l b' := by simpa only [HasShs] using h
theorem hasShs_nil {ds : List D} (h : HasShs [] ds) : ds = [] := by simpa only [HasShs] using h
def moL (m : Mo) : List D := [.lst 1 (ints m.n), .lst 1 (ints m.e)]
def shM : Sh := .cat [shIs, shIs]
theorem rd_ml {ds : List D} (h : HasShs [shIs, shIs] ds) : ∃ m : Mo, ds = moL m ∧ m.sm := by
 obtain ⟨_, _, rfl, h1, h⟩ := hasShs_slc h
 obtain ⟨_, _, rfl, h2, h⟩ := hasShs_slc h
 obtain rfl := hasShs_nil h
 obtain ⟨n, rfl, l1⟩ := rd_ints h1
 obtain ⟨e, rfl, l2⟩ := rd_ints h2
 exact ⟨⟨n, e⟩, rfl, by simp only [maxL]; omega, by simp only [maxL]; omega⟩
theorem rd_morph {x : D} (h : HasEl shM x) : ∃ m : Mo, x = mD m ∧ m.sm := by
 simp only [shM, HasEl] at h
 obtain ⟨ds, rfl, h⟩ := h
 obtain ⟨m, rfl, h2⟩ := rd_ml h
 exact ⟨m, rfl, h2⟩
section
variable {P : Program} {F : String → Nat} {α : Type}
end
@[go_sem] def c_r06_Valid_r0 : LL := [qB 3 0,qB 4 1,qB 5 2,qi 6 0]
@[go_sem] def c_r06_Valid_r1 (F : Fn) : LL := [qL 13 2 3,qc 14 (F "r05.Valid") [.t 13],qm 7 14]
@[go_sem] def c_r06_Valid_r2 : LL := [qm 15 7,qk .neq 16 15 0]
@[go_sem] def c_r06_Valid_r3 : LL := [qm 17 7,qm 6 17]
@[go_sem] def c_r06_Valid_r4 (F : Fn) : LL := [qL 18 2 4,qc 19 (F "r05.Valid") [.t 18],qm 8 19]
@[go_sem] def c_r06_Valid_r5 : LL := [qm 20 8,qk .neq 21 20 0]
@[go_sem] def c_r06_Valid_r6 : LL := [qm 22 8,qm 6 22]
@[go_sem] def c_r06_Valid_r7 : LL := [qf 23 0 5,ql 24 1 23,qz 25 24,qf 26 0 3,ql 27 1 26,qz 28 27,qo .neq 29 25 28,qm 30 29,qg 30 false (qf 31 1 5),qg 30 false (ql 32 1 31),qg 30 false (qz 33 32),
 qg 30 false (qf 34 1 3),qg 30 false (ql 35 1 34),qg 30 false (qz 36 35),qg 30 false (qo .neq 37 33 36),qQ 38 30 37]
@[go_sem] def c_r06_Valid_r8 : LL := [qi 6 20]
@[go_sem] def c_r06_Valid_r9 : LL := [qi 9 0]
@[go_sem] def c_r06_Valid_r10 : LL := [qm 39 9,qf 40 0 3,ql 41 1 40,qz 42 41,qo .lss 43 39 42]
@[go_sem] def c_r06_Valid_r11 : LL := [qf 46 0 5,ql 47 1 46,qm 48 9,qd 49 1 47 48,ql 50 1 49,qk .lss 51 50 0,qm 52 51,qg 52 false (qf 53 0 5),qg 52 false (ql 54 1 53),qg 52 false (qm 55 9),qg 52 false (qd 56 1 54 55),
 qg 52 false (ql 57 1 56),qg 52 false (qf 58 0 4),qg 52 false (ql 59 1 58),qg 52 false (qz 60 59),qg 52 false (qo .geq 61 57 60),qQ 62 52 61]
@[go_sem] def c_r06_Valid_r12 : LL := [qi 6 6]
@[go_sem] def c_r06_Valid_r13 : LL := [qf 63 0 4,ql 64 1 63,qf 65 0 5,ql 66 1 65,qm 67 9,qd 68 1 66 67,ql 69 1 68,qd 70 1 64 69,ql 71 1 70,qf 72 0 3,ql 73 1 72,qm 74 9,qd 75 1 73 74,ql 76 1 75,qo .neq 77 71 76]
@[go_sem] def c_r06_Valid_r14 : LL := [qi 6 13]
@[go_sem] def c_r06_Valid_r15 : LL := [qm 44 9,qk .add 45 44 1,qm 9 45]
def c_r06_Valid_b16 : LC := (.seq (.seq (.reg c_r06_Valid_r10 [3,4,5,9,43]) (.cond (.t 43) .skip (.exit 0))) (.seq (.block 1 (.seq (.seq (.dreg [] c_r06_Valid_r11 [3,4,5,9,62]) (.cond (.t 62) (.seq (.reg c_r06_Valid_r12 [6]) .ret) .skip)) (.seq (.dreg [] c_r06_Valid_r13 [3,4,5,9,77]) (.cond (.t 77) (.seq (.reg c_r06_Valid_r14 [6]) .ret) .skip)))) (.reg c_r06_Valid_r15 [3,4,5,9])))
@[go_sem] def c_r06_Valid_r17 : LL := [qi 10 0]
@[go_sem] def c_r06_Valid_r18 : LL := [qm 78 10,qf 79 1 3,ql 80 1 79,qz 81 80,qo .lss 82 78 81]
@[go_sem] def c_r06_Valid_r19 : LL := [qf 85 1 5,ql 86 1 85,qm 87 10,qd 88 1 86 87,ql 89 1 88,qk .lss 90 89 0,qm 91 90,qg 91 false (qf 92 1 5),qg 91 false (ql 93 1 92),qg 91 false (qm 94 10),qg 91 false (qd 95 1 93 94),
 qg 91 false (ql 96 1 95),qg 91 false (qf 97 1 4),qg 91 false (ql 98 1 97),qg 91 false (qz 99 98),qg 91 false (qo .geq 100 96 99),qQ 101 91 100]
@[go_sem] def c_r06_Valid_r20 : LL := [qi 6 6]
@[go_sem] def c_r06_Valid_r21 : LL := [qf 102 1 3,ql 103 1 102,qm 104 10,qd 105 3 103 104,qL 106 3 105,qf 107 1 4,ql 108 1 107,qf 109 1 5,ql 110 1 109,qm 111 10,qd 112 1 110 111,ql 113 1 112,qd 114 3 108 113,
 qL 115 3 114,qa 11 [.int .i64 (0),.int .i64 (0),.int .i64 (0)],qa 12 [.int .i64 (0),.int .i64 (0),.int .i64 (0)],qs 3 11 106,qs 3 12 115]
@[go_sem] def c_r06_Valid_r22 : LL := [qf 116 0 11,ql 117 1 116,qf 118 0 12,ql 119 1 118,qo .neq 120 117 119]
@[go_sem] def c_r06_Valid_r23 : LL := [qi 6 13]
@[go_sem] def c_r06_Valid_r24 : LL := [qf 121 0 5,ql 122 1 121,qf 123 1 11,ql 124 1 123,qd 125 1 122 124,ql 126 1 125,qf 127 1 12,ql 128 1 127,qo .neq 129 126 128,qm 130 129,qg 130 false (qf 131 0 5),
 qg 130 false (ql 132 1 131),qg 130 false (qf 133 2 11),qg 130 false (ql 134 1 133),qg 130 false (qd 135 1 132 134),qg 130 false (ql 136 1 135),qg 130 false (qf 137 2 12),
 qg 130 false (ql 138 1 137),qg 130 false (qo .neq 139 136 138),qQ 140 130 139]
@[go_sem] def c_r06_Valid_r25 : LL := [qi 6 11]
@[go_sem] def c_r06_Valid_r26 : LL := [qm 83 10,qk .add 84 83 1,qm 10 84]
def c_r06_Valid_b27 : LC := (.seq (.seq (.reg c_r06_Valid_r18 [3,4,5,10,82]) (.cond (.t 82) .skip (.exit 2))) (.seq (.block 3 (.seq (.seq (.dreg [] c_r06_Valid_r19 [3,4,5,10,101]) (.cond (.t 101) (.seq (.reg c_r06_Valid_r20 [6]) .ret) .skip)) (.seq (.dreg [(6,none,[],true),(8,none,[],true),(10,none,[],true),(11,none,[],true),(12,none,[],true),(13,none,[],true),(16,none,[6,8,10,11,12,13],false)] c_r06_Valid_r21 [3,4,5,10,11,12]) (.seq (.seq (.reg c_r06_Valid_r22 [3,4,5,10,11,12,120]) (.cond (.t 120) (.seq (.reg c_r06_Valid_r23 [6]) .ret) .skip)) (.seq (.dreg [] c_r06_Valid_r24 [3,4,5,10,140]) (.cond (.t 140) (.seq (.reg c_r06_Valid_r25 [6]) .ret) .skip)))))) (.reg c_r06_Valid_r26 [3,4,5,10])))
@[go_sem] def c_r06_Valid_r28 : LL := [qi 6 0]
@[go_sem] def c_r06_Valid (F : Fn) : LC := (.seq (.reg c_r06_Valid_r0 [3,4,5]) (.seq (.seq (.reg (c_r06_Valid_r1 F) [3,4,5,7]) (.seq (.reg c_r06_Valid_r2 [3,4,5,7,16]) (.cond (.t 16) (.seq (.reg c_r06_Valid_r3 [6]) .ret) .skip))) (.seq (.seq (.reg (c_r06_Valid_r4 F) [3,4,5,8]) (.seq (.reg c_r06_Valid_r5 [3,4,5,8,21]) (.cond (.t 21) (.seq (.reg c_r06_Valid_r6 [6]) .ret) .skip))) (.seq (.seq (.reg c_r06_Valid_r7 [3,4,5,38]) (.cond (.t 38) (.seq (.reg c_r06_Valid_r8 [6]) .ret) .skip)) (.seq (.seq (.reg c_r06_Valid_r9 [3,4,5,9]) (.block 0 (.loop [3,4,5,9] c_r06_Valid_b16))) (.seq (.seq (.reg c_r06_Valid_r17 [3,4,5,10]) (.block 2 (.loop [3,4,5,10] c_r06_Valid_b27))) (.seq (.reg c_r06_Valid_r28 [6]) .ret)))))))
def h_r06_Valid : Hints := hn [] [(0,[3,4,5]),(1,[3,4,5,7]),(2,[3,4,5,7,16]),(3,[6]),(4,[3,4,5,8]),(5,[3,4,5,8,21]),(6,[6]),(7,[3,4,5,38]),(8,[6]),(9,[3,4,5,9]),(10,[3,4,5,9,43]),(11,[3,4,5,9]),(12,[3,4,5,9,62]),(13,[6]),(14,[3,4,5,9,77]),(15,[6]),(16,[3,4,5,10]),(17,[3,4,5,10,82]),(18,[3,4,5,10]),(19,[3,4,5,10,101]),(20,[6]),(21,[3,4,5,10,11,12]),(22,[3,4,5,10,11,12,120]),(23,[6]),(24,[3,4,5,10,140]),(25,[6]),(26,[6])] [(10,[3,4,5,9]),(17,[3,4,5,10])]
@[go_sem] def c_r02_SameInts_r0 : LL := [qb 4 false]
@[go_sem] def c_r02_SameInts_r1 : LL := [qm 6 0,qz 7 6,qm 8 1,qz 9 8,qo .neq 10 7 9]
@[go_sem] def c_r02_SameInts_r2 : LL := [qb 4 false]
@[go_sem] def c_r02_SameInts_r3 : LL := [qi 5 0]
@[go_sem] def c_r02_SameInts_r4 : LL := [qm 11 5,qm 12 0,qz 13 12,qo .lss 14 11 13]
@[go_sem] def c_r02_SameInts_r5 : LL := [qm 17 0,qm 18 5,qd 19 1 17 18,ql 20 1 19,qm 21 1,qm 22 5,qd 23 1 21 22,ql 24 1 23,qo .neq 25 20 24]
@[go_sem] def c_r02_SameInts_r6 : LL := [qb 4 false]
@[go_sem] def c_r02_SameInts_r7 : LL := [qm 15 5,qk .add 16 15 1,qm 5 16]
def c_r02_SameInts_b8 : LC := (.seq (.seq (.reg c_r02_SameInts_r4 [0,1,5,14]) (.cond (.t 14) .skip (.exit 0))) (.seq (.block 1 (.seq (.dreg [] c_r02_SameInts_r5 [0,1,5,25]) (.cond (.t 25) (.seq (.reg c_r02_SameInts_r6 [4]) .ret) .skip))) (.reg c_r02_SameInts_r7 [0,1,5])))
@[go_sem] def c_r02_SameInts_r9 : LL := [qb 4 true]
@[go_sem] def c_r02_SameInts (F : Fn) : LC := (.seq (.reg c_r02_SameInts_r0 [0,1]) (.seq (.seq (.reg c_r02_SameInts_r1 [0,1,10]) (.cond (.t 10) (.seq (.reg c_r02_SameInts_r2 [4]) .ret) .skip)) (.seq (.seq (.reg c_r02_SameInts_r3 [0,1,5]) (.block 0 (.loop [0,1,5] c_r02_SameInts_b8))) (.seq (.reg c_r02_SameInts_r9 [4]) .ret))))
def h_r02_SameInts : Hints := hn [] [(0,[0,1]),(1,[0,1,10]),(2,[4]),(3,[0,1,5]),(4,[0,1,5,14]),(5,[0,1,5]),(6,[0,1,5,25]),(7,[4]),(8,[4])] [(4,[0,1,5])]
@[go_sem] def c_r06_Same_r0 : LL := [qB 2 0,qB 3 1,qb 4 false]
@[go_sem] def c_r06_Same_r1 (F : Fn) : LL := [qf 5 0 2,ql 6 1 5,qf 7 0 3,ql 8 1 7,qc 9 (F "r02.SameInts") [.t 6,.t 8],qm 10 9,qg 10 true (qf 11 1 2),qg 10 true (ql 12 1 11),qg 10 true (qf 13 1 3),qg 10 true (ql 14 1 13),
 qg 10 true (qc 15 (F "r02.SameInts") [.t 12,.t 14]),qP 16 10 15,qm 4 16]
@[go_sem] def c_r06_Same (F : Fn) : LC := (.seq (.reg c_r06_Same_r0 [2,3]) (.seq (.reg (c_r06_Same_r1 F) [4]) .ret))
def h_r06_Same : Hints := hOf [] (c_r06_Same fun _ => 0)
@[go_sem] def c_r06_Through_r0 : LL := [qn 4 1]
@[go_sem] def c_r06_Through_r1 : LL := [qn 5 1]
@[go_sem] def c_r06_Through_r2 : LL := [qi 6 0]
@[go_sem] def c_r06_Through_r3 : LL := [qm 7 6,qm 8 0,qz 9 8,qo .lss 10 7 9]
@[go_sem] def c_r06_Through_r4 : LL := [qm 13 5,qm 14 1,qm 15 0,qm 16 6,qd 17 1 15 16,ql 18 1 17,qd 19 1 14 18,ql 20 1 19,⟨some 21,.buildSl 1 8 (.int .i64 (0)) 1 [(0,.t 20)],none⟩,qp 22 1 8 13 21,qm 5 22]
@[go_sem] def c_r06_Through_r5 : LL := [qm 11 6,qk .add 12 11 1,qm 6 12]
def c_r06_Through_b6 : LC := (.seq (.seq (.reg c_r06_Through_r3 [0,1,5,6,10]) (.cond (.t 10) .skip (.exit 0))) (.seq (.block 1 (.reg c_r06_Through_r4 [0,1,5,6])) (.reg c_r06_Through_r5 [0,1,5,6])))
@[go_sem] def c_r06_Through_r7 : LL := [qm 23 5,qm 4 23]
@[go_sem] def c_r06_Through (F : Fn) : LC := (.seq (.reg c_r06_Through_r0 [0,1]) (.seq (.reg c_r06_Through_r1 [0,1,5]) (.seq (.seq (.reg c_r06_Through_r2 [0,1,5,6]) (.block 0 (.loop [0,1,5,6] c_r06_Through_b6))) (.seq (.reg c_r06_Through_r7 [4]) .ret))))
def h_r06_Through : Hints := hOf [] (c_r06_Through fun _ => 0)
@[go_sem] def c_r06_Then_r0 : LL := [qB 2 0,qB 3 1,qa 4 [.nl 1,.nl 1]]
@[go_sem] def c_r06_Then_r1 (F : Fn) : LL := [qf 5 0 2,ql 6 1 5,qf 7 0 3,ql 8 1 7,qc 9 (F "r06.Through") [.t 6,.t 8],qf 10 1 2,ql 11 1 10,qf 12 1 3,ql 13 1 12,qc 14 (F "r06.Through") [.t 11,.t 13],qu 15 [.nl 1,.nl 1] [(0,1,.t 9),(1,1,.t 14)],
 qs 2 4 15]
@[go_sem] def c_r06_Then (F : Fn) : LC := (.seq (.reg c_r06_Then_r0 [2,3,4]) (.seq (.dreg [(4,none,[],true),(6,(some 32),[4],false),(8,(some 128),[4],false)] (c_r06_Then_r1 F) [4]) .ret))
def h_r06_Then : Hints := hOf [] (c_r06_Then fun _ => 0)
@[go_sem] def c_r06_Few_r0 : LL := [qB 2 0,qb 4 false]
@[go_sem] def c_r06_Few_r1 : LL := [qf 5 0 2,ql 6 1 5,qz 7 6,qf 8 1 2,ql 9 1 8,qz 10 9,qo .add 11 7 10,qm 12 1,qo .leq 13 11 12,qm 4 13]
@[go_sem] def c_r06_Few (F : Fn) : LC := (.seq (.reg c_r06_Few_r0 [1,2]) (.seq (.reg c_r06_Few_r1 [4]) .ret))
def h_r06_Few : Hints := hOf [] (c_r06_Few fun _ => 0)
def fewM (m : Mo) (n : Int) : Bool := decide ((m.n.length : Int) + m.e.length ≤ n)
section
variable (P : Program) (F : String → Nat)
def K_r06_Valid : Prop := ∀ (a b : G) (m : Mo), FC P (F "r06.Valid") [gD a, gD b, mD m] (.int .i64 (validM a b m)) []
def K_r02_SameInts : Prop := ∀ a b : List Int, a.length ≤ maxL → FC P (F "r02.SameInts") [.lst 1 (ints a), .lst 1 (ints b)] (.bool (decide (a = b))) []
def K_r06_Same : Prop := ∀ a b : Mo, a.n.length ≤ maxL → a.e.length ≤ maxL → FC P (F "r06.Same") [mD a, mD b] (.bool (decide (a = b))) []
def K_r06_Through : Prop := ∀ l b : List Int, l.length ≤ 1000000 → (∀ x ∈ l, 0 ≤ x ∧ x < b.length) → FC P (F "r06.Through") [.lst 1 (ints l), .lst 1 (ints b)] (.arr 1 (ints (thr l b))) []
def K_r06_Then : Prop := ∀ m n : Mo, m.n.length ≤ 1000000 → m.e.length ≤ 1000000 → (∀ x ∈ m.n, 0 ≤ x ∧ x < n.n.length) → (∀ x ∈ m.e, 0 ≤ x ∧ x < n.e.length) → FC P (F "r06.Then") [mD m, mD n] (mA (thenM m n)) []
def K_r06_Few : Prop := ∀ (m : Mo) (n : Int), m.n.length ≤ maxL → m.e.length ≤ maxL → FC P (F "r06.Few") [mD m, .int .i64 n] (.bool (fewM m n)) []
end
section
variable {P : Program} {F : String → Nat} {α : Type}
theorem w_r06_Valid (hv : K_r05_Valid P F) (a b : G) (m : Mo) : W P (c_r06_Valid F) (Done [.t 6] [] (.int .i64 (validM a b m)) []) (init [gD a, gD b, mD m]) := by
 refine W_of ?_
 have rva := hv a
 have rvb := hv b
 have sva := @valid_spec a
 have svb := @valid_spec b
 have hvm : validM a b m = if validG a ≠ 0 then validG a else if validG b ≠ 0 then validG b else if m.n.length ≠ a.n.length ∨ m.e.length ≠ a.e.length then 20
  else if nodeE b.n m.n a.n ≠ 0 then nodeE b.n m.n a.n else edgeE b.e m.n m.e a.e := rfl
 rw [hvm]
 generalize validG a = va at *
 generalize validG b = vb at *
 clear hvm
 obtain ⟨an, ae⟩ := a
 obtain ⟨bn, be⟩ := b
 obtain ⟨mn, me⟩ := m
 simp only [gD] at rva rvb
 simp only at sva svb
 simp (disch := omega) only [go_sem, ↓reduceIte, gD, mD]
 refine call_by rva ?_
 simp (disch := omega) only [go_sem, ↓reduceIte]
 refine bran_ndec (fun c1 => ?_) (fun c1 => ?_)
 ·simp (disch := omega) only [go_sem, ↓reduceIte]
 ·subst c1
  obtain ⟨a1, a2, _, a4⟩ := sva rfl
  simp (disch := omega) only [go_sem, ↓reduceIte]
  refine call_by rvb ?_
  simp (disch := omega) only [go_sem, ↓reduceIte]
  refine bran_ndec (fun c2 => ?_) (fun c2 => ?_)
  ·simp (disch := omega) only [go_sem, ↓reduceIte]
   simp [c2]
  ·subst c2
   obtain ⟨b1, b2, _, b4⟩ := svb rfl
   simp (disch := omega) only [go_sem, ↓reduceIte]
   refine bran_ndec (fun c3 => ?_) (fun c3 => ?_)
   ·simp (disch := omega) only [go_sem, ↓reduceIte, c3]
    rw [if_neg (by simp), if_neg (by simp)]
   ·simp (disch := omega) only [go_sem, ↓reduceIte, c3]
    refine bran_ndec (fun c4 => ?_) (fun c4 => ?_)
    ·simp (disch := omega) only [go_sem, ↓reduceIte, c3, c4]
     rw [if_neg (by simp), if_neg (by simp)]
    ·have d3 : mn.length = an.length := by omega
     have d4 : me.length = ae.length := by omega
     rw [if_neg (by simp), if_neg (by simp), if_neg (by simp only; omega)]
     clear c3 c4
     simp (disch := omega) only [go_sem, ↓reduceIte, d3, d4]
     refine W_loop (fun i : Nat => ⟨[(3, .pt 0 0), (4, .pt 1 0), (5, .pt 2 0), (9, .int .i64 i)],
      [(0, .box [.lst 1 (ints an), .lst 3 (eds ae)]), (1, .box [.lst 1 (ints bn), .lst 3 (eds be)]), (2, .box [.lst 1 (ints mn), .lst 1 (ints me)])], 3⟩)
      (fun i => i ≤ mn.length ∧ nodeE bn mn an = nodeE bn (mn.drop i) (an.drop i)) (fun i => mn.length - i) 0 ?_ ?_ ?_
     ·simp (disch := omega) only [go_sem, ↓reduceIte, d3]
      rfl
     ·simp
     ·rintro i ⟨hi, hn⟩
      simp (disch := omega) only [go_sem, ↓reduceIte, c_r06_Valid_b16]
      refine bran_dec (fun c5 => ?_) (fun c5 => ?_)
      ·have hs := nodeE_step (bn := bn) (ms := mn) (as := an) (i := i) (by omega) (by omega)
       simp (disch := omega) only [go_sem, ↓reduceIte]
       refine bran_dec (fun c6 => ?_) (fun c6 => ?_)
       ·simp (disch := omega) only [go_sem, ↓reduceIte, c6]
        rw [if_neg (show ¬ (0 ≤ gt mn i ∧ gt mn i < bn.length) by omega)] at hs
        rw [hn, hs]
        try simp
       ·simp (disch := omega) only [go_sem, ↓reduceIte, c6]
        refine bran_dec (fun c7 => ?_) (fun c7 => ?_)
        ·simp (disch := omega) only [go_sem, ↓reduceIte]
         rw [if_neg (show ¬ (0 ≤ gt mn i ∧ gt mn i < bn.length) by omega)] at hs
         rw [hn, hs]
         try simp
        ·rw [if_pos (show (0 ≤ gt mn i ∧ gt mn i < bn.length) by omega)] at hs
         simp (disch := omega) only [go_sem, ↓reduceIte]
         refine bran_ndec (fun c8 => ?_) (fun c8 => ?_)
         ·rw [if_neg c8] at hs
          simp (disch := omega) only [go_sem, ↓reduceIte]
          rw [hn, hs]
          try simp
         ·rw [if_pos c8] at hs
          simp (disch := omega) only [go_sem, ↓reduceIte]
          exact ⟨i + 1, by simp, ⟨by omega, by rw [hn, hs]⟩, by omega⟩
      ·rw [nodeE_end (by omega)] at hn
       simp (disch := omega) only [go_sem, ↓reduceIte]
       refine W_loop (fun i : Nat => ⟨[(3, .pt 0 0), (4, .pt 1 0), (5, .pt 2 0), (10, .int .i64 i)],
        [(0, .box [.lst 1 (ints an), .lst 3 (eds ae)]), (1, .box [.lst 1 (ints bn), .lst 3 (eds be)]), (2, .box [.lst 1 (ints mn), .lst 1 (ints me)])], 3⟩)
        (fun i => i ≤ me.length ∧ edgeE be mn me ae = edgeE be mn (me.drop i) (ae.drop i)) (fun i => me.length - i) 0 ?_ ?_ ?_
       ·simp (disch := omega) only [go_sem, ↓reduceIte, d4]
        rfl
       ·simp
       ·rintro i ⟨hi, he⟩
        simp (disch := omega) only [go_sem, ↓reduceIte, c_r06_Valid_b27]
        refine bran_dec (fun c5 => ?_) (fun c5 => ?_)
        ·have hs := edgeE_step (be := be) (mn := mn) (ms := me) (as := ae) (i := i) (by omega) (by omega)
         have hae := fits_spec (a4 _ (gt_mem (l := ae) (j := i) (by omega) (by omega)))
         simp (disch := omega) only [go_sem, ↓reduceIte]
         refine bran_dec (fun c6 => ?_) (fun c6 => ?_)
         ·simp (disch := omega) only [go_sem, ↓reduceIte, c6]
          rw [if_neg (show ¬ (0 ≤ gt me i ∧ gt me i < be.length) by omega)] at hs
          rw [hn, he, hs]
          simp
         ·simp (disch := omega) only [go_sem, ↓reduceIte, c6]
          refine bran_dec (fun c7 => ?_) (fun c7 => ?_)
          ·simp (disch := omega) only [go_sem, ↓reduceIte]
           rw [if_neg (show ¬ (0 ≤ gt me i ∧ gt me i < be.length) by omega)] at hs
           rw [hn, he, hs]
           simp
          ·rw [if_pos (show (0 ≤ gt me i ∧ gt me i < be.length) by omega)] at hs
           simp (disch := omega) only [go_sem, ↓reduceIte]
           refine bran_ndec (fun c8 => ?_) (fun c8 => ?_)
           ·rw [if_neg c8] at hs
            simp (disch := omega) only [go_sem, ↓reduceIte]
            rw [hn, he, hs]
            simp
           ·rw [if_pos c8] at hs
            simp (disch := omega) only [go_sem, ↓reduceIte]
            refine bran_ndec (fun c9 => ?_) (fun c9 => ?_)
            ·rw [if_neg (fun h => c9 h.1)] at hs
             simp (disch := omega) only [go_sem, ↓reduceIte, c9]
             rw [hn, he, hs]
             simp
            ·simp (disch := omega) only [go_sem, ↓reduceIte, c9]
             refine bran_ndec (fun d1 => ?_) (fun d1 => ?_)
             ·rw [if_neg (fun h => d1 h.2)] at hs
              simp (disch := omega) only [go_sem, ↓reduceIte]
              rw [hn, he, hs]
              simp
             ·rw [if_pos ⟨c9, d1⟩] at hs
              simp (disch := omega) only [go_sem, ↓reduceIte]
              exact ⟨i + 1, by simp, ⟨by omega, by rw [he, hs]⟩, by omega⟩
        ·rw [edgeE_end (by omega)] at he
         simp (disch := omega) only [go_sem, ↓reduceIte]
         rw [hn, he]
         simp
theorem w_r02_SameInts (a b : List Int) (hl : a.length ≤ maxL) : W P (c_r02_SameInts F) (Done [.t 4] [] (.bool (decide (a = b))) []) (init [.lst 1 (ints a), .lst 1 (ints b)]) := by
 refine W_of ?_
 unfold maxL at hl
 simp (disch := omega) only [go_sem, ↓reduceIte]
 refine bran_ndec (fun h => ?_) (fun h => ?_)
 ·simp (disch := omega) only [go_sem, ↓reduceIte]
  have : a ≠ b := fun e => h (by rw [e])
  simp [this]
 ·have h' : a.length = b.length := by omega
  simp (disch := omega) only [go_sem, ↓reduceIte]
  refine W_loop (fun i : Nat => ⟨[(0, .lst 1 (ints a)), (1, .lst 1 (ints b)), (5, .int .i64 i)], [], 0⟩) (fun i => i ≤ a.length ∧ a.take i = b.take i) (fun i => a.length - i) 0 ?_ ?_ ?_
  ·simp (disch := omega) only [go_sem, ↓reduceIte]
   rfl
  ·simp
  ·intro i hi
   simp (disch := omega) only [go_sem, ↓reduceIte, c_r02_SameInts_b8]
   refine bran_dec (fun c => ?_) (fun c => ?_)
   ·simp (disch := omega) only [go_sem, ↓reduceIte]
    refine bran_ndec (fun d => ?_) (fun d => ?_)
    ·simp (disch := omega) only [go_sem, ↓reduceIte]
     have : a ≠ b := fun e => d (by rw [e])
     simp [this]
    ·simp (disch := omega) only [go_sem, ↓reduceIte]
     exact ⟨i + 1, by simp, ⟨by omega, by rw [take_gt (by omega), take_gt (by omega), hi.2, d]⟩, by omega⟩
   ·simp (disch := omega) only [go_sem, ↓reduceIte]
    obtain rfl : i = a.length := by omega
    have := hi.2
    rw [List.take_length, List.take_of_length_le (by omega)] at this
    simp [this]
theorem w_r06_Same (hs : K_r02_SameInts P F) (a b : Mo) (h1 : a.n.length ≤ maxL) (h2 : a.e.length ≤ maxL) : W P (c_r06_Same F) (Done [.t 4] [] (.bool (decide (a = b))) []) (init [mD a, mD b]) := by
 refine W_of ?_
 obtain ⟨an, ae⟩ := a
 obtain ⟨bn, be⟩ := b
 simp only at h1 h2
 simp (disch := omega) only [go_sem, ↓reduceIte, mD]
 refine call_by (hs _ _ h1) ?_
 simp (disch := omega) only [go_sem, ↓reduceIte]
 refine bran_dec (fun c => ?_) (fun c => ?_)
 ·subst c
  simp (disch := omega) only [go_sem, ↓reduceIte]
  refine call_by (hs _ _ h2) ?_
  simp (disch := omega) only [go_sem, ↓reduceIte]
  simp
 ·simp (disch := omega) only [go_sem, ↓reduceIte, c]
  simp [c]
theorem w_r06_Through (l b : List Int) (hl : l.length ≤ 1000000) (hb : ∀ x ∈ l, 0 ≤ x ∧ x < b.length) : W P (c_r06_Through F) (Done [.t 4] [] (.arr 1 (ints (thr l b))) []) (init [.lst 1 (ints l), .lst 1 (ints b)]) := by
 refine W_of ?_
 simp (disch := omega) only [go_sem, ↓reduceIte]
 refine W_loop (fun i : Nat => ⟨[(0, .lst 1 (ints l)), (1, .lst 1 (ints b)), (5, .sl 0 0 i), (6, .int .i64 i)], [(0, .arr 1 (ints (thr (l.take i) b)))], 1⟩) (fun i => i ≤ l.length) (fun i => l.length - i) 0 ?_ ?_ ?_
 ·simp (disch := omega) only [go_sem, ↓reduceIte]
  rfl
 ·simp
 ·intro i hi
  have el : (thr (l.take i) b).length = i := by rw [thr_len]; simp; omega
  simp (disch := omega) only [go_sem, ↓reduceIte, c_r06_Through_b6]
  refine bran_dec (fun c => ?_) (fun c => ?_)
  ·have hx := hb _ (gt_mem (l := l) (j := i) (by omega) (by omega))
   simp (disch := omega) only [go_sem, ↓reduceIte, el]
   exact ⟨i + 1, by simp [thr_step (show i < l.length by omega)], by omega, by omega⟩
  ·simp (disch := omega) only [go_sem, ↓reduceIte, el]
   rw [List.take_of_length_le (by omega)]
theorem w_r06_Then (ht : K_r06_Through P F) (m n : Mo) (h1 : m.n.length ≤ 1000000) (h2 : m.e.length ≤ 1000000) (h3 : ∀ x ∈ m.n, 0 ≤ x ∧ x < n.n.length) (h4 : ∀ x ∈ m.e, 0 ≤ x ∧ x < n.e.length) :
  W P (c_r06_Then F) (Done [.c 4 true 2] [] (mA (thenM m n)) []) (init [mD m, mD n]) := by
 refine W_of ?_
 obtain ⟨mn, me⟩ := m
 obtain ⟨nn, ne⟩ := n
 have r1 := ht mn nn h1 h3
 have r2 := ht me ne h2 h4
 simp (disch := omega) only [go_sem, ↓reduceIte, mD]
 refine call_by r1 ?_
 simp (disch := omega) only [go_sem, ↓reduceIte]
 refine call_by r2 ?_
 simp (disch := omega) only [go_sem, ↓reduceIte, mA, thenM]
theorem w_r06_Few (m : Mo) (n : Int) (h1 : m.n.length ≤ maxL) (h2 : m.e.length ≤ maxL) : W P (c_r06_Few F) (Done [.t 4] [] (.bool (fewM m n)) []) (init [mD m, .int .i64 n]) := by
 refine W_of ?_
 obtain ⟨mn, me⟩ := m
 simp only [maxL] at h1 h2
 simp (disch := omega) only [go_sem, ↓reduceIte, mD, fewM]
end
@[go_sem] def c_r06_Distinct_r0 : LL := [qb 2 false]
@[go_sem] def c_r06_Distinct_r1 : LL := [qi 3 0]
@[go_sem] def c_r06_Distinct_r2 : LL := [qm 5 3,qm 6 0,qz 7 6,qo .lss 8 5 7]
@[go_sem] def c_r06_Distinct_r3 : LL := [qi 4 0]
@[go_sem] def c_r06_Distinct_r4 : LL := [qm 11 4,qm 12 3,qo .lss 13 11 12]
@[go_sem] def c_r06_Distinct_r5 : LL := [qm 16 0,qm 17 3,qd 18 1 16 17,ql 19 1 18,qm 20 0,qm 21 4,qd 22 1 20 21,ql 23 1 22,qo .eql 24 19 23]
@[go_sem] def c_r06_Distinct_r6 : LL := [qb 2 false]
@[go_sem] def c_r06_Distinct_r7 : LL := [qm 14 4,qk .add 15 14 1,qm 4 15]
def c_r06_Distinct_b8 : LC := (.seq (.seq (.reg c_r06_Distinct_r4 [0,3,4,13]) (.cond (.t 13) .skip (.exit 2))) (.seq (.block 3 (.seq (.dreg [] c_r06_Distinct_r5 [0,3,4,24]) (.cond (.t 24) (.seq (.reg c_r06_Distinct_r6 [2]) .ret) .skip))) (.reg c_r06_Distinct_r7 [0,3,4])))
@[go_sem] def c_r06_Distinct_r9 : LL := [qm 9 3,qk .add 10 9 1,qm 3 10]
def c_r06_Distinct_b10 : LC := (.seq (.seq (.reg c_r06_Distinct_r2 [0,3,8]) (.cond (.t 8) .skip (.exit 0))) (.seq (.block 1 (.seq (.reg c_r06_Distinct_r3 [0,3,4]) (.block 2 (.loop [0,3,4] c_r06_Distinct_b8)))) (.reg c_r06_Distinct_r9 [0,3])))
@[go_sem] def c_r06_Distinct_r11 : LL := [qb 2 true]
@[go_sem] def c_r06_Distinct (F : Fn) : LC := (.seq (.reg c_r06_Distinct_r0 [0]) (.seq (.seq (.reg c_r06_Distinct_r1 [0,3]) (.block 0 (.loop [0,3] c_r06_Distinct_b10))) (.seq (.reg c_r06_Distinct_r11 [2]) .ret)))
def h_r06_Distinct : Hints := hn [] [(0,[0]),(1,[0,3]),(2,[0,3,8]),(3,[0,3]),(4,[0,3,4]),(5,[0,3,4,13]),(6,[0,3,4]),(7,[0,3,4,24]),(8,[2]),(9,[2])] [(2,[0,3]),(5,[0,3,4])]
@[go_sem] def c_r06_Injective_r0 : LL := [qB 3 0,qB 4 1,qB 5 2,qb 6 false]
@[go_sem] def c_r06_Injective_r1 (F : Fn) : LL := [qL 7 2 3,qL 8 2 4,qL 9 2 5,qc 10 (F "r06.Valid") [.t 7,.t 8,.t 9],qk .eql 11 10 0,qm 12 11,qg 12 true (qf 13 0 5),qg 12 true (ql 14 1 13),qg 12 true (qc 15 (F "r06.Distinct") [.t 14]),qP 16 12 15,
 qm 17 16,qg 17 true (qf 18 1 5),qg 17 true (ql 19 1 18),qg 17 true (qc 20 (F "r06.Distinct") [.t 19]),qP 21 17 20,qm 6 21]
@[go_sem] def c_r06_Injective (F : Fn) : LC := (.seq (.reg c_r06_Injective_r0 [3,4,5]) (.seq (.reg (c_r06_Injective_r1 F) [6]) .ret))
def h_r06_Injective : Hints := hOf [] (c_r06_Injective fun _ => 0)
section
variable (P : Program) (F : String → Nat)
def K_r06_Distinct : Prop := ∀ l : List Int, l.length ≤ maxL → FC P (F "r06.Distinct") [.lst 1 (ints l)] (.bool (distinct l)) []
def K_r06_Injective : Prop := ∀ (a b : G) (m : Mo), m.n.length ≤ maxL → m.e.length ≤ maxL → FC P (F "r06.Injective") [gD a, gD b, mD m] (.bool (injM a b m)) []
end
section
variable {P : Program} {F : String → Nat} {α : Type}
theorem nodup_take {l : List Int} {i : Nat} (h : i < l.length) : (l.take (i + 1)).Nodup ↔ (l.take i).Nodup ∧ ∀ k : Nat, k < i → gt l i ≠ gt l k := by
 rw [take_gt h, List.nodup_append]
 simp only [List.nodup_cons, List.not_mem_nil, not_false_eq_true, List.nodup_nil, and_self, true_and, List.mem_cons, or_false, forall_eq, ne_eq]
 refine and_congr_right fun _ => ⟨fun hh k hk e => ?_, fun hh x hx e => ?_⟩
 ·refine hh (gt l k) ?_ e.symm
  rw [gt_nat (by omega)]
  exact List.mem_take_iff_getElem.2 ⟨k, by omega, rfl⟩
 ·obtain ⟨k, hk, rfl⟩ := List.mem_take_iff_getElem.1 hx
  refine hh k (by omega) ?_
  rw [gt_nat (l := l) (i := k) (by omega)]
  exact e.symm
theorem w_r06_Distinct (l : List Int) (hl : l.length ≤ maxL) : W P (c_r06_Distinct F) (Done [.t 2] [] (.bool (distinct l)) []) (init [.lst 1 (ints l)]) := by
 refine W_of ?_
 unfold maxL at hl
 simp (disch := omega) only [go_sem, ↓reduceIte]
 refine W_loop (fun i : Nat => ⟨[(0, .lst 1 (ints l)), (3, .int .i64 i)], [], 0⟩) (fun i => i ≤ l.length ∧ (l.take i).Nodup) (fun i => l.length - i) 0 ?_ ?_ ?_
 ·simp (disch := omega) only [go_sem, ↓reduceIte]
  rfl
 ·simp
 ·rintro i ⟨hi, hn⟩
  simp (disch := omega) only [go_sem, ↓reduceIte, c_r06_Distinct_b10]
  refine bran_dec (fun c => ?_) (fun c => ?_)
  ·have ht := nodup_take (l := l) (i := i) (by omega)
   simp (disch := omega) only [go_sem, ↓reduceIte]
   refine W_loop (fun k : Nat => ⟨[(0, .lst 1 (ints l)), (3, .int .i64 i), (4, .int .i64 k)], [], 0⟩) (fun k => k ≤ i ∧ ∀ j : Nat, j < k → gt l i ≠ gt l j) (fun k => i - k) 0 ?_ ?_ ?_
   ·simp (disch := omega) only [go_sem, ↓reduceIte]
    rfl
   ·simp
   ·rintro k ⟨hk, hd⟩
    simp (disch := omega) only [go_sem, ↓reduceIte, c_r06_Distinct_b8]
    refine bran_dec (fun d => ?_) (fun d => ?_)
    ·simp (disch := omega) only [go_sem, ↓reduceIte]
     refine bran_dec (fun e => ?_) (fun e => ?_)
     ·simp (disch := omega) only [go_sem, ↓reduceIte]
      have : ¬ l.Nodup := fun h => by
       have h2 := ht.1 (h.sublist (List.take_sublist _ _))
       exact h2.2 k (by omega) e
      simp [distinct, this]
     ·simp (disch := omega) only [go_sem, ↓reduceIte]
      refine ⟨k + 1, by simp, ⟨by omega, fun j hj => ?_⟩, by omega⟩
      by_cases hjk : j = k
      ·subst hjk; exact e
      ·exact hd j (by omega)
    ·simp (disch := omega) only [go_sem, ↓reduceIte]
     exact ⟨i + 1, by simp, ⟨by omega, ht.2 ⟨hn, fun j hj => hd j (by omega)⟩⟩, by omega⟩
  ·simp (disch := omega) only [go_sem, ↓reduceIte]
   rw [List.take_of_length_le (by omega)] at hn
   simp [distinct, hn]
theorem w_r06_Injective (hv : K_r06_Valid P F) (hd : K_r06_Distinct P F) (a b : G) (m : Mo) (h1 : m.n.length ≤ maxL) (h2 : m.e.length ≤ maxL) : W P (c_r06_Injective F) (Done [.t 6] [] (.bool (injM a b m)) []) (init [gD a, gD b, mD m]) := by
 refine W_of ?_
 have rv := hv a b m
 have hi : injM a b m = (decide (validM a b m = 0) && (distinct m.n && distinct m.e)) := rfl
 rw [hi]
 generalize validM a b m = v at *
 have r1 := hd m.n h1
 have r2 := hd m.e h2
 obtain ⟨an, ae⟩ := a
 obtain ⟨bn, be⟩ := b
 obtain ⟨mn, me⟩ := m
 simp only [gD, mD] at rv r1 r2 ⊢
 simp (disch := omega) only [go_sem, ↓reduceIte]
 refine call_by rv ?_
 simp (disch := omega) only [go_sem, ↓reduceIte]
 refine bran_dec (fun c => ?_) (fun c => ?_)
 ·simp (disch := omega) only [go_sem, ↓reduceIte, c]
  refine call_by r1 ?_
  simp (disch := omega) only [go_sem, ↓reduceIte]
  refine bran_by (fun d => ?_) (fun d => ?_)
  ·simp (disch := omega) only [go_sem, ↓reduceIte, c, d]
   refine call_by r2 ?_
   simp (disch := omega) only [go_sem, ↓reduceIte, c, d]
  ·simp (disch := omega) only [go_sem, ↓reduceIte, c, d]
 ·simp (disch := omega) only [go_sem, ↓reduceIte, c]
end
section
variable (P : Program) (F : String → Nat)
end
section
variable {P : Program} {F : String → Nat} {α : Type}
theorem idx_mem {l : List Pr} {q : Pr} : 0 ≤ idx (fun p => decide (p = q)) l 0 ↔ q ∈ l := by
 have := idx_ge (fun p => decide (p = q)) l 0 (by omega)
 rw [← decide_eq_true_iff (p := 0 ≤ idx (fun p => decide (p = q)) l 0), this, List.any_eq_true]
 simp
theorem pairsL_in {f g : List Int} {a b : Int} (ha : 0 ≤ a ∧ a < f.length) (hb : 0 ≤ b ∧ b < g.length) : (⟨a, b⟩ : Pr) ∈ pairsL f g ↔ gt f a = gt g b := by
 rw [pairsL_mem]
 constructor
 ·rintro ⟨i, k, h1, h2, h3, h4⟩
  simp only [Pr.mk.injEq] at h4
  rw [h4.1, h4.2]; exact h3
 ·intro h
  refine ⟨a.toNat, b.toNat, by omega, by omega, ?_, ?_⟩
  ·rw [Int.toNat_of_nonneg ha.1, Int.toNat_of_nonneg hb.1]; exact h
  ·rw [Int.toNat_of_nonneg ha.1, Int.toNat_of_nonneg hb.1]
end
attribute [local irreducible] W
@[go_sem] def c_r07_has_r0 : LL := [qb 4 false]
@[go_sem] def c_r07_has_r1 : LL := [qi 5 0]
@[go_sem] def c_r07_has_r2 : LL := [qm 6 5,qm 7 0,qz 8 7,qo .lss 9 6 8]
@[go_sem] def c_r07_has_r3 : LL := [qm 12 0,qm 13 5,qd 14 1 12 13,ql 15 1 14,qm 16 1,qo .eql 17 15 16]
@[go_sem] def c_r07_has_r4 : LL := [qb 4 true]
@[go_sem] def c_r07_has_r5 : LL := [qm 10 5,qk .add 11 10 1,qm 5 11]
def c_r07_has_b6 : LC := (.seq (.seq (.reg c_r07_has_r2 [0,1,5,9]) (.cond (.t 9) .skip (.exit 0))) (.seq (.block 1 (.seq (.reg c_r07_has_r3 [0,1,5,17]) (.cond (.t 17) (.seq (.reg c_r07_has_r4 [4]) .ret) .skip))) (.reg c_r07_has_r5 [0,1,5])))
@[go_sem] def c_r07_has_r7 : LL := [qb 4 false]
@[go_sem] def c_r07_has (F : Fn) : LC := (.seq (.reg c_r07_has_r0 [0,1]) (.seq (.seq (.reg c_r07_has_r1 [0,1,5]) (.block 0 (.loop [0,1,5] c_r07_has_b6))) (.seq (.reg c_r07_has_r7 [4]) .ret)))
def h_r07_has : Hints := hn [] [(0,[0,1]),(1,[0,1,5]),(2,[0,1,5,9]),(3,[0,1,5]),(4,[0,1,5,17]),(5,[4]),(6,[4])] [(2,[0,1,5])]
@[go_sem] def c_r07_ascending_r0 : LL := [qi 4 0]
@[go_sem] def c_r07_ascending_r1 : LL := [qi 5 0]
@[go_sem] def c_r07_ascending_r2 : LL := [qm 6 5,qm 7 0,qz 8 7,qo .lss 9 6 8]
@[go_sem] def c_r07_ascending_r3 : LL := [qm 12 0,qm 13 5,qd 14 1 12 13,ql 15 1 14,qk .lss 16 15 0,qm 17 16,qg 17 false (qm 18 0),qg 17 false (qm 19 5),qg 17 false (qd 20 1 18 19),qg 17 false (ql 21 1 20),
 qg 17 false (qm 22 1),qg 17 false (qo .geq 23 21 22),qQ 24 17 23]
@[go_sem] def c_r07_ascending_r4 : LL := [qi 4 6]
@[go_sem] def c_r07_ascending_r5 : LL := [qm 25 5,qk .gtr 26 25 0,qm 27 26,qg 27 true (qm 28 0),qg 27 true (qm 29 5),qg 27 true (qd 30 1 28 29),qg 27 true (ql 31 1 30),qg 27 true (qm 32 0),qg 27 true (qm 33 5),
 qg 27 true (qk .sub 34 33 1),qg 27 true (qd 35 1 32 34),qg 27 true (ql 36 1 35),qg 27 true (qo .leq 37 31 36),qP 38 27 37]
@[go_sem] def c_r07_ascending_r6 : LL := [qi 4 12]
@[go_sem] def c_r07_ascending_r7 : LL := [qm 10 5,qk .add 11 10 1,qm 5 11]
def c_r07_ascending_b8 : LC := (.seq (.seq (.reg c_r07_ascending_r2 [0,1,5,9]) (.cond (.t 9) .skip (.exit 0))) (.seq (.block 1 (.seq (.seq (.reg c_r07_ascending_r3 [0,1,5,24]) (.cond (.t 24) (.seq (.reg c_r07_ascending_r4 [4]) .ret) .skip)) (.seq (.dreg [] c_r07_ascending_r5 [0,1,5,38]) (.cond (.t 38) (.seq (.reg c_r07_ascending_r6 [4]) .ret) .skip)))) (.reg c_r07_ascending_r7 [0,1,5])))
@[go_sem] def c_r07_ascending_r9 : LL := [qi 4 0]
@[go_sem] def c_r07_ascending (F : Fn) : LC := (.seq (.reg c_r07_ascending_r0 [0,1]) (.seq (.seq (.reg c_r07_ascending_r1 [0,1,5]) (.block 0 (.loop [0,1,5] c_r07_ascending_b8))) (.seq (.reg c_r07_ascending_r9 [4]) .ret)))
def h_r07_ascending : Hints := hn [] [(0,[0,1]),(1,[0,1,5]),(2,[0,1,5,9]),(3,[0,1,5]),(4,[0,1,5,24]),(5,[4]),(6,[0,1,5,38]),(7,[4]),(8,[4])] [(2,[0,1,5])]
@[go_sem] def c_r07_Right_r0 : LL := [qB 2 0,qB 3 1,qi 4 0]
@[go_sem] def c_r07_Right_r1 (F : Fn) : LL := [qf 9 0 3,ql 10 1 9,qf 11 0 2,ql 12 1 11,qz 13 12,qc 14 (F "r07.ascending") [.t 10,.t 13],qm 5 14]
@[go_sem] def c_r07_Right_r2 : LL := [qm 15 5,qk .neq 16 15 0]
@[go_sem] def c_r07_Right_r3 : LL := [qm 17 5,qm 4 17]
@[go_sem] def c_r07_Right_r4 (F : Fn) : LL := [qf 18 1 3,ql 19 1 18,qf 20 1 2,ql 21 1 20,qz 22 21,qc 23 (F "r07.ascending") [.t 19,.t 22],qm 6 23]
@[go_sem] def c_r07_Right_r5 : LL := [qm 24 6,qk .neq 25 24 0]
@[go_sem] def c_r07_Right_r6 : LL := [qm 26 6,qm 4 26]
@[go_sem] def c_r07_Right_r7 : LL := [qi 7 0]
@[go_sem] def c_r07_Right_r8 : LL := [qm 27 7,qf 28 1 3,ql 29 1 28,qz 30 29,qo .lss 31 27 30]
@[go_sem] def c_r07_Right_r9 : LL := [qf 34 1 2,ql 35 1 34,qf 36 1 3,ql 37 1 36,qm 38 7,qd 39 1 37 38,ql 40 1 39,qd 41 3 35 40,qL 42 3 41,qa 8 [.int .i64 (0),.int .i64 (0),.int .i64 (0)],qs 3 8 42]
@[go_sem] def c_r07_Right_r10 (F : Fn) : LL := [qf 43 0 3,ql 44 1 43,qf 45 1 8,ql 46 1 45,qc 47 (F "r07.has") [.t 44,.t 46],qv 48 47,qm 49 48,qg 49 false (qf 50 0 3),qg 49 false (ql 51 1 50),qg 49 false (qf 52 2 8),
 qg 49 false (ql 53 1 52),qg 49 false (qc 54 (F "r07.has") [.t 51,.t 53]),qg 49 false (qv 55 54),qQ 56 49 55]
@[go_sem] def c_r07_Right_r11 : LL := [qi 4 14]
@[go_sem] def c_r07_Right_r12 : LL := [qm 32 7,qk .add 33 32 1,qm 7 33]
def c_r07_Right_b13 (F : Fn) : LC := (.seq (.seq (.reg c_r07_Right_r8 [2,3,7,31]) (.cond (.t 31) .skip (.exit 0))) (.seq (.block 1 (.seq (.dreg [] c_r07_Right_r9 [2,3,7,8]) (.seq (.reg (c_r07_Right_r10 F) [2,3,7,56]) (.cond (.t 56) (.seq (.reg c_r07_Right_r11 [4]) .ret) .skip)))) (.reg c_r07_Right_r12 [2,3,7])))
@[go_sem] def c_r07_Right_r14 : LL := [qi 4 0]
@[go_sem] def c_r07_Right (F : Fn) : LC := (.seq (.reg c_r07_Right_r0 [2,3]) (.seq (.seq (.reg (c_r07_Right_r1 F) [2,3,5]) (.seq (.reg c_r07_Right_r2 [2,3,5,16]) (.cond (.t 16) (.seq (.reg c_r07_Right_r3 [4]) .ret) .skip))) (.seq (.seq (.reg (c_r07_Right_r4 F) [2,3,6]) (.seq (.reg c_r07_Right_r5 [2,3,6,25]) (.cond (.t 25) (.seq (.reg c_r07_Right_r6 [4]) .ret) .skip))) (.seq (.seq (.reg c_r07_Right_r7 [2,3,7]) (.block 0 (.loop [2,3,7] (c_r07_Right_b13 F)))) (.seq (.reg c_r07_Right_r14 [4]) .ret)))))
def h_r07_Right : Hints := hn [] [(0,[2,3]),(1,[2,3,5]),(2,[2,3,5,16]),(3,[4]),(4,[2,3,6]),(5,[2,3,6,25]),(6,[4]),(7,[2,3,7]),(8,[2,3,7,31]),(9,[2,3,7]),(10,[2,3,7,8]),(11,[2,3,7,56]),(12,[4]),(13,[4])] [(8,[2,3,7])]
@[go_sem] def c_r07_Valid_r0 : LL := [qB 2 0,qB 3 1,qi 4 0]
@[go_sem] def c_r07_Valid_r1 (F : Fn) : LL := [qL 6 2 2,qc 7 (F "r05.Valid") [.t 6],qm 5 7]
@[go_sem] def c_r07_Valid_r2 : LL := [qm 8 5,qk .neq 9 8 0]
@[go_sem] def c_r07_Valid_r3 : LL := [qm 10 5,qm 4 10]
@[go_sem] def c_r07_Valid_r4 (F : Fn) : LL := [qL 11 2 2,qL 12 2 3,qc 13 (F "r07.Right") [.t 11,.t 12],qm 4 13]
@[go_sem] def c_r07_Valid (F : Fn) : LC := (.seq (.reg c_r07_Valid_r0 [2,3]) (.seq (.seq (.reg (c_r07_Valid_r1 F) [2,3,5]) (.seq (.reg c_r07_Valid_r2 [2,3,5,9]) (.cond (.t 9) (.seq (.reg c_r07_Valid_r3 [4]) .ret) .skip))) (.seq (.reg (c_r07_Valid_r4 F) [4]) .ret)))
def h_r07_Valid : Hints := hOf [] (c_r07_Valid fun _ => 0)
section
variable (P : Program) (F : String → Nat)
def K_r07_has : Prop := ∀ (l : List Int) (n : Int), l.length ≤ maxL → FC P (F "r07.has") [.lst 1 (ints l), .int .i64 n] (.bool (decide (n ∈ l))) []
def K_r07_ascending : Prop := ∀ (l : List Int) (n : Int), l.length ≤ maxL → 0 ≤ n → n ≤ 1000000 → FC P (F "r07.ascending") [.lst 1 (ints l), .int .i64 n] (.int .i64 (ascG n none l)) []
def K_r07_Right : Prop := ∀ (g : G) (p : Mo), validG g = 0 → p.n.length ≤ maxL → p.e.length ≤ maxL → FC P (F "r07.Right") [gD g, mD p] (.int .i64 (rightP g p)) []
def K_r07_Valid : Prop := ∀ (g : G) (p : Mo), p.n.length ≤ maxL → p.e.length ≤ maxL → FC P (F "r07.Valid") [gD g, mD p] (.int .i64 (validP g p)) []
end
section
variable {P : Program} {F : String → Nat} {α : Type}
theorem mem_take {l : List Int} {n : Int} {i : Nat} (h : i < l.length) : n ∈ l.take (i + 1) ↔ n ∈ l.take i ∨ gt l i = n := by
 rw [take_gt h]; simp [eq_comm]
theorem w_r07_has (l : List Int) (n : Int) (hl : l.length ≤ maxL) : W P (c_r07_has F) (Done [.t 4] [] (.bool (decide (n ∈ l))) []) (init [.lst 1 (ints l), .int .i64 n]) := by
 refine W_of ?_
 unfold maxL at hl
 simp (disch := omega) only [go_sem, ↓reduceIte]
 refine W_loop (fun i : Nat => ⟨[(0, .lst 1 (ints l)), (1, .int .i64 n), (5, .int .i64 i)], [], 0⟩) (fun i => i ≤ l.length ∧ n ∉ l.take i) (fun i => l.length - i) 0 ?_ ?_ ?_
 ·simp (disch := omega) only [go_sem, ↓reduceIte]
  rfl
 ·simp
 ·rintro i ⟨hi, hn⟩
  simp (disch := omega) only [go_sem, ↓reduceIte, c_r07_has_b6]
  refine bran_dec (fun c => ?_) (fun c => ?_)
  ·have hm := mem_take (n := n) (l := l) (i := i) (by omega)
   simp (disch := omega) only [go_sem, ↓reduceIte]
   refine bran_dec (fun d => ?_) (fun d => ?_)
   ·have : n ∈ l := by rw [← d]; exact gt_mem (by omega) (by omega)
    simp (disch := omega) only [go_sem, ↓reduceIte]
    simp [this]
   ·simp (disch := omega) only [go_sem, ↓reduceIte]
    exact ⟨i + 1, by simp, ⟨by omega, fun h => by rcases hm.1 h with h | h; exact hn h; exact d h⟩, by omega⟩
  ·obtain rfl : i = l.length := by omega
   rw [List.take_length] at hn
   simp (disch := omega) only [go_sem, ↓reduceIte]
   simp [hn]
theorem w_r07_ascending (l : List Int) (n : Int) (hl : l.length ≤ maxL) (h0 : 0 ≤ n) (h1 : n ≤ 1000000) : W P (c_r07_ascending F) (Done [.t 4] [] (.int .i64 (ascG n none l)) []) (init [.lst 1 (ints l), .int .i64 n]) := by
 refine W_of ?_
 unfold maxL at hl
 simp (disch := omega) only [go_sem, ↓reduceIte]
 refine W_loop (fun i : Nat => ⟨[(0, .lst 1 (ints l)), (1, .int .i64 n), (5, .int .i64 i)], [], 0⟩) (fun i => i ≤ l.length ∧ ascG n none l = ascG n (prevO l i) (l.drop i)) (fun i => l.length - i) 0 ?_ ?_ ?_
 ·simp (disch := omega) only [go_sem, ↓reduceIte]
  rfl
 ·simp [prevO]
 ·intro i hi
  simp (disch := omega) only [go_sem, ↓reduceIte, c_r07_ascending_b8]
  refine bran_dec (fun a => ?_) (fun a => ?_)
  ·have hs := asc_step n l i (by omega)
   simp (disch := omega) only [go_sem, ↓reduceIte]
   refine bran_dec (fun b => ?_) (fun b => ?_)
   ·simp (disch := omega) only [go_sem, ↓reduceIte, b]
    rw [hi.2, hs, if_neg (by omega)]
   ·simp (disch := omega) only [go_sem, ↓reduceIte, b]
    refine bran_dec (fun b2 => ?_) (fun b2 => ?_)
    ·simp (disch := omega) only [go_sem, ↓reduceIte]
     rw [hi.2, hs, if_neg (by omega)]
    ·rw [if_pos (by omega)] at hs
     simp (disch := omega) only [go_sem, ↓reduceIte]
     refine bran_dec (fun c => ?_) (fun c => ?_)
     ·simp (disch := omega) only [go_sem, ↓reduceIte, c]
      refine bran_dec (fun d => ?_) (fun d => ?_)
      ·simp (disch := omega) only [go_sem, ↓reduceIte]
       rw [hi.2, hs, if_pos ⟨by omega, d⟩]
      ·simp (disch := omega) only [go_sem, ↓reduceIte]
       exact ⟨i + 1, by simp, ⟨by omega, by rw [hi.2, hs, if_neg (fun e => d e.2)]⟩, by omega⟩
     ·simp (disch := omega) only [go_sem, ↓reduceIte, c]
      exact ⟨i + 1, by simp, ⟨by omega, by rw [hi.2, hs, if_neg (fun e => by omega)]⟩, by omega⟩
  ·simp (disch := omega) only [go_sem, ↓reduceIte]
   rw [hi.2, List.drop_of_length_le (by omega)]
   rfl
theorem w_r07_Right (hl : K_r07_ascending P F) (hh : K_r07_has P F) (g : G) (p : Mo) (hv : validG g = 0) (h1 : p.n.length ≤ maxL) (h2 : p.e.length ≤ maxL) : W P (c_r07_Right F) (Done [.t 4] [] (.int .i64 (rightP g p)) []) (init [gD g, mD p]) := by
 refine W_of ?_
 have vs := valid_spec hv
 have r1 := hl p.n g.n.length h1 (by omega) (by omega)
 have r2 := hl p.e g.e.length h2 (by omega) (by omega)
 have hR : rightP g p = if ascG g.n.length none p.n ≠ 0 then ascG g.n.length none p.n else if ascG g.e.length none p.e ≠ 0 then ascG g.e.length none p.e else if dangP g p = true then 14 else 0 := rfl
 rw [hR]
 by_cases c1 : ascG g.n.length none p.n = 0
 case neg =>
  rw [if_pos c1]
  generalize ascG g.n.length none p.n = v at *
  simp only [gD, mD] at *
  simp (disch := omega) only [go_sem, ↓reduceIte]
  refine call_by r1 ?_
  simp (disch := omega) only [go_sem, ↓reduceIte, c1]
 rw [if_neg (by simp [c1])]
 by_cases c2 : ascG g.e.length none p.e = 0
 case neg =>
  rw [if_pos c2]
  rw [c1] at r1
  generalize ascG g.e.length none p.e = v at *
  simp only [gD, mD] at *
  simp (disch := omega) only [go_sem, ↓reduceIte]
  refine call_by r1 ?_
  simp (disch := omega) only [go_sem, ↓reduceIte]
  refine call_by r2 ?_
  simp (disch := omega) only [go_sem, ↓reduceIte, c2]
 rw [if_neg (by simp [c2])]
 have a1 := ascG_iff.1 c1
 have a2 := ascG_iff.1 c2
 have q1 := asc_len a1
 have q2 := asc_len a2
 rw [c1] at r1
 rw [c2] at r2
 have hD : dangP g p = p.e.any fun x => !(decide ((gt g.e x).f ∈ p.n) && decide ((gt g.e x).o ∈ p.n)) := rfl
 have hx := fun x => hh p.n x (by unfold maxL; omega)
 clear hR c1 c2
 obtain ⟨gn, ge⟩ := g
 obtain ⟨pn, pe⟩ := p
 simp only [gD, mD] at *
 simp (disch := omega) only [go_sem, ↓reduceIte]
 refine call_by r1 ?_
 simp (disch := omega) only [go_sem, ↓reduceIte]
 refine call_by r2 ?_
 simp (disch := omega) only [go_sem, ↓reduceIte]
 refine W_loop (fun i : Nat => ⟨[(2, .pt 0 0), (3, .pt 1 0), (7, .int .i64 i)], [(0, .box [.lst 1 (ints gn), .lst 3 (eds ge)]), (1, .box [.lst 1 (ints pn), .lst 1 (ints pe)])], 2⟩) (fun i => i ≤ pe.length ∧ ∀ k : Nat, k < i → (gt ge (gt pe k)).f ∈ pn ∧ (gt ge (gt pe k)).o ∈ pn) (fun i => pe.length - i) 0 ?_ ?_ ?_
 ·simp (disch := omega) only [go_sem, ↓reduceIte]
  rfl
 ·exact ⟨by omega, fun k hk => by omega⟩
 ·rintro i ⟨hi, hk⟩
  by_cases c : i < pe.length
  ·have g1 : decide ((i : Int) < pe.length) = true := decide_eq_true (by omega)
   have hb := a2.b _ (gt_mem (l := pe) (j := i) (by omega) (by omega))
   have x1 := hx (gt ge (gt pe i)).f
   have x2 := hx (gt ge (gt pe i)).o
   by_cases d1 : (gt ge (gt pe i)).f ∈ pn
   ·rw [decide_eq_true d1] at x1
    by_cases d2 : (gt ge (gt pe i)).o ∈ pn
    ·rw [decide_eq_true d2] at x2
     simp (disch := omega) only [go_sem, ↓reduceIte, c_r07_Right_b13, g1]
     refine call_by x1 ?_
     simp (disch := omega) only [go_sem, ↓reduceIte]
     refine call_by x2 ?_
     simp (disch := omega) only [go_sem, ↓reduceIte]
     refine ⟨i + 1, by simp, ⟨by omega, fun k h => ?_⟩, by omega⟩
     by_cases e : k = i
     ·subst e; exact ⟨d1, d2⟩
     ·exact hk k (by omega)
    ·rw [decide_eq_false d2] at x2
     have hdt : dangP ⟨gn, ge⟩ ⟨pn, pe⟩ = true := by
      rw [hD, List.any_eq_true]
      exact ⟨_, gt_mem (l := pe) (j := i) (by omega) (by omega), by simp [d2]⟩
     rw [hdt]
     simp (disch := omega) only [go_sem, ↓reduceIte, c_r07_Right_b13, g1]
     refine call_by x1 ?_
     simp (disch := omega) only [go_sem, ↓reduceIte]
     refine call_by x2 ?_
     simp (disch := omega) only [go_sem, ↓reduceIte]
     try rfl
   ·rw [decide_eq_false d1] at x1
    have hdt : dangP ⟨gn, ge⟩ ⟨pn, pe⟩ = true := by
     rw [hD, List.any_eq_true]
     exact ⟨_, gt_mem (l := pe) (j := i) (by omega) (by omega), by simp [d1]⟩
    rw [hdt]
    simp (disch := omega) only [go_sem, ↓reduceIte, c_r07_Right_b13, g1]
    refine call_by x1 ?_
    simp (disch := omega) only [go_sem, ↓reduceIte]
    try rfl
  ·have g1 : decide ((i : Int) < pe.length) = false := decide_eq_false (by omega)
   obtain rfl : i = pe.length := by omega
   have hdt : dangP ⟨gn, ge⟩ ⟨pn, pe⟩ = false := by
    rw [hD, List.any_eq_false]
    intro x hx
    obtain ⟨k, k1, k2⟩ := mem_gt hx
    have := hk k k1
    rw [k2] at this
    simp [this]
   rw [hdt]
   simp (disch := omega) only [go_sem, ↓reduceIte, c_r07_Right_b13, g1]
   try rfl
theorem w_r07_Valid (hv : K_r05_Valid P F) (hp : K_r07_Right P F) (g : G) (p : Mo) (h1 : p.n.length ≤ maxL) (h2 : p.e.length ≤ maxL) : W P (c_r07_Valid F) (Done [.t 4] [] (.int .i64 (validP g p)) []) (init [gD g, mD p]) := by
 refine W_of ?_
 have r1 := hv g
 have hR : validP g p = if validG g ≠ 0 then validG g else rightP g p := rfl
 rw [hR]
 by_cases c : validG g = 0
 ·have r2 := hp g p c h1 h2
  rw [if_neg (by simp [c])]
  rw [c] at r1
  generalize rightP g p = v at *
  simp only [gD, mD] at *
  simp (disch := omega) only [go_sem, ↓reduceIte]
  refine call_by r1 ?_
  simp (disch := omega) only [go_sem, ↓reduceIte]
  refine call_by r2 ?_
  simp (disch := omega) only [go_sem, ↓reduceIte]
 ·rw [if_pos c]
  generalize validG g = v at *
  simp only [gD, mD] at *
  simp (disch := omega) only [go_sem, ↓reduceIte]
  refine call_by r1 ?_
  simp (disch := omega) only [go_sem, ↓reduceIte, c]
end
section
variable (P : Program) (F : String → Nat)
end
section
variable {P : Program} {F : String → Nat} {α : Type}
theorem asc_inj {l : List Int} (h : l.Pairwise (· < ·)) {i j : Nat} (hi : i < l.length) (hj : j < l.length) (e : gt l i = gt l j) : i = j := by
 rcases Nat.lt_trichotomy i j with c | c | c
 ·have := pair_gt h c hj; omega
 ·exact c
 ·have := pair_gt h c hi; omega
theorem cntB_in {l : List Int} (h : l.Pairwise (· < ·)) {x : Int} (hx : x ∈ l) : ∃ i : Nat, i < l.length ∧ cntB l x = i ∧ gt l i = x := by
 obtain ⟨i, h1, rfl⟩ := mem_gt hx
 exact ⟨i, h1, cntB_ix h h1, rfl⟩
theorem exL_gt {g : G} {pn pe : List Int} {i : Nat} (h : i < pe.length) : gt (exL g pn pe) i = ⟨(gt g.e (gt pe i)).t, (cntB pn (gt g.e (gt pe i)).f : Int), (cntB pn (gt g.e (gt pe i)).o : Int)⟩ := by
 rw [gt_nat (by rw [exL_len]; exact h), gt_nat h]
 simp [exL]
theorem ex_ok {g : G} {p : Mo} (h : PK g p) : MOk (ptG g p) g p := by
 have hl := h.len
 have vs := valid_spec h.v
 have en : ∀ x ∈ p.n, ∃ i : Nat, i < p.n.length ∧ cntB p.n x = i ∧ gt p.n i = x := fun x hx => cntB_in h.n.p hx
 have ln : (ptG g p).n.length = p.n.length := thr_len _ _
 have le : (ptG g p).e.length = p.e.length := exL_len _ _ _
 refine ⟨valid_mk (by rw [ln]; omega) (by rw [le]; omega) (fun x hx => ?_) (fun x hx => ?_), h.v, ln.symm, le.symm, fun i hi => ?_, fun i hi => ?_⟩
 ·obtain ⟨i, hi, rfl⟩ := mem_gt hx
  rw [ln] at hi
  have hb := h.n.b _ (gt_mem (l := p.n) (j := (i : Int)) (by omega) (by omega))
  simp only [ptG]
  rw [thr_gt hi]
  exact vs.2.2.1 _ (gt_mem hb.1 hb.2)
 ·obtain ⟨i, hi, rfl⟩ := mem_gt hx
  rw [le] at hi
  have hm := gt_mem (l := p.e) (j := (i : Int)) (by omega) (by omega)
  have hb := h.e.b _ hm
  obtain ⟨e1, e2, e3⟩ := edge_fits h.v hb
  obtain ⟨a, a1, a2, _⟩ := en _ (h.d _ hm).1
  obtain ⟨b, b1, b2, _⟩ := en _ (h.d _ hm).2
  rw [ln]
  simp only [ptG]
  rw [exL_gt hi, a2, b2]
  exact fits_mk e1 (by simp only; omega) (by simp only; omega)
 ·rw [ln] at hi
  have hb := h.n.b _ (gt_mem (l := p.n) (j := (i : Int)) (by omega) (by omega))
  refine ⟨hb, ?_⟩
  simp only [ptG]
  rw [thr_gt hi]
 ·rw [le] at hi
  have hm := gt_mem (l := p.e) (j := (i : Int)) (by omega) (by omega)
  have hb := h.e.b _ hm
  obtain ⟨a, a1, a2, a3⟩ := en _ (h.d _ hm).1
  obtain ⟨b, b1, b2, b3⟩ := en _ (h.d _ hm).2
  refine ⟨hb, ?_⟩
  simp only [ptG]
  rw [exL_gt hi]
  simp only
  rw [a2, b2, a3, b3]
  exact ⟨trivial, rfl, rfl⟩
theorem u_inj {U P K H Q : List Int} (u1 : thr P U = H) (u2 : thr K U = Q) (cv : ∀ j : Nat, j < U.length → (∃ i : Nat, i < P.length ∧ gt P i = j) ∨ ∃ i : Nat, i < K.length ∧ gt K i = j)
  (n1 : ∀ i j : Nat, i < P.length → j < P.length → gt H i = gt H j → gt P i = gt P j) (n2 : ∀ i j : Nat, i < P.length → j < K.length → gt H i = gt Q j → gt P i = gt K j) (n3 : ∀ i j : Nat, i < K.length → j < K.length → gt Q i = gt Q j → gt K i = gt K j) : U.Nodup := by
 subst u1 u2
 have e1 : ∀ i : Nat, i < P.length → gt (thr P U) i = gt U (gt P i) := fun i hi => thr_gt hi
 have e2 : ∀ i : Nat, i < K.length → gt (thr K U) i = gt U (gt K i) := fun i hi => thr_gt hi
 refine nodup_ix fun i j hi hj e => ?_
 have key : ((i : Int)) = j := by
  rcases cv i hi with ⟨a, a1, a2⟩ | ⟨a, a1, a2⟩ <;> rcases cv j hj with ⟨b, b1, b2⟩ | ⟨b, b1, b2⟩
  ·rw [← a2, ← b2]; exact n1 a b a1 b1 (by rw [e1 a a1, e1 b b1, a2, b2, e])
  ·rw [← a2, ← b2]; exact n2 a b a1 b1 (by rw [e1 a a1, e2 b b1, a2, b2, e])
  ·rw [← a2, ← b2]; exact (n2 b a b1 a1 (by rw [e1 b b1, e2 a a1, a2, b2, e])).symm
  ·rw [← a2, ← b2]; exact n3 a b a1 b1 (by rw [e2 a a1, e2 b b1, a2, b2, e])
 omega
theorem u_cov {U P K H Q : List Int} {n : Nat} (u1 : thr P U = H) (u2 : thr K U = Q) (hP : ∀ i : Nat, i < P.length → 0 ≤ gt P i ∧ gt P i < U.length) (hK : ∀ i : Nat, i < K.length → 0 ≤ gt K i ∧ gt K i < U.length)
  (cv : ∀ j : Nat, j < n → (∃ i : Nat, i < P.length ∧ gt H i = j) ∨ ∃ i : Nat, i < K.length ∧ gt Q i = j) : covers U n = true := by
 subst u1 u2
 refine covers_ix.2 fun j hj => ?_
 rcases cv j hj with ⟨a, a1, a2⟩ | ⟨a, a1, a2⟩
 ·obtain ⟨k, h1, h2⟩ := gtI (hP a a1)
  rw [thr_gt a1, h2] at a2
  exact ⟨k, h1, a2⟩
 ·obtain ⟨k, h1, h2⟩ := gtI (hK a a1)
  rw [thr_gt a1, h2] at a2
  exact ⟨k, h1, a2⟩
theorem SOk.chk_same {s : Sp} (hs : SOk s) {x : G} {h k : Mo} (hh : MOk s.b x h) (hk : MOk s.c x k) (e : thenM s.f h = thenM s.g k)
  (n1 : ∀ i j : Nat, i < s.b.n.length → j < s.b.n.length → gt h.n i = gt h.n j → gt (poP s).n i = gt (poP s).n j) (n2 : ∀ i j : Nat, i < s.b.n.length → j < s.c.n.length → gt h.n i = gt k.n j → gt (poP s).n i = gt (poK s).n j)
  (n3 : ∀ i j : Nat, i < s.c.n.length → j < s.c.n.length → gt k.n i = gt k.n j → gt (poK s).n i = gt (poK s).n j)
  (c1 : ∀ j : Nat, j < x.n.length → (∃ i : Nat, i < s.b.n.length ∧ gt h.n i = j) ∨ ∃ i : Nat, i < s.c.n.length ∧ gt k.n i = j)
  (m1 : ∀ i j : Nat, i < s.b.e.length → j < s.b.e.length → gt h.e i = gt h.e j → gt (poP s).e i = gt (poP s).e j) (m2 : ∀ i j : Nat, i < s.b.e.length → j < s.c.e.length → gt h.e i = gt k.e j → gt (poP s).e i = gt (poK s).e j)
  (m3 : ∀ i j : Nat, i < s.c.e.length → j < s.c.e.length → gt k.e i = gt k.e j → gt (poK s).e i = gt (poK s).e j)
  (c2 : ∀ j : Nat, j < x.e.length → (∃ i : Nat, i < s.b.e.length ∧ gt h.e i = j) ∨ ∃ i : Nat, i < s.c.e.length ∧ gt k.e i = j) : chkP s x h k = true := by
 obtain ⟨u, hu, u1, u2⟩ := hs.med hh hk e
 have := hs.chk_grown hu
 rw [u1, u2] at this
 rw [this]
 have v1 : thr (poP s).n u.n = h.n := by rw [← u1]; rfl
 have v2 : thr (poK s).n u.n = k.n := by rw [← u2]; rfl
 have w1 : thr (poP s).e u.e = h.e := by rw [← u1]; rfl
 have w2 : thr (poK s).e u.e = k.e := by rw [← u2]; rfl
 have l1 := hs.p.ln
 have l2 := hs.k.ln
 have l3 := hs.p.le
 have l4 := hs.k.le
 have l5 := hu.ln
 have l6 := hu.le
 rw [Bool.and_eq_true]
 refine ⟨(injM_ok hu).2 ⟨u_inj v1 v2 (by rw [l1, l2, l5]; exact fun j hj => hs.surN hj) (by rw [l1]; exact n1) (by rw [l1, l2]; exact n2) (by rw [l2]; exact n3),
   u_inj w1 w2 (by rw [l3, l4, l6]; exact fun j hj => hs.surE hj) (by rw [l3]; exact m1) (by rw [l3, l4]; exact m2) (by rw [l4]; exact m3)⟩,
  (surM_ok hu).2 ⟨u_cov v1 v2 (by rw [l1, l5]; exact fun i hi => (hs.p.nd i hi).1) (by rw [l2, l5]; exact fun i hi => (hs.k.nd i hi).1) (by rw [l1, l2]; exact c1),
   u_cov w1 w2 (by rw [l3, l6]; exact fun i hi => (hs.p.ed i hi).1) (by rw [l4, l6]; exact fun i hi => (hs.k.ed i hi).1) (by rw [l3, l4]; exact c2)⟩⟩
end
@[go_sem] def c_r07_index_r0 : LL := [qi 4 0]
@[go_sem] def c_r07_index_r1 : LL := [qi 5 0]
@[go_sem] def c_r07_index_r2 : LL := [qm 6 5,qm 7 0,qz 8 7,qo .lss 9 6 8]
@[go_sem] def c_r07_index_r3 : LL := [qm 12 0,qm 13 5,qd 14 1 12 13,ql 15 1 14,qm 16 1,qo .eql 17 15 16]
@[go_sem] def c_r07_index_r4 : LL := [qm 18 5,qm 4 18]
@[go_sem] def c_r07_index_r5 : LL := [qm 10 5,qk .add 11 10 1,qm 5 11]
def c_r07_index_b6 : LC := (.seq (.seq (.reg c_r07_index_r2 [0,1,5,9]) (.cond (.t 9) .skip (.exit 0))) (.seq (.block 1 (.seq (.reg c_r07_index_r3 [0,1,5,17]) (.cond (.t 17) (.seq (.reg c_r07_index_r4 [4]) .ret) .skip))) (.reg c_r07_index_r5 [0,1,5])))
@[go_sem] def c_r07_index_r7 : LL := [qi 4 (-1)]
@[go_sem] def c_r07_index (F : Fn) : LC := (.seq (.reg c_r07_index_r0 [0,1]) (.seq (.seq (.reg c_r07_index_r1 [0,1,5]) (.block 0 (.loop [0,1,5] c_r07_index_b6))) (.seq (.reg c_r07_index_r7 [4]) .ret)))
def h_r07_index : Hints := hn [] [(0,[0,1]),(1,[0,1,5]),(2,[0,1,5,9]),(3,[0,1,5]),(4,[0,1,5,17]),(5,[4]),(6,[4])] [(2,[0,1,5])]
@[go_sem] def c_r07_Extract_r0 : LL := [qB 2 0,qB 3 1,qa 4 [.nl 1,.nl 3],qa 5 [.nl 1,.nl 1],qi 6 0]
@[go_sem] def c_r07_Extract_r1 (F : Fn) : LL := [qL 12 2 2,qL 13 2 3,qc 14 (F "r07.Valid") [.t 12,.t 13],qm 7 14]
@[go_sem] def c_r07_Extract_r2 : LL := [qm 15 7,qk .neq 16 15 0]
@[go_sem] def c_r07_Extract_r3 : LL := [qu 17 [.nl 1,.nl 3] [],qu 18 [.nl 1,.nl 1] [],qm 19 7,qs 2 4 17,qs 2 5 18,qm 6 19]
@[go_sem] def c_r07_Extract_r4 : LL := [qa 8 [.nl 1,.nl 3]]
@[go_sem] def c_r07_Extract_r5 : LL := [qi 9 0]
@[go_sem] def c_r07_Extract_r6 : LL := [qm 20 9,qf 21 0 3,ql 22 1 21,qz 23 22,qo .lss 24 20 23]
@[go_sem] def c_r07_Extract_r7 : LL := [qf 27 0 8,ql 28 1 27,qf 29 0 2,ql 30 1 29,qf 31 0 3,ql 32 1 31,qm 33 9,qd 34 1 32 33,ql 35 1 34,qd 36 1 30 35,ql 37 1 36,
 ⟨some 38,.buildSl 1 8 (.int .i64 (0)) 1 [(0,.t 37)],none⟩,qp 39 1 8 28 38,qf 40 0 8,qs 1 40 39]
@[go_sem] def c_r07_Extract_r8 : LL := [qm 25 9,qk .add 26 25 1,qm 9 26]
def c_r07_Extract_b9 : LC := (.seq (.seq (.reg c_r07_Extract_r6 [2,3,4,5,8,9,24]) (.cond (.t 24) .skip (.exit 0))) (.seq (.block 1 (.dreg [(1,none,[],true),(11,none,[1],false)] c_r07_Extract_r7 [2,3,4,5,8,9])) (.reg c_r07_Extract_r8 [2,3,4,5,8,9])))
@[go_sem] def c_r07_Extract_r10 : LL := [qi 10 0]
@[go_sem] def c_r07_Extract_r11 : LL := [qm 41 10,qf 42 1 3,ql 43 1 42,qz 44 43,qo .lss 45 41 44]
@[go_sem] def c_r07_Extract_r12 : LL := [qf 48 1 2,ql 49 1 48,qf 50 1 3,ql 51 1 50,qm 52 10,qd 53 1 51 52,ql 54 1 53,qd 55 3 49 54,qL 56 3 55,qa 11 [.int .i64 (0),.int .i64 (0),.int .i64 (0)],qs 3 11 56]
@[go_sem] def c_r07_Extract_r13 (F : Fn) : LL := [qf 57 1 8,ql 58 1 57,qf 59 0 11,ql 60 1 59,qf 61 0 3,ql 62 1 61,qf 63 1 11,ql 64 1 63,qc 65 (F "r07.index") [.t 62,.t 64],qf 66 0 3,ql 67 1 66,qf 68 2 11,ql 69 1 68,qc 70 (F "r07.index") [.t 67,.t 69],
 qu 71 [.int .i64 (0),.int .i64 (0),.int .i64 (0)] [(0,1,.t 60),(1,1,.t 65),(2,1,.t 70)],
 ⟨some 72,.buildSl 3 24 (.agg [.int .i64 (0),.int .i64 (0),.int .i64 (0)]) 1 [(0,.t 71)],none⟩,qp 73 3 24 58 72,qf 74 1 8,qs 1 74 73]
@[go_sem] def c_r07_Extract_r14 : LL := [qm 46 10,qk .add 47 46 1,qm 10 47]
def c_r07_Extract_b15 (F : Fn) : LC := (.seq (.seq (.reg c_r07_Extract_r11 [2,3,4,5,8,10,45]) (.cond (.t 45) .skip (.exit 2))) (.seq (.block 3 (.seq (.dreg [] c_r07_Extract_r12 [2,3,4,5,8,10,11]) (.dreg [(1,none,[],true),(3,none,[],true),(8,none,[1,3],true),(10,(some 512),[8],false),(12,(some 2048),[8],false),(13,none,[1,3],false),(15,none,[1],false)] (c_r07_Extract_r13 F) [2,3,4,5,8,10]))) (.reg c_r07_Extract_r14 [2,3,4,5,8,10])))
@[go_sem] def c_r07_Extract_r16 : LL := [qL 75 2 8,⟨some 76,.buildSl 1 8 (.int .i64 (0)) 0 [],none⟩,qf 77 0 3,ql 78 1 77,qp 79 1 8 76 78,⟨some 80,.buildSl 1 8 (.int .i64 (0)) 0 [],none⟩,qf 81 1 3,ql 82 1 81,
 qp 83 1 8 80 82,qu 84 [.nl 1,.nl 1] [(0,1,.t 79),(1,1,.t 83)],qs 2 4 75,qs 2 5 84,qi 6 0]
@[go_sem] def c_r07_Extract (F : Fn) : LC := (.seq (.reg c_r07_Extract_r0 [2,3,4,5]) (.seq (.seq (.reg (c_r07_Extract_r1 F) [2,3,4,5,7]) (.seq (.reg c_r07_Extract_r2 [2,3,4,5,7,16]) (.cond (.t 16) (.seq (.reg c_r07_Extract_r3 [4,5,6]) .ret) .skip))) (.seq (.reg c_r07_Extract_r4 [2,3,4,5,8]) (.seq (.seq (.reg c_r07_Extract_r5 [2,3,4,5,8,9]) (.block 0 (.loop [2,3,4,5,8,9] c_r07_Extract_b9))) (.seq (.seq (.reg c_r07_Extract_r10 [2,3,4,5,8,10]) (.block 2 (.loop [2,3,4,5,8,10] (c_r07_Extract_b15 F)))) (.seq (.dreg [(0,none,[],true),(3,(some 4),[],false),(4,none,[0],true),(7,(some 64),[4],false),(8,none,[0],false)] c_r07_Extract_r16 [4,5,6]) .ret))))))
def h_r07_Extract : Hints := hn [] [(0,[2,3,4,5]),(1,[2,3,4,5,7]),(2,[2,3,4,5,7,16]),(3,[4,5,6]),(4,[2,3,4,5,8]),(5,[2,3,4,5,8,9]),(6,[2,3,4,5,8,9,24]),(7,[2,3,4,5,8,9]),(8,[2,3,4,5,8,9]),(9,[2,3,4,5,8,10]),(10,[2,3,4,5,8,10,45]),(11,[2,3,4,5,8,10]),(12,[2,3,4,5,8,10,11]),(13,[2,3,4,5,8,10]),(14,[4,5,6])] [(6,[2,3,4,5,8,9]),(10,[2,3,4,5,8,10])]
section
variable (P : Program) (F : String → Nat)
def K_r07_index : Prop := ∀ (l : List Int) (x : Int), l.length ≤ maxL → FC P (F "r07.index") [.lst 1 (ints l), .int .i64 x] (.int .i64 (idx (fun y => decide (x = y)) l 0)) []
def K_r07_Extract : Prop := ∀ (g : G) (p : Mo), p.sm → FC P (F "r07.Extract") [gD g, mD p] (.tup [gA (exR g p).1, mA (exR g p).2.1, .int .i64 (exR g p).2.2]) []
end
section
variable {P : Program} {F : String → Nat} {α : Type}
theorem w_r07_index (l : List Int) (x : Int) (hl : l.length ≤ maxL) : W P (c_r07_index F) (Done [.t 4] [] (.int .i64 (idx (fun y => decide (x = y)) l 0)) []) (init [.lst 1 (ints l), .int .i64 x]) := by
 refine W_of ?_
 unfold maxL at hl
 simp (disch := omega) only [go_sem, ↓reduceIte]
 refine W_loop (fun i : Nat => ⟨[(0, .lst 1 (ints l)), (1, .int .i64 x), (5, .int .i64 i)], [], 0⟩) (fun i => i ≤ l.length ∧ idx (fun y => decide (x = y)) l 0 = idx (fun y => decide (x = y)) (l.drop i) i) (fun i => l.length - i) 0 ?_ ?_ ?_
 ·simp (disch := omega) only [go_sem, ↓reduceIte]
  rfl
 ·simp
 ·intro i hi
  by_cases c : i < l.length
  ·have d1 : decide ((i : Int) < l.length) = true := decide_eq_true (by omega)
   have hd := idx_drop (fun y => decide (x = y)) l i c
   by_cases e : gt l i = x
   ·have d2 : decide (gt l i = x) = true := decide_eq_true e
    simp (disch := omega) only [go_sem, ↓reduceIte, c_r07_index_b6, d1, d2]
    rw [hi.2, hd, if_pos (by simp [e])]
   ·have d2 : decide (gt l i = x) = false := decide_eq_false e
    simp (disch := omega) only [go_sem, ↓reduceIte, c_r07_index_b6, d1, d2]
    exact ⟨i + 1, by simp, ⟨by omega, by rw [hi.2, hd, if_neg (by simpa using fun h => e h.symm)]⟩, by omega⟩
  ·have d1 : decide ((i : Int) < l.length) = false := decide_eq_false (by omega)
   simp (disch := omega) only [go_sem, ↓reduceIte, c_r07_index_b6, d1]
   rw [hi.2, List.drop_of_length_le (by omega)]
   rfl
theorem w_r07_Extract (hv : K_r07_Valid P F) (hb : K_r07_index P F) (g : G) (p : Mo) (h1 : p.sm) : W P (c_r07_Extract F) (Done [.c 4 true 2, .c 5 true 2, .t 6] [] (.tup [gA (exR g p).1, mA (exR g p).2.1, .int .i64 (exR g p).2.2]) []) (init [gD g, mD p]) := by
 refine W_of ?_
 have r1 := hv g p h1.1 h1.2
 have hR : exR g p = if validP g p ≠ 0 then (g0, m0, validP g p) else (ptG g p, p, 0) := rfl
 have h0 : validP g p = 0 → PK g p := fun h => validP_ok.1 h
 generalize validP g p = v at *
 rw [hR]
 clear hR
 obtain ⟨gn, ge⟩ := g
 obtain ⟨pn, pe⟩ := p
 simp only [gD, mD] at *
 simp (disch := omega) only [go_sem, ↓reduceIte]
 refine call_by r1 ?_
 simp (disch := omega) only [go_sem, ↓reduceIte]
 refine bran_ndec (fun c => ?_) (fun c => ?_)
 ·simp (disch := omega) only [go_sem, ↓reduceIte]
  simp [c, mA, gA, m0, g0, ints, eds]
 have hk := h0 c
 have hl := hk.len
 have hs := valid_spec hk.v
 rw [if_neg (by simp [c])]
 clear h0 r1
 simp only [ptG, gA, mA] at *
 have rb := fun (x : Int) (hx : x ∈ pn) => hb pn x (by unfold maxL; omega)
 have rb : ∀ x ∈ pn, FC P (F "r07.index") [.lst 1 (ints pn), .int .i64 x] (.int .i64 (cntB pn x)) [] := fun x hx => by rw [← idx_asc hk.n.p hx]; exact rb x hx
 simp (disch := omega) only [go_sem, ↓reduceIte]
 refine W_loop (fun i : Nat => ⟨[(2, .pt 0 0), (3, .pt 1 0), (4, .pt 4 0), (5, .pt 7 0), (8, .pt 10 0), (9, .int .i64 i)],
  [(0, .box [.lst 1 (ints gn), .lst 3 (eds ge)]), (1, .box [.lst 1 (ints pn), .lst 1 (ints pe)]), (2, .arr 1 []), (3, .arr 3 []), (4, .box [.sl 2 0 0, .sl 3 0 0]), (5, .arr 1 []), (6, .arr 1 []), (7, .box [.sl 5 0 0, .sl 6 0 0]),
   (8, .arr 1 (ints (thr (pn.take i) gn))), (9, .arr 3 []), (10, .box [.sl 8 0 i, .sl 9 0 0])], 11⟩) (fun i => i ≤ pn.length) (fun i => pn.length - i) 0 ?_ ?_ ?_
 ·simp (disch := omega) only [go_sem, ↓reduceIte]
  rfl
 ·simp
 ·intro i hi
  have tl : (thr (pn.take i) gn).length = i := by rw [thr_len, List.length_take]; omega
  by_cases e : i < pn.length
  ·have d1 : decide ((i : Int) < pn.length) = true := decide_eq_true (by omega)
   have hb1 := hk.n.b _ (gt_mem (l := pn) (j := (i : Int)) (by omega) (by omega))
   simp only at hb1
   have hst := thr_step (b := gn) e
   simp (disch := omega) only [go_sem, ↓reduceIte, c_r07_Extract_b9, d1, tl]
   exact ⟨i + 1, by simp [hst], by omega, by omega⟩
  ·have d1 : decide ((i : Int) < pn.length) = false := decide_eq_false (by omega)
   obtain rfl : i = pn.length := by omega
   rw [List.take_length] at tl
   simp (disch := omega) only [go_sem, ↓reduceIte, c_r07_Extract_b9, d1, tl]
   refine W_loop (fun i : Nat => ⟨[(2, .pt 0 0), (3, .pt 1 0), (4, .pt 4 0), (5, .pt 7 0), (8, .pt 10 0), (10, .int .i64 i)],
    [(0, .box [.lst 1 (ints gn), .lst 3 (eds ge)]), (1, .box [.lst 1 (ints pn), .lst 1 (ints pe)]), (2, .arr 1 []), (3, .arr 3 []), (4, .box [.sl 2 0 0, .sl 3 0 0]), (5, .arr 1 []), (6, .arr 1 []), (7, .box [.sl 5 0 0, .sl 6 0 0]),
     (8, .arr 1 (ints (thr pn gn))), (9, .arr 3 (eds (exL ⟨gn, ge⟩ pn (pe.take i)))), (10, .box [.sl 8 0 pn.length, .sl 9 0 i])], 11⟩) (fun i => i ≤ pe.length) (fun i => pe.length - i) 0 ?_ ?_ ?_
   ·simp (disch := omega) only [go_sem, ↓reduceIte]
    rfl
   ·simp
   ·intro i hi
    have el : (exL ⟨gn, ge⟩ pn (pe.take i)).length = i := by rw [exL_len, List.length_take]; omega
    by_cases e : i < pe.length
    ·have d1 : decide ((i : Int) < pe.length) = true := decide_eq_true (by omega)
     have hm := gt_mem (l := pe) (j := (i : Int)) (by omega) (by omega)
     have hb1 := hk.e.b _ hm
     have hb2 := hk.d _ hm
     simp only at hb1 hb2
     have hst := exL_step (g := ⟨gn, ge⟩) (pn := pn) e
     simp only at hst
     have rf := rb (gt ge (gt pe i)).f hb2.1
     have ro := rb (gt ge (gt pe i)).o hb2.2
     simp (disch := omega) only [go_sem, ↓reduceIte, c_r07_Extract_b15, d1, el]
     refine call_by rf ?_
     simp (disch := omega) only [go_sem, ↓reduceIte]
     refine call_by ro ?_
     simp (disch := omega) only [go_sem, ↓reduceIte, el]
     exact ⟨i + 1, by simp [hst], by omega, by omega⟩
    ·have d1 : decide ((i : Int) < pe.length) = false := decide_eq_false (by omega)
     obtain rfl : i = pe.length := by omega
     rw [List.take_length] at el
     simp (disch := omega) only [go_sem, ↓reduceIte, c_r07_Extract_b15, d1, tl, el]
     try rfl
end
@[go_sem] def c_r14_Same_r0 : LL := [qB 2 0,qB 3 1,qb 4 false]
@[go_sem] def c_r14_Same_r1 (F : Fn) : LL := [qf 6 0 2,qL 7 2 6,qf 8 0 3,qL 9 2 8,qc 10 (F "r05.Same") [.t 7,.t 9],qm 11 10,qg 11 true (qf 12 2 2),qg 11 true (qL 13 2 12),qg 11 true (qf 14 2 3),qg 11 true (qL 15 2 14),
 qg 11 true (qc 16 (F "r05.Same") [.t 13,.t 15]),qP 17 11 16,qm 18 17,qg 18 true (qf 19 4 2),qg 18 true (qL 20 2 19),qg 18 true (qf 21 4 3),qg 18 true (qL 22 2 21),
 qg 18 true (qc 23 (F "r05.Same") [.t 20,.t 22]),qP 24 18 23,qm 25 24,qg 25 true (qf 26 6 2),qg 25 true (qL 27 2 26),qg 25 true (qf 28 6 3),qg 25 true (qL 29 2 28),
 qg 25 true (qc 30 (F "r05.Same") [.t 27,.t 29]),qP 31 25 30,qm 5 31]
@[go_sem] def c_r14_Same_r2 (F : Fn) : LL := [qm 32 5,qm 33 32,qg 33 true (qf 34 8 2),qg 33 true (qL 35 2 34),qg 33 true (qf 36 8 3),qg 33 true (qL 37 2 36),qg 33 true (qc 38 (F "r06.Same") [.t 35,.t 37]),qP 39 33 38,qm 40 39,
 qg 40 true (qf 41 10 2),qg 40 true (qL 42 2 41),qg 40 true (qf 43 10 3),qg 40 true (qL 44 2 43),qg 40 true (qc 45 (F "r06.Same") [.t 42,.t 44]),qP 46 40 45,qm 47 46,qg 47 true (qf 48 12 2),
 qg 47 true (qL 49 2 48),qg 47 true (qf 50 12 3),qg 47 true (qL 51 2 50),qg 47 true (qc 52 (F "r06.Same") [.t 49,.t 51]),qP 53 47 52,qm 54 53,qg 54 true (qf 55 14 2),qg 54 true (qL 56 2 55),
 qg 54 true (qf 57 14 3),qg 54 true (qL 58 2 57),qg 54 true (qc 59 (F "r06.Same") [.t 56,.t 58]),qP 60 54 59,qm 4 60]
@[go_sem] def c_r14_Same (F : Fn) : LC := (.seq (.reg c_r14_Same_r0 [2,3]) (.seq (.reg (c_r14_Same_r1 F) [2,3,5]) (.seq (.reg (c_r14_Same_r2 F) [4]) .ret)))
def h_r14_Same : Hints := hOf [] (c_r14_Same fun _ => 0)
@[go_sem] def c_r14_has_r0 : LL := [qb 4 false]
@[go_sem] def c_r14_has_r1 : LL := [qi 5 0]
@[go_sem] def c_r14_has_r2 : LL := [qm 6 5,qm 7 0,qz 8 7,qo .lss 9 6 8]
@[go_sem] def c_r14_has_r3 : LL := [qm 12 0,qm 13 5,qd 14 1 12 13,ql 15 1 14,qm 16 1,qo .eql 17 15 16]
@[go_sem] def c_r14_has_r4 : LL := [qb 4 true]
@[go_sem] def c_r14_has_r5 : LL := [qm 10 5,qk .add 11 10 1,qm 5 11]
def c_r14_has_b6 : LC := (.seq (.seq (.reg c_r14_has_r2 [0,1,5,9]) (.cond (.t 9) .skip (.exit 0))) (.seq (.block 1 (.seq (.reg c_r14_has_r3 [0,1,5,17]) (.cond (.t 17) (.seq (.reg c_r14_has_r4 [4]) .ret) .skip))) (.reg c_r14_has_r5 [0,1,5])))
@[go_sem] def c_r14_has_r7 : LL := [qb 4 false]
@[go_sem] def c_r14_has (F : Fn) : LC := (.seq (.reg c_r14_has_r0 [0,1]) (.seq (.seq (.reg c_r14_has_r1 [0,1,5]) (.block 0 (.loop [0,1,5] c_r14_has_b6))) (.seq (.reg c_r14_has_r7 [4]) .ret)))
def h_r14_has : Hints := hn [] [(0,[0,1]),(1,[0,1,5]),(2,[0,1,5,9]),(3,[0,1,5]),(4,[0,1,5,17]),(5,[4]),(6,[4])] [(2,[0,1,5])]
@[go_sem] def c_r14_at_r0 : LL := [qi 4 0]
@[go_sem] def c_r14_at_r1 : LL := [qi 5 0]
@[go_sem] def c_r14_at_r2 : LL := [qm 6 5,qm 7 0,qz 8 7,qo .lss 9 6 8]
@[go_sem] def c_r14_at_r3 : LL := [qm 12 0,qm 13 5,qd 14 1 12 13,ql 15 1 14,qm 16 1,qo .eql 17 15 16]
@[go_sem] def c_r14_at_r4 : LL := [qm 18 5,qm 4 18]
@[go_sem] def c_r14_at_r5 : LL := [qm 10 5,qk .add 11 10 1,qm 5 11]
def c_r14_at_b6 : LC := (.seq (.seq (.reg c_r14_at_r2 [0,1,5,9]) (.cond (.t 9) .skip (.exit 0))) (.seq (.block 1 (.seq (.reg c_r14_at_r3 [0,1,5,17]) (.cond (.t 17) (.seq (.reg c_r14_at_r4 [4]) .ret) .skip))) (.reg c_r14_at_r5 [0,1,5])))
@[go_sem] def c_r14_at_r7 : LL := [qi 4 (-1)]
@[go_sem] def c_r14_at (F : Fn) : LC := (.seq (.reg c_r14_at_r0 [0,1]) (.seq (.seq (.reg c_r14_at_r1 [0,1,5]) (.block 0 (.loop [0,1,5] c_r14_at_b6))) (.seq (.reg c_r14_at_r7 [4]) .ret)))
def h_r14_at : Hints := hn [] [(0,[0,1]),(1,[0,1,5]),(2,[0,1,5,9]),(3,[0,1,5]),(4,[0,1,5,17]),(5,[4]),(6,[4])] [(2,[0,1,5])]
section
variable (P : Program) (F : String → Nat)
def SqBd (s : Sq) : Prop := (s.a.n.length ≤ maxL ∧ s.a.e.length ≤ maxL) ∧ (s.b.n.length ≤ maxL ∧ s.b.e.length ≤ maxL) ∧ (s.c.n.length ≤ maxL ∧ s.c.e.length ≤ maxL) ∧ (s.d.n.length ≤ maxL ∧ s.d.e.length ≤ maxL) ∧ s.sm
def K_r14_Same : Prop := ∀ s t : Sq, SqBd s → FC P (F "r14.Same") [sqD s, sqD t] (.bool (decide (s = t))) []
def K_r14_has : Prop := ∀ (l : List Int) (n : Int), l.length ≤ maxL → FC P (F "r14.has") [.lst 1 (ints l), .int .i64 n] (.bool (decide (n ∈ l))) []
def K_r14_at : Prop := ∀ (l : List Int) (x : Int), l.length ≤ maxL → FC P (F "r14.at") [.lst 1 (ints l), .int .i64 x] (.int .i64 (idx (fun y => decide (x = y)) l 0)) []
end
section
variable {P : Program} {F : String → Nat} {α : Type}
theorem w_r14_has (l : List Int) (n : Int) (hl : l.length ≤ maxL) : W P (c_r14_has F) (Done [.t 4] [] (.bool (decide (n ∈ l))) []) (init [.lst 1 (ints l), .int .i64 n]) := by
 refine W_of ?_
 unfold maxL at hl
 simp (disch := omega) only [go_sem, ↓reduceIte]
 refine W_loop (fun i : Nat => ⟨[(0, .lst 1 (ints l)), (1, .int .i64 n), (5, .int .i64 i)], [], 0⟩) (fun i => i ≤ l.length ∧ ¬ n ∈ l.take i) (fun i => l.length - i) 0 ?_ ?_ ?_
 ·simp (disch := omega) only [go_sem, ↓reduceIte]
  rfl
 ·simp
 ·intro i hi
  by_cases c : i < l.length
  ·have d1 : decide ((i : Int) < l.length) = true := decide_eq_true (by omega)
   have mt := mem_take (n := n) c
   by_cases e : gt l i = n
   ·have d2 : decide (gt l i = n) = true := decide_eq_true e
    simp (disch := omega) only [go_sem, ↓reduceIte, c_r14_has_b6, d1, d2]
    have : n ∈ l := by rw [← e]; exact gt_mem (by omega) (by omega)
    simp [this]
   ·have d2 : decide (gt l i = n) = false := decide_eq_false e
    simp (disch := omega) only [go_sem, ↓reduceIte, c_r14_has_b6, d1, d2]
    exact ⟨i + 1, by simp, ⟨by omega, by rw [mt]; simp [hi.2, e]⟩, by omega⟩
  ·have d1 : decide ((i : Int) < l.length) = false := decide_eq_false (by omega)
   obtain rfl : i = l.length := by omega
   simp (disch := omega) only [go_sem, ↓reduceIte, c_r14_has_b6, d1]
   have := hi.2
   rw [List.take_length] at this
   simp [this]
theorem w_r14_at (l : List Int) (x : Int) (hl : l.length ≤ maxL) : W P (c_r14_at F) (Done [.t 4] [] (.int .i64 (idx (fun y => decide (x = y)) l 0)) []) (init [.lst 1 (ints l), .int .i64 x]) := by
 refine W_of ?_
 unfold maxL at hl
 simp (disch := omega) only [go_sem, ↓reduceIte]
 refine W_loop (fun i : Nat => ⟨[(0, .lst 1 (ints l)), (1, .int .i64 x), (5, .int .i64 i)], [], 0⟩) (fun i => i ≤ l.length ∧ idx (fun y => decide (x = y)) l 0 = idx (fun y => decide (x = y)) (l.drop i) i) (fun i => l.length - i) 0 ?_ ?_ ?_
 ·simp (disch := omega) only [go_sem, ↓reduceIte]
  rfl
 ·simp
 ·intro i hi
  by_cases c : i < l.length
  ·have d1 : decide ((i : Int) < l.length) = true := decide_eq_true (by omega)
   have hd := idx_drop (fun y => decide (x = y)) l i c
   by_cases e : gt l i = x
   ·have d2 : decide (gt l i = x) = true := decide_eq_true e
    simp (disch := omega) only [go_sem, ↓reduceIte, c_r14_at_b6, d1, d2]
    rw [hi.2, hd, if_pos (by simp [e])]
   ·have d2 : decide (gt l i = x) = false := decide_eq_false e
    simp (disch := omega) only [go_sem, ↓reduceIte, c_r14_at_b6, d1, d2]
    exact ⟨i + 1, by simp, ⟨by omega, by rw [hi.2, hd, if_neg (by simpa using fun h => e h.symm)]⟩, by omega⟩
  ·have d1 : decide ((i : Int) < l.length) = false := decide_eq_false (by omega)
   simp (disch := omega) only [go_sem, ↓reduceIte, c_r14_at_b6, d1]
   rw [hi.2, List.drop_of_length_le (by omega)]
   rfl
end
section
variable (P : Program) (F : String → Nat)
end
section
variable {P : Program} {F : String → Nat} {α : Type}
theorem eqSq (s t : Sq) : s = t ↔ (s.a = t.a ∧ s.b = t.b ∧ s.c = t.c ∧ s.d = t.d) ∧ (s.f = t.f ∧ s.g = t.g ∧ s.h = t.h ∧ s.k = t.k) := by
 cases s; cases t; simp [and_assoc]
set_option maxHeartbeats 1000000 in
theorem w_r14_Same (hg : K_r05_Same P F) (hm : K_r06_Same P F) (s t : Sq) (h : SqBd s) : W P (c_r14_Same F) (Done [.t 4] [] (.bool (decide (s = t))) []) (init [sqD s, sqD t]) := by
 refine W_of ?_
 obtain ⟨⟨a1, a2⟩, ⟨b1, b2⟩, ⟨c1, c2⟩, ⟨d1, d2⟩, f, g, hh, k⟩ := h
 have ra := hg s.a t.a a1 a2
 have rb := hg s.b t.b b1 b2
 have rc := hg s.c t.c c1 c2
 have rd := hg s.d t.d d1 d2
 have rf := hm s.f t.f f.1 f.2
 have rg := hm s.g t.g g.1 g.2
 have rh := hm s.h t.h hh.1 hh.2
 have rk := hm s.k t.k k.1 k.2
 have e : decide (s = t) = ((decide (s.a = t.a) && (decide (s.b = t.b) && (decide (s.c = t.c) && decide (s.d = t.d)))) && (decide (s.f = t.f) && (decide (s.g = t.g) && (decide (s.h = t.h) && decide (s.k = t.k))))) := by
  rw [Bool.eq_iff_iff]; simp [eqSq]
 rw [e]
 clear e
 generalize decide (s.a = t.a) = za at *
 generalize decide (s.b = t.b) = zb at *
 generalize decide (s.c = t.c) = zc at *
 generalize decide (s.d = t.d) = zd at *
 generalize decide (s.f = t.f) = zf at *
 generalize decide (s.g = t.g) = zg at *
 generalize decide (s.h = t.h) = zh at *
 generalize decide (s.k = t.k) = zk at *
 simp only [gD, mD, sqD] at *
 cases za
 ·simp (disch := omega) only [go_sem, ↓reduceIte]
  refine call_by ra ?_
  simp (disch := omega) only [go_sem, ↓reduceIte]
  try simp
 cases zb
 ·simp (disch := omega) only [go_sem, ↓reduceIte]
  refine call_by ra ?_
  simp (disch := omega) only [go_sem, ↓reduceIte]
  refine call_by rb ?_
  simp (disch := omega) only [go_sem, ↓reduceIte]
  try simp
 cases zc
 ·simp (disch := omega) only [go_sem, ↓reduceIte]
  refine call_by ra ?_
  simp (disch := omega) only [go_sem, ↓reduceIte]
  refine call_by rb ?_
  simp (disch := omega) only [go_sem, ↓reduceIte]
  refine call_by rc ?_
  simp (disch := omega) only [go_sem, ↓reduceIte]
  try simp
 cases zd
 ·simp (disch := omega) only [go_sem, ↓reduceIte]
  refine call_by ra ?_
  simp (disch := omega) only [go_sem, ↓reduceIte]
  refine call_by rb ?_
  simp (disch := omega) only [go_sem, ↓reduceIte]
  refine call_by rc ?_
  simp (disch := omega) only [go_sem, ↓reduceIte]
  refine call_by rd ?_
  simp (disch := omega) only [go_sem, ↓reduceIte]
  try simp
 cases zf
 ·simp (disch := omega) only [go_sem, ↓reduceIte]
  refine call_by ra ?_
  simp (disch := omega) only [go_sem, ↓reduceIte]
  refine call_by rb ?_
  simp (disch := omega) only [go_sem, ↓reduceIte]
  refine call_by rc ?_
  simp (disch := omega) only [go_sem, ↓reduceIte]
  refine call_by rd ?_
  simp (disch := omega) only [go_sem, ↓reduceIte]
  refine call_by rf ?_
  simp (disch := omega) only [go_sem, ↓reduceIte]
  try simp
 cases zg
 ·simp (disch := omega) only [go_sem, ↓reduceIte]
  refine call_by ra ?_
  simp (disch := omega) only [go_sem, ↓reduceIte]
  refine call_by rb ?_
  simp (disch := omega) only [go_sem, ↓reduceIte]
  refine call_by rc ?_
  simp (disch := omega) only [go_sem, ↓reduceIte]
  refine call_by rd ?_
  simp (disch := omega) only [go_sem, ↓reduceIte]
  refine call_by rf ?_
  simp (disch := omega) only [go_sem, ↓reduceIte]
  refine call_by rg ?_
  simp (disch := omega) only [go_sem, ↓reduceIte]
  try simp
 cases zh
 ·simp (disch := omega) only [go_sem, ↓reduceIte]
  refine call_by ra ?_
  simp (disch := omega) only [go_sem, ↓reduceIte]
  refine call_by rb ?_
  simp (disch := omega) only [go_sem, ↓reduceIte]
  refine call_by rc ?_
  simp (disch := omega) only [go_sem, ↓reduceIte]
  refine call_by rd ?_
  simp (disch := omega) only [go_sem, ↓reduceIte]
  refine call_by rf ?_
  simp (disch := omega) only [go_sem, ↓reduceIte]
  refine call_by rg ?_
  simp (disch := omega) only [go_sem, ↓reduceIte]
  refine call_by rh ?_
  simp (disch := omega) only [go_sem, ↓reduceIte]
  try simp
 cases zk
 ·simp (disch := omega) only [go_sem, ↓reduceIte]
  refine call_by ra ?_
  simp (disch := omega) only [go_sem, ↓reduceIte]
  refine call_by rb ?_
  simp (disch := omega) only [go_sem, ↓reduceIte]
  refine call_by rc ?_
  simp (disch := omega) only [go_sem, ↓reduceIte]
  refine call_by rd ?_
  simp (disch := omega) only [go_sem, ↓reduceIte]
  refine call_by rf ?_
  simp (disch := omega) only [go_sem, ↓reduceIte]
  refine call_by rg ?_
  simp (disch := omega) only [go_sem, ↓reduceIte]
  refine call_by rh ?_
  simp (disch := omega) only [go_sem, ↓reduceIte]
  refine call_by rk ?_
  simp (disch := omega) only [go_sem, ↓reduceIte]
  try simp
 ·simp (disch := omega) only [go_sem, ↓reduceIte]
  refine call_by ra ?_
  simp (disch := omega) only [go_sem, ↓reduceIte]
  refine call_by rb ?_
  simp (disch := omega) only [go_sem, ↓reduceIte]
  refine call_by rc ?_
  simp (disch := omega) only [go_sem, ↓reduceIte]
  refine call_by rd ?_
  simp (disch := omega) only [go_sem, ↓reduceIte]
  refine call_by rf ?_
  simp (disch := omega) only [go_sem, ↓reduceIte]
  refine call_by rg ?_
  simp (disch := omega) only [go_sem, ↓reduceIte]
  refine call_by rh ?_
  simp (disch := omega) only [go_sem, ↓reduceIte]
  refine call_by rk ?_
  simp (disch := omega) only [go_sem, ↓reduceIte]
  try simp
end
section
variable (P : Program) (F : String → Nat)
end
section
variable {P : Program} {F : String → Nat} {α : Type}
theorem QOk.bd {s : Sq} (h : QOk s) : SqBd s := by
 have a := valid_spec h.f.va
 have b := valid_spec h.f.vb
 have c := valid_spec h.g.vb
 have d := valid_spec h.h.vb
 have f := h.f.fit h.h
 have g := h.g.fit h.k
 have l1 := h.h.ln
 have l2 := h.h.le
 have l3 := h.k.ln
 have l4 := h.k.le
 refine ⟨⟨?_, ?_⟩, ⟨?_, ?_⟩, ⟨?_, ?_⟩, ⟨?_, ?_⟩, ⟨?_, ?_⟩, ⟨?_, ?_⟩, ⟨?_, ?_⟩, ?_, ?_⟩ <;> unfold maxL <;> omega
end
section
theorem idx_spec {l : List Pr} {q : Pr} (h : q ∈ l) : (0 ≤ idx (fun p => decide (p = q)) l 0 ∧ idx (fun p => decide (p = q)) l 0 < l.length) ∧ gt l (idx (fun p => decide (p = q)) l 0) = q := by
 have h0 := idx_mem.2 h
 obtain ⟨k, h1, h2, h3, _⟩ := idx_some (fun p => decide (p = q)) l 0 (by omega)
 rw [h1]
 refine ⟨by omega, ?_⟩
 simpa using h3
theorem nodup_flatMap_range {α : Type} {f : Nat → List α} : ∀ n, (∀ i, i < n → (f i).Nodup) → (∀ i j, i < j → j < n → ∀ x ∈ f i, x ∉ f j) → ((List.range n).flatMap f).Nodup
 | 0, _, _ => by simp
 | n + 1, h1, h2 => by
  rw [List.range_succ, List.flatMap_append, List.nodup_append]
  refine ⟨nodup_flatMap_range n (fun i hi => h1 i (by omega)) fun i j hij hj => h2 i j hij (by omega), by simpa using h1 n (by omega), ?_⟩
  intro a ha b hb hab
  subst hab
  simp only [List.flatMap_cons, List.flatMap_nil, List.append_nil] at hb
  obtain ⟨i, hi, hai⟩ := List.mem_flatMap.1 ha
  exact h2 i n (by simpa using hi) (by omega) a hai hb
theorem rowP_nodup (f g : List Int) (i k : Nat) : (rowP f g i k).Nodup := by
 unfold rowP List.Nodup
 rw [List.pairwise_map]
 exact ((List.nodup_range (n := k)).filter _).imp fun h e => by simp at e; omega
theorem pairsL_nodup (f g : List Int) : (pairsL f g).Nodup := by
 unfold pairsL pairsI
 refine nodup_flatMap_range _ (fun i _ => rowP_nodup f g i _) fun i j hij _ x hx hy => ?_
 unfold rowP at hx hy
 obtain ⟨k, _, rfl⟩ := List.mem_map.1 hx
 obtain ⟨k', _, h⟩ := List.mem_map.1 hy
 simp at h; omega
structure PB (s : Cs) : Prop where
 f : MOk s.b s.d s.f
 g : MOk s.c s.d s.g
 p : MOk (pbG0 s) s.b ⟨asA (pbN s), asA (pbE s)⟩
 q : MOk (pbG0 s) s.c ⟨asB (pbN s), asB (pbE s)⟩
theorem pbN_in {s : Cs} (hf : MOk s.b s.d s.f) (hg : MOk s.c s.d s.g) {a b : Int} (ha : 0 ≤ a ∧ a < s.b.n.length) (hb : 0 ≤ b ∧ b < s.c.n.length) : (⟨a, b⟩ : Pr) ∈ pbN s ↔ gt s.f.n a = gt s.g.n b := by
 unfold pbN
 exact pairsL_in (by rw [hf.ln]; exact ha) (by rw [hg.ln]; exact hb)
theorem pbE_in {s : Cs} (hf : MOk s.b s.d s.f) (hg : MOk s.c s.d s.g) {a b : Int} (ha : 0 ≤ a ∧ a < s.b.e.length) (hb : 0 ≤ b ∧ b < s.c.e.length) : (⟨a, b⟩ : Pr) ∈ pbE s ↔ gt s.f.e a = gt s.g.e b := by
 unfold pbE
 exact pairsL_in (by rw [hf.le]; exact ha) (by rw [hg.le]; exact hb)
theorem pbN_bd {s : Cs} (hf : MOk s.b s.d s.f) (hg : MOk s.c s.d s.g) {p : Pr} (h : p ∈ pbN s) : (0 ≤ p.a ∧ p.a < s.b.n.length) ∧ (0 ≤ p.b ∧ p.b < s.c.n.length) ∧ gt s.f.n p.a = gt s.g.n p.b := by
 have hb := pairsL_bd h
 rw [hf.ln, hg.ln] at hb
 exact ⟨hb.1, hb.2, (pbN_in hf hg hb.1 hb.2).1 h⟩
theorem pbE_bd {s : Cs} (hf : MOk s.b s.d s.f) (hg : MOk s.c s.d s.g) {p : Pr} (h : p ∈ pbE s) : (0 ≤ p.a ∧ p.a < s.b.e.length) ∧ (0 ≤ p.b ∧ p.b < s.c.e.length) ∧ gt s.f.e p.a = gt s.g.e p.b := by
 have hb := pairsL_bd h
 rw [hf.le, hg.le] at hb
 exact ⟨hb.1, hb.2, (pbE_in hf hg hb.1 hb.2).1 h⟩
theorem pb_ends {s : Cs} (hf : MOk s.b s.d s.f) (hg : MOk s.c s.d s.g) {p : Pr} (h : p ∈ pbE s) : (⟨(gt s.b.e p.a).f, (gt s.c.e p.b).f⟩ : Pr) ∈ pbN s ∧ (⟨(gt s.b.e p.a).o, (gt s.c.e p.b).o⟩ : Pr) ∈ pbN s ∧ (gt s.b.e p.a).t = (gt s.c.e p.b).t := by
 obtain ⟨ha, hb, he⟩ := pbE_bd hf hg h
 obtain ⟨_, b1, b2⟩ := edge_fits hf.va ha
 obtain ⟨_, c1, c2⟩ := edge_fits hg.va hb
 obtain ⟨i, hi, hi2⟩ := gtI ha
 obtain ⟨k, hk, hk2⟩ := gtI hb
 obtain ⟨_, f1, f2, f3⟩ := hf.ed i hi
 obtain ⟨_, g1, g2, g3⟩ := hg.ed k hk
 rw [← hi2] at f1 f2 f3
 rw [← hk2] at g1 g2 g3
 refine ⟨(pbN_in hf hg b1 c1).2 ?_, (pbN_in hf hg b2 c2).2 ?_, ?_⟩
 ·rw [f2, g2, he]
 ·rw [f3, g3, he]
 ·rw [f1, g1, he]
theorem pb_of {s : Cs} (h : pbErr s = 0) : PB s := by
 obtain ⟨l1, l2, hg0⟩ := pbN_len h
 obtain ⟨v1, v2⟩ := givenE_spec hg0
 have hf := mok.1 v1
 have hg := mok.1 v2
 have vb := valid_spec hf.va
 have hnl : (pbG0 s).n.length = (pbN s).length := by simp [pbG0]
 have hel : (pbG0 s).e.length = (pbE s).length := by simp [pbG0]
 have hedge : ∀ i : Nat, i < (pbE s).length → gt (pbG0 s).e i = pbEdge s.b.e s.c.e (pbN s) (gt (pbE s) i) := fun i hi => gt_map hi
 have hA : ∀ (l : List Pr) (i : Nat), i < l.length → gt (asA l) i = (gt l i).a := fun l i hi => gt_map hi
 have hB : ∀ (l : List Pr) (i : Nat), i < l.length → gt (asB l) i = (gt l i).b := fun l i hi => gt_map hi
 have va : validG (pbG0 s) = 0 := by
  refine valid_mk (by omega) (by omega) (fun x hx => ?_) (fun x hx => ?_)
  ·simp only [pbG0, List.mem_map] at hx
   obtain ⟨p, hp, rfl⟩ := hx
   have := pbN_bd hf hg hp
   exact vb.2.2.1 _ (gt_mem this.1.1 this.1.2)
  ·simp only [pbG0, List.mem_map] at hx
   obtain ⟨p, hp, rfl⟩ := hx
   obtain ⟨ha, hb, _⟩ := pbE_bd hf hg hp
   obtain ⟨e1, e2, _⟩ := pb_ends hf hg hp
   have t1 := edge_fits hf.va ha
   have i1 := idx_spec e1
   have i2 := idx_spec e2
   rw [hnl]
   exact fits_mk t1.1 i1.1 i2.1
 have hend : ∀ i : Nat, i < (pbE s).length → (gt (pbN s) (gt (pbG0 s).e i).f = ⟨(gt s.b.e (gt (pbE s) i).a).f, (gt s.c.e (gt (pbE s) i).b).f⟩ ∧ 0 ≤ (gt (pbG0 s).e i).f ∧ (gt (pbG0 s).e i).f < (pbN s).length) ∧
   gt (pbN s) (gt (pbG0 s).e i).o = ⟨(gt s.b.e (gt (pbE s) i).a).o, (gt s.c.e (gt (pbE s) i).b).o⟩ ∧ 0 ≤ (gt (pbG0 s).e i).o ∧ (gt (pbG0 s).e i).o < (pbN s).length := fun i hi => by
  obtain ⟨e1, e2, _⟩ := pb_ends hf hg (gt_mem (l := pbE s) (j := i) (by omega) (by omega))
  have i1 := idx_spec e1
  have i2 := idx_spec e2
  rw [hedge i hi]
  exact ⟨⟨i1.2, i1.1⟩, ⟨i2.2, i2.1⟩⟩
 refine ⟨hf, hg, ⟨va, hf.va, by simp [asA, hnl], by simp [asA, hel], fun i hi => ?_, fun i hi => ?_⟩, ⟨va, hg.va, by simp [asB, hnl], by simp [asB, hel], fun i hi => ?_, fun i hi => ?_⟩⟩
 ·rw [hnl] at hi
  have := pbN_bd hf hg (gt_mem (l := pbN s) (j := i) (by omega) (by omega))
  simp only
  rw [hA _ i hi]
  have e : gt (pbG0 s).n i = gt s.b.n (gt (pbN s) i).a := gt_map hi
  exact ⟨this.1, e.symm⟩
 ·rw [hel] at hi
  have hm := gt_mem (l := pbE s) (j := i) (by omega) (by omega)
  have hb := pbE_bd hf hg hm
  obtain ⟨⟨n1, n2⟩, n3, n4⟩ := hend i hi
  simp only
  rw [hA _ i hi]
  refine ⟨hb.1, by rw [hedge i hi]; rfl, ?_, ?_⟩
  ·obtain ⟨j, hj, hj2⟩ := gtI n2
   rw [hj2] at n1 ⊢
   rw [hA _ j hj, n1]
  ·obtain ⟨j, hj, hj2⟩ := gtI n4
   rw [hj2] at n3 ⊢
   rw [hA _ j hj, n3]
 ·rw [hnl] at hi
  have hb := pbN_bd hf hg (gt_mem (l := pbN s) (j := i) (by omega) (by omega))
  simp only
  rw [hB _ i hi]
  refine ⟨hb.2.1, ?_⟩
  have e : gt (pbG0 s).n i = gt s.b.n (gt (pbN s) i).a := gt_map hi
  rw [e]
  obtain ⟨k, hk, hk2⟩ := gtI hb.2.1
  obtain ⟨j, hj, hj2⟩ := gtI hb.1
  have := hb.2.2
  rw [hk2, hj2] at *
  rw [← (hg.nd k hk).2, ← (hf.nd j hj).2, this]
 ·rw [hel] at hi
  have hm := gt_mem (l := pbE s) (j := i) (by omega) (by omega)
  have hb := pbE_bd hf hg hm
  obtain ⟨_, _, ht⟩ := pb_ends hf hg hm
  obtain ⟨⟨n1, n2⟩, n3, n4⟩ := hend i hi
  simp only
  rw [hB _ i hi]
  refine ⟨hb.2.1, by rw [← ht, hedge i hi]; rfl, ?_, ?_⟩
  ·obtain ⟨j, hj, hj2⟩ := gtI n2
   rw [hj2] at n1 ⊢
   rw [hB _ j hj, n1]
  ·obtain ⟨j, hj, hj2⟩ := gtI n4
   rw [hj2] at n3 ⊢
   rw [hB _ j hj, n3]
end
section
variable (P : Program) (F : String → Nat)
end
section
variable {P : Program} {F : String → Nat} {α : Type}
theorem id_then {a b : G} {m : Mo} (hm : MOk a b m) : thenM (idM a) m = m := by
 have l1 := hm.ln
 have l2 := hm.le
 refine mo_ext (list_ext_gt ?_ fun i hi => ?_) (list_ext_gt ?_ fun i hi => ?_)
 ·simp only [thenM, thr_len, idM, nums_len]; omega
 ·simp only [thenM, thr_len, idM, nums_len] at hi ⊢
  rw [thr_gt (by rw [nums_len]; exact hi), nums_gt hi]
 ·simp only [thenM, thr_len, idM, nums_len]; omega
 ·simp only [thenM, thr_len, idM, nums_len] at hi ⊢
  rw [thr_gt (by rw [nums_len]; exact hi), nums_gt hi]
end
end Go.Am
