/- Drafts of graphs; what laws take. -/
import Derived.Test.YtoeomfoohdheoaaSjC
namespace Go.Am
open Go
set_option linter.unusedVariables false
set_option linter.unusedSimpArgs false
def u8s (l : List Int) : List D := l.map fun x => .int .u8 x
def trs (l : List E) : List D := l.map fun x => .agg [.int .u8 x.t, .int .u8 x.f, .int .u8 x.o]
theorem u8s_length (l : List Int) : (u8s l).length = l.length := by simp [u8s]
theorem trs_length (l : List E) : (trs l).length = l.length := by simp [trs]
theorem u8s_atn {l : List Int} {i : Nat} (h : i < l.length) : (u8s l)[i]? = some (.int .u8 (gt l (i : Int))) := by
  rw [gt_nat h]; simp [u8s, h]
theorem trs_atn {l : List E} {i : Nat} (h : i < l.length) : (trs l)[i]? = some (.agg [.int .u8 (gt l (i : Int)).t, .int .u8 (gt l (i : Int)).f, .int .u8 (gt l (i : Int)).o]) := by
  rw [gt_nat h]; simp [trs, h]
theorem flat_u8s (l : List Int) : (u8s l).all D.flatE = true := by simp [u8s, D.flatE, D.flat0]
theorem flat_trs (l : List E) : (trs l).all D.flatE = true := by simp [trs, D.flatE, D.flat0]
attribute [go_sem] u8s_length trs_length u8s_atn trs_atn flat_u8s flat_trs
/-- A draft: types of nodes, and edges. -/
structure Dr where
  n : List Int
  e : List E
  deriving DecidableEq, Inhabited
def Byte (x : Int) : Prop := 0 ≤ x ∧ x ≤ 255
def Dr.ok (x : Dr) : Prop := (∀ v ∈ x.n, Byte v) ∧ ∀ v ∈ x.e, Byte v.t ∧ Byte v.f ∧ Byte v.o
section
variable (P : Program) (F : String → Nat)
end
def shI : Sh := .int .i64
def shIs : Sh := .slc 1 8 shI
def shE : Sh := .cat [shI, shI, shI]
def shG : Sh := .cat [shIs, .slc 3 24 shE]
theorem rd_int {x : D} (h : HasEl shI x) : ∃ n : Int, x = .int .i64 n ∧ IntKind.i64.min ≤ n ∧ n ≤ IntKind.i64.max := by
  simpa only [shI, HasEl] using h
theorem rd_intl : ∀ {xs : List D}, (∀ y ∈ xs, HasEl shI y) → ∃ l : List Int, xs = ints l
  | [], _ => ⟨[], rfl⟩
  | x :: xs, h => by
    obtain ⟨l, rfl⟩ := rd_intl (xs := xs) fun y hy => h y (by simp [hy])
    obtain ⟨n, rfl, _⟩ := rd_int (h x (by simp))
    exact ⟨n :: l, rfl⟩
theorem rd_ints {x : D} (h : HasEl shIs x) : ∃ l : List Int, x = .lst 1 (ints l) ∧ l.length ≤ 20000000000000 := by
  simp only [shIs, HasEl] at h
  obtain ⟨xs, rfl, h1, h2⟩ := h
  obtain ⟨l, rfl⟩ := rd_intl h2
  refine ⟨l, rfl, ?_⟩
  rw [ints_length] at h1
  unfold reachBytes at h1
  omega
theorem rd_edge {x : D} (h : HasEl shE x) : ∃ e : E, x = edD e := by
  simp only [shE, HasEl] at h
  obtain ⟨ds, rfl, h⟩ := h
  simp only [shI, HasShs, HasEl] at h
  obtain ⟨_, _, rfl, ⟨a, rfl, _⟩, _, _, rfl, ⟨b, rfl, _⟩, _, _, rfl, ⟨c, rfl, _⟩, rfl⟩ := h
  exact ⟨⟨a, b, c⟩, rfl⟩
theorem rd_edl : ∀ {xs : List D}, (∀ y ∈ xs, HasEl shE y) → ∃ l : List E, xs = eds l
  | [], _ => ⟨[], rfl⟩
  | x :: xs, h => by
    obtain ⟨l, rfl⟩ := rd_edl (xs := xs) fun y hy => h y (by simp [hy])
    obtain ⟨n, rfl⟩ := rd_edge (h x (by simp))
    exact ⟨n :: l, rfl⟩
def shEs : Sh := .slc 3 24 shE
theorem rd_edges {x : D} (h : HasEl shEs x) : ∃ l : List E, x = .lst 3 (eds l) := by
  simp only [shEs, HasEl] at h
  obtain ⟨xs, rfl, _, h3⟩ := h
  obtain ⟨es, rfl⟩ := rd_edl h3
  exact ⟨es, rfl⟩
theorem hasShs_slc {z b : Nat} {e : Sh} {l : List Sh} {ds : List D} (h : HasShs (.slc z b e :: l) ds) : ∃ a b', ds = a :: b' ∧ HasEl (.slc z b e) a ∧ HasShs l b' := by simpa only [HasShs] using h
theorem hasShs_cat {l' : List Sh} {l : List Sh} {ds : List D} (h : HasShs (.cat l' :: l) ds) : ∃ a b, ds = a ++ b ∧ HasShs l' a ∧ HasShs l b := by simpa only [HasShs] using h
theorem hasShs_nil {ds : List D} (h : HasShs [] ds) : ds = [] := by simpa only [HasShs] using h
def gL (g : G) : List D := [.lst 1 (ints g.n), .lst 3 (eds g.e)]
def moL (m : Mo) : List D := [.lst 1 (ints m.n), .lst 1 (ints m.e)]
def shM : Sh := .cat [shIs, shIs]
def Mo.sm (m : Mo) : Prop := m.n.length ≤ maxL ∧ m.e.length ≤ maxL
theorem rd_gl {ds : List D} (h : HasShs [shIs, .slc 3 24 shE] ds) : ∃ g : G, ds = gL g := by
  obtain ⟨_, _, rfl, h1, h⟩ := hasShs_slc h
  obtain ⟨_, _, rfl, h2, h⟩ := hasShs_slc h
  obtain rfl := hasShs_nil h
  obtain ⟨n, rfl, _⟩ := rd_ints h1
  obtain ⟨e, rfl⟩ := rd_edges h2
  exact ⟨⟨n, e⟩, rfl⟩
theorem rd_ml {ds : List D} (h : HasShs [shIs, shIs] ds) : ∃ m : Mo, ds = moL m ∧ m.sm := by
  obtain ⟨_, _, rfl, h1, h⟩ := hasShs_slc h
  obtain ⟨_, _, rfl, h2, h⟩ := hasShs_slc h
  obtain rfl := hasShs_nil h
  obtain ⟨n, rfl, l1⟩ := rd_ints h1
  obtain ⟨e, rfl, l2⟩ := rd_ints h2
  exact ⟨⟨n, e⟩, rfl, by simp only [maxL]; omega, by simp only [maxL]; omega⟩
theorem rd_morph {x : D} (h : HasEl shM x) : ∃ m : Mo, x = mD m ∧ m.sm := by
  simp only [shM, HasEl] at h
  obtain ⟨ds, rfl, h⟩ := h
  obtain ⟨m, rfl, h2⟩ := rd_ml h
  exact ⟨m, rfl, h2⟩
section
variable {P : Program} {F : String → Nat} {α : Type}
theorem valid_spec {g : G} (h : validG g = 0) : g.n.length ≤ 40 ∧ g.e.length ≤ 80 ∧ (∀ x, x ∈ g.n → okN x = true) ∧ ∀ x, x ∈ g.e → fitsE g.n.length x = true := by
  unfold validG at h
  split at h
  · simp at h
  · rename_i h1
    split at h
    · rename_i h2
      simp only [Bool.and_eq_true, List.all_eq_true] at h2
      exact ⟨by omega, by omega, h2.1, h2.2⟩
    · simp at h
theorem fits_spec {n : Int} {x : E} (h : fitsE n x = true) : (0 ≤ x.t ∧ x.t ≤ 99) ∧ (0 ≤ x.f ∧ x.f < n) ∧ (0 ≤ x.o ∧ x.o < n) := by
  simp only [fitsE, Bool.and_eq_true, decide_eq_true_eq] at h
  omega
theorem fits_mk {n : Int} {x : E} (h1 : 0 ≤ x.t ∧ x.t ≤ 99) (h2 : 0 ≤ x.f ∧ x.f < n) (h3 : 0 ≤ x.o ∧ x.o < n) : fitsE n x = true := by
  simp only [fitsE, Bool.and_eq_true, decide_eq_true_eq]
  omega
end
end Go.Am
