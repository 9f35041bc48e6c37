/- Drafts of graphs; what laws take. -/
import Derived.Test.YtpdjpdfkacpnnaaSpPa
import Derived.Test.YtpdjpdfkacpnnaaSpPb
import Derived.Test.YtpdjpdfkacpnnaaSpPc
import Derived.Test.YtpdjpdfkacpnnaaSpPd
namespace Go.Am
open Go
set_option linter.unusedVariables false
set_option linter.unusedSimpArgs false
section
variable (P : Program) (F : String → Nat)
end
def shI : Sh := .int .i64
def shIs : Sh := .slc 1 8 shI
def shE : Sh := .cat [shI, shI, shI]
def shG : Sh := .cat [shIs, .slc 3 24 shE]
theorem rd_int {x : D} (h : HasEl shI x) : ∃ n : Int, x = .int .i64 n ∧ IntKind.i64.min ≤ n ∧ n ≤ IntKind.i64.max := by
 simpa only [shI, HasEl] using h
theorem rd_intl : ∀ {xs : List D}, (∀ y ∈ xs, HasEl shI y) → ∃ l : List Int, xs = ints l
 | [], _ => ⟨[], rfl⟩
 | x :: xs, h => by
  obtain ⟨l, rfl⟩ := rd_intl (xs := xs) fun y hy => h y (by simp [hy])
  obtain ⟨n, rfl, _⟩ := rd_int (h x (by simp))
  exact ⟨n :: l, rfl⟩
theorem rd_ints {x : D} (h : HasEl shIs x) : ∃ l : List Int, x = .lst 1 (ints l) ∧ l.length ≤ 20000000000000 := by
 simp only [shIs, HasEl] at h
 obtain ⟨xs, rfl, h1, h2⟩ := h
 obtain ⟨l, rfl⟩ := rd_intl h2
 refine ⟨l, rfl, ?_⟩
 rw [ints_length] at h1
 unfold reachBytes at h1
 omega
theorem rd_edge {x : D} (h : HasEl shE x) : ∃ e : E, x = edD e := by
 simp only [shE, HasEl] at h
 obtain ⟨ds, rfl, h⟩ := h
 simp only [shI, HasShs, HasEl] at h
 obtain ⟨_, _, rfl, ⟨a, rfl, _⟩, _, _, rfl, ⟨b, rfl, _⟩, _, _, rfl, ⟨c, rfl, _⟩, rfl⟩ := h
 exact ⟨⟨a, b, c⟩, rfl⟩
theorem rd_edl : ∀ {xs : List D}, (∀ y ∈ xs, HasEl shE y) → ∃ l : List E, xs = eds l
 | [], _ => ⟨[], rfl⟩
 | x :: xs, h => by
  obtain ⟨l, rfl⟩ := rd_edl (xs := xs) fun y hy => h y (by simp [hy])
  obtain ⟨n, rfl⟩ := rd_edge (h x (by simp))
  exact ⟨n :: l, rfl⟩
theorem rd_graph {x : D} (h : HasEl shG x) : ∃ g : G, x = gD g := by
 simp only [shG, HasEl] at h
 obtain ⟨ds, rfl, h⟩ := h
 have h' : ∃ a b, ds = a :: b ∧ HasEl shIs a ∧ HasShs [.slc 3 24 shE] b := by simpa only [shIs, HasShs] using h
 obtain ⟨a, _, rfl, h1, h'⟩ := h'
 obtain ⟨l, rfl, _⟩ := rd_ints h1
 simp only [HasShs, HasEl] at h'
 obtain ⟨_, _, rfl, ⟨xs, rfl, _, h3⟩, rfl⟩ := h'
 obtain ⟨es, rfl⟩ := rd_edl h3
 exact ⟨⟨l, es⟩, rfl⟩
theorem hasShs_slc {z b : Nat} {e : Sh} {l : List Sh} {ds : List D} (h : HasShs (.slc z b e :: l) ds) : ∃ a b', ds = a :: b' ∧ HasEl (.slc z b e) a ∧ HasShs l b' := by simpa only [HasShs] using h
theorem hasShs_nil {ds : List D} (h : HasShs [] ds) : ds = [] := by simpa only [HasShs] using h
def moL (m : Mo) : List D := [.lst 1 (ints m.n), .lst 1 (ints m.e)]
def shM : Sh := .cat [shIs, shIs]
theorem rd_ml {ds : List D} (h : HasShs [shIs, shIs] ds) : ∃ m : Mo, ds = moL m ∧ m.sm := by
 obtain ⟨_, _, rfl, h1, h⟩ := hasShs_slc h
 obtain ⟨_, _, rfl, h2, h⟩ := hasShs_slc h
 obtain rfl := hasShs_nil h
 obtain ⟨n, rfl, l1⟩ := rd_ints h1
 obtain ⟨e, rfl, l2⟩ := rd_ints h2
 exact ⟨⟨n, e⟩, rfl, by simp only [maxL]; omega, by simp only [maxL]; omega⟩
theorem rd_morph {x : D} (h : HasEl shM x) : ∃ m : Mo, x = mD m ∧ m.sm := by
 simp only [shM, HasEl] at h
 obtain ⟨ds, rfl, h⟩ := h
 obtain ⟨m, rfl, h2⟩ := rd_ml h
 exact ⟨m, rfl, h2⟩
section
variable {P : Program} {F : String → Nat} {α : Type}
end
attribute [local irreducible] W
section
variable (P : Program) (F : String → Nat)
end
section
variable {P : Program} {F : String → Nat} {α : Type}
def shGs : Sh := .slc 2 48 shG
def shMs : Sh := .slc 2 48 shM
theorem rd_gsl : ∀ {xs : List D}, (∀ y ∈ xs, HasEl shG y) → ∃ l : List G, xs = gls l
 | [], _ => ⟨[], rfl⟩
 | x :: xs, h => by
  obtain ⟨l, rfl⟩ := rd_gsl (xs := xs) fun y hy => h y (by simp [hy])
  obtain ⟨n, rfl⟩ := rd_graph (h x (by simp))
  exact ⟨n :: l, rfl⟩
theorem rd_msl : ∀ {xs : List D}, (∀ y ∈ xs, HasEl shM y) → ∃ l : List Mo, xs = pts l ∧ ∀ m ∈ l, m.sm
 | [], _ => ⟨[], rfl, by simp⟩
 | x :: xs, h => by
  obtain ⟨l, rfl, hl⟩ := rd_msl (xs := xs) fun y hy => h y (by simp [hy])
  obtain ⟨n, rfl, hn⟩ := rd_morph (h x (by simp))
  exact ⟨n :: l, rfl, by simpa [hn] using hl⟩
theorem x_l10_PushoutSeveral (h : K_l10_PushoutSeveral P F) (args : List D) (ha : HasEls [shG, shGs, shMs] args) : FC P (F "l10.PushoutSeveral") args (.bool true) [] := by
 simp only [HasEls] at ha
 obtain ⟨_, _, rfl, h1, _, _, rfl, h2, _, _, rfl, h3, rfl⟩ := ha
 obtain ⟨a, rfl⟩ := rd_graph h1
 simp only [shGs, HasEl] at h2
 obtain ⟨xs, rfl, h4, h5⟩ := h2
 simp only [shMs, HasEl] at h3
 obtain ⟨ys, rfl, h6, h7⟩ := h3
 obtain ⟨l, rfl⟩ := rd_gsl h5
 obtain ⟨m, rfl, h8⟩ := rd_msl h7
 rw [gls_length] at h4
 rw [pts_length] at h6
 unfold reachBytes at h4 h6
 exact h a l m (by unfold maxL; omega) (by unfold maxL; omega) h8
end
end Go.Am
