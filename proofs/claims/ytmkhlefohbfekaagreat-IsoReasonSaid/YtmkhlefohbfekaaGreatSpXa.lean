/- Drafts of graphs; what laws take. -/
import Derived.Test.YtmkhlefohbfekaaGreatSpPa
import Derived.Test.YtmkhlefohbfekaaGreatSpPb
import Derived.Test.YtmkhlefohbfekaaGreatSpPc
import Derived.Test.YtmkhlefohbfekaaGreatSpPd
import Derived.Test.YtmkhlefohbfekaaGreatSpPe
namespace Go.Am
open Go
set_option linter.unusedVariables false
set_option linter.unusedSimpArgs false
section
variable (P : Program) (F : String → Nat)
end
def shI : Sh := .int .i64
def shIs : Sh := .slc 1 8 shI
def shE : Sh := .cat [shI, shI, shI]
def shG : Sh := .cat [shIs, .slc 3 24 shE]
theorem rd_int {x : D} (h : HasEl shI x) : ∃ n : Int, x = .int .i64 n ∧ IntKind.i64.min ≤ n ∧ n ≤ IntKind.i64.max := by
 simpa only [shI, HasEl] using h
theorem rd_intl : ∀ {xs : List D}, (∀ y ∈ xs, HasEl shI y) → ∃ l : List Int, xs = ints l
 | [], _ => ⟨[], rfl⟩
 | x :: xs, h => by
  obtain ⟨l, rfl⟩ := rd_intl (xs := xs) fun y hy => h y (by simp [hy])
  obtain ⟨n, rfl, _⟩ := rd_int (h x (by simp))
  exact ⟨n :: l, rfl⟩
theorem rd_ints {x : D} (h : HasEl shIs x) : ∃ l : List Int, x = .lst 1 (ints l) ∧ l.length ≤ 20000000000000 := by
 simp only [shIs, HasEl] at h
 obtain ⟨xs, rfl, h1, h2⟩ := h
 obtain ⟨l, rfl⟩ := rd_intl h2
 refine ⟨l, rfl, ?_⟩
 rw [ints_length] at h1
 unfold reachBytes at h1
 omega
theorem rd_edge {x : D} (h : HasEl shE x) : ∃ e : E, x = edD e := by
 simp only [shE, HasEl] at h
 obtain ⟨ds, rfl, h⟩ := h
 simp only [shI, HasShs, HasEl] at h
 obtain ⟨_, _, rfl, ⟨a, rfl, _⟩, _, _, rfl, ⟨b, rfl, _⟩, _, _, rfl, ⟨c, rfl, _⟩, rfl⟩ := h
 exact ⟨⟨a, b, c⟩, rfl⟩
theorem rd_edl : ∀ {xs : List D}, (∀ y ∈ xs, HasEl shE y) → ∃ l : List E, xs = eds l
 | [], _ => ⟨[], rfl⟩
 | x :: xs, h => by
  obtain ⟨l, rfl⟩ := rd_edl (xs := xs) fun y hy => h y (by simp [hy])
  obtain ⟨n, rfl⟩ := rd_edge (h x (by simp))
  exact ⟨n :: l, rfl⟩
theorem rd_graph {x : D} (h : HasEl shG x) : ∃ g : G, x = gD g := by
 simp only [shG, HasEl] at h
 obtain ⟨ds, rfl, h⟩ := h
 have h' : ∃ a b, ds = a :: b ∧ HasEl shIs a ∧ HasShs [.slc 3 24 shE] b := by simpa only [shIs, HasShs] using h
 obtain ⟨a, _, rfl, h1, h'⟩ := h'
 obtain ⟨l, rfl, _⟩ := rd_ints h1
 simp only [HasShs, HasEl] at h'
 obtain ⟨_, _, rfl, ⟨xs, rfl, _, h3⟩, rfl⟩ := h'
 obtain ⟨es, rfl⟩ := rd_edl h3
 exact ⟨⟨l, es⟩, rfl⟩
section
variable {P : Program} {F : String → Nat} {α : Type}
end
attribute [local irreducible] W
section
variable (P : Program) (F : String → Nat)
end
section
variable {P : Program} {F : String → Nat} {α : Type}
theorem x_l08_IsoReason (h : K_l08_IsoReason P F) (args : List D) (ha : HasEls [shG, shG] args) : FC P (F "l08.IsoReason") args (.bool true) [] := by
 simp only [HasEls] at ha
 obtain ⟨_, _, rfl, h1, _, _, rfl, h2, rfl⟩ := ha
 obtain ⟨a, rfl⟩ := rd_graph h1
 obtain ⟨b, rfl⟩ := rd_graph h2
 exact h a b
end
end Go.Am
