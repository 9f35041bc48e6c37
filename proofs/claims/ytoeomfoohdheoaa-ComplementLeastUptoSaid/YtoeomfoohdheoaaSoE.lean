/- Disjoint unions and pushouts: plain facts. -/
import Derived.Test.YtoeomfoohdheoaaSoPa
import Derived.Test.YtoeomfoohdheoaaSjQ
namespace Go.Am
open Go
set_option linter.unusedVariables false
set_option linter.unusedSimpArgs false
def unG (a b : G) : G := ⟨a.n ++ b.n, a.e ++ b.e.map (shE1 a.n.length)⟩
def inR (a b : G) : Mo := ⟨nums a.n.length b.n.length, nums a.e.length b.e.length⟩
def Big (b c : G) : Prop := 40 < b.n.length + c.n.length ∨ 80 < b.e.length + c.e.length
instance (b c : G) : Decidable (Big b c) := inferInstanceAs (Decidable (_ ∨ _))
/-- A span. -/
structure Sp where
  a : G
  b : G
  c : G
  f : Mo
  g : Mo
  deriving DecidableEq, Inhabited
def poF (s : Sp) : Mo := thenM s.f (idM s.b)
def poH (s : Sp) : Mo := thenM s.g (inR s.b s.c)
def poG (s : Sp) : G := gluG (unG s.b s.c) (poF s) (poH s)
def poQ (s : Sp) : Mo := gluM (unG s.b s.c) (poF s) (poH s)
def poP (s : Sp) : Mo := thenM (idM s.b) (poQ s)
def poK (s : Sp) : Mo := thenM (inR s.b s.c) (poQ s)
section
theorem nums_gtF {f : Int} {n i : Nat} (hi : i < n) : gt (nums f n) i = f + i := by
  unfold nums
  rw [gt_nat (by simp; exact hi)]
  simp
theorem gt_appL {α : Type} [Inhabited α] {l m : List α} {i : Nat} (h : i < l.length) : gt (l ++ m) i = gt l i := by
  rw [gt_nat (by simp; omega), gt_nat h, List.getElem_append_left h]
theorem gt_appR {α : Type} [Inhabited α] {l m : List α} {i : Nat} (h : i < m.length) : gt (l ++ m) ((l.length : Int) + i) = gt m i := by
  rw [show (l.length : Int) + i = ((l.length + i : Nat) : Int) by omega, gt_nat (by simp; omega), gt_nat h, List.getElem_append_right (by omega)]
  simp
theorem thr_assoc {l b c : List Int} (h : ∀ i : Nat, i < l.length → 0 ≤ gt l i ∧ gt l i < b.length) : thr (thr l b) c = thr l (thr b c) :=
  list_ext_gt (by simp only [thr_len]) fun i hi => by
    rw [thr_len, thr_len] at hi
    obtain ⟨k, hk, hk2⟩ := gtI (h i hi)
    rw [thr_gt (by rw [thr_len]; exact hi), thr_gt hi, thr_gt hi, hk2, thr_gt hk]
theorem then_assoc {a b c : G} {m n o : Mo} (hm : MOk a b m) (hn : MOk b c n) : thenM (thenM m n) o = thenM m (thenM n o) := by
  have l1 := hn.ln
  have l2 := hn.le
  refine mo_ext (thr_assoc fun i hi => ?_) (thr_assoc fun i hi => ?_)
  · rw [l1]; exact (hm.nd i (by rw [← hm.ln]; exact hi)).1
  · rw [l2]; exact (hm.ed i (by rw [← hm.le]; exact hi)).1
theorem then_okP {a b c : G} {m n : Mo} (hm : MOk a b m) (hn : MOk b c n) : MOk a c (thenM m n) := by
  have l1 := hm.ln
  have l2 := hm.le
  refine ⟨hm.va, hn.vb, by simp only [thenM, thr_len]; exact l1, by simp only [thenM, thr_len]; exact l2, fun i hi => ?_, fun i hi => ?_⟩
  · obtain ⟨h1, h2⟩ := hm.nd i hi
    obtain ⟨k, hk, hk2⟩ := gtI h1
    simp only [thenM]
    rw [thr_gt (by omega), hk2]
    rw [hk2] at h2
    obtain ⟨h3, h4⟩ := hn.nd k hk
    exact ⟨h3, by rw [h4, h2]⟩
  · obtain ⟨h1, h2, h3, h4⟩ := hm.ed i hi
    obtain ⟨k, hk, hk2⟩ := gtI h1
    obtain ⟨_, f1, f2⟩ := edge_fits hm.va (i := i) (by omega)
    obtain ⟨p, hp, hp2⟩ := gtI f1
    obtain ⟨q, hq, hq2⟩ := gtI f2
    simp only [thenM]
    rw [thr_gt (by omega), hk2]
    rw [hk2] at h2 h3 h4
    obtain ⟨g1, g2, g3, g4⟩ := hn.ed k hk
    refine ⟨g1, by rw [h2, g2], ?_, ?_⟩
    · rw [hp2, thr_gt (by omega), ← g3, ← h3, hp2]
    · rw [hq2, thr_gt (by omega), ← g4, ← h4, hq2]
theorem un_len (b c : G) : (unG b c).n.length = b.n.length + c.n.length ∧ (unG b c).e.length = b.e.length + c.e.length := by simp [unG]
theorem un_ok {b c : G} (vb : validG b = 0) (vc : validG c = 0) (hs : ¬ Big b c) : validG (unG b c) = 0 := by
  have v1 := valid_spec vb
  have v2 := valid_spec vc
  have hl := un_len b c
  unfold Big at hs
  refine valid_mk (by omega) (by omega) (fun x hx => ?_) (fun x hx => ?_)
  · rcases List.mem_append.1 hx with hx | hx
    · exact v1.2.2.1 x hx
    · exact v2.2.2.1 x hx
  · rw [hl.1]
    rcases List.mem_append.1 hx with hx | hx
    · have := fits_spec (v1.2.2.2 x hx)
      exact fits_mk this.1 (by omega) (by omega)
    · obtain ⟨y, hy, rfl⟩ := List.mem_map.1 hx
      have := fits_spec (v2.2.2.2 y hy)
      exact fits_mk this.1 (by simp only [shE1]; omega) (by simp only [shE1]; omega)
theorem inL_ok {b c : G} (vb : validG b = 0) (vc : validG c = 0) (hs : ¬ Big b c) : MOk b (unG b c) (idM b) := by
  have hl := un_len b c
  have hi := idM_ok vb
  refine ⟨vb, un_ok vb vc hs, hi.ln, hi.le, fun i h => ?_, fun i h => ?_⟩
  · simp only [idM, unG]
    rw [nums_gt h, gt_appL h]
    exact ⟨by simp; omega, rfl⟩
  · obtain ⟨h1, h2, h3, h4⟩ := hi.ed i h
    simp only [idM, unG] at *
    rw [nums_gt h] at h2 h3 h4 ⊢
    rw [gt_appL h]
    exact ⟨by simp; omega, h2, h3, h4⟩
theorem inR_ok {b c : G} (vb : validG b = 0) (vc : validG c = 0) (hs : ¬ Big b c) : MOk c (unG b c) (inR b c) := by
  have hl := un_len b c
  refine ⟨vc, un_ok vb vc hs, by simp [inR, nums_len], by simp [inR, nums_len], fun i h => ?_, fun i h => ?_⟩
  · simp only [inR, unG]
    rw [nums_gtF h, gt_appR h]
    exact ⟨by simp; omega, rfl⟩
  · obtain ⟨_, t2, t3⟩ := edge_fits vc (i := i) (by omega)
    obtain ⟨p, hp, hp2⟩ := gtI t2
    obtain ⟨q, hq, hq2⟩ := gtI t3
    simp only [inR, unG]
    rw [nums_gtF h, gt_appR (by simpa using h), gt_map h]
    refine ⟨by simp; omega, rfl, ?_, ?_⟩
    · simp only [shE1]
      rw [hp2, nums_gtF hp]; omega
    · simp only [shE1]
      rw [hq2, nums_gtF hq]; omega
theorem split_i {b c i : Nat} (h : i < b + c) : i < b ∨ ∃ j : Nat, j < c ∧ i = b + j := by
  by_cases x : i < b
  · exact .inl x
  · exact .inr ⟨i - b, by omega, by omega⟩
/-- Two morphisms from a union are the same if they are so on both sides. -/
theorem un_one {b c x : G} {u v : Mo} (hu : MOk (unG b c) x u) (hv : MOk (unG b c) x v) (h1 : thenM (idM b) u = thenM (idM b) v) (h2 : thenM (inR b c) u = thenM (inR b c) v) : u = v := by
  have hl := un_len b c
  refine mo_ext (list_ext_gt (by rw [hu.ln, hv.ln]) fun i hi => ?_) (list_ext_gt (by rw [hu.le, hv.le]) fun i hi => ?_)
  · rw [hu.ln, hl.1] at hi
    rcases split_i hi with h | ⟨j, h, rfl⟩
    · have := thenM_n h1 (i := i) (by simp [idM, nums_len]; exact h) (by simp [idM, nums_len]; exact h)
      simp only [idM] at this
      rwa [nums_gt h] at this
    · have := thenM_n h2 (i := j) (by simp [inR, nums_len]; exact h) (by simp [inR, nums_len]; exact h)
      simp only [inR] at this
      rw [nums_gtF h] at this
      rw [show ((b.n.length + j : Nat) : Int) = (b.n.length : Int) + j by omega]
      exact this
  · rw [hu.le, hl.2] at hi
    rcases split_i hi with h | ⟨j, h, rfl⟩
    · have := thenM_e h1 (i := i) (by simp [idM, nums_len]; exact h) (by simp [idM, nums_len]; exact h)
      simp only [idM] at this
      rwa [nums_gt h] at this
    · have := thenM_e h2 (i := j) (by simp [inR, nums_len]; exact h) (by simp [inR, nums_len]; exact h)
      simp only [inR] at this
      rw [nums_gtF h] at this
      rw [show ((b.e.length + j : Nat) : Int) = (b.e.length : Int) + j by omega]
      exact this
/-- A span that is right. -/
structure SOk (s : Sp) : Prop where
  f : MOk s.a s.b s.f
  g : MOk s.a s.c s.g
  s : ¬ Big s.b s.c
section
variable {s : Sp}
theorem SOk.uF (h : SOk s) : MOk s.a (unG s.b s.c) (poF s) := then_okP h.f (inL_ok h.f.vb h.g.vb h.s)
theorem SOk.uH (h : SOk s) : MOk s.a (unG s.b s.c) (poH s) := then_okP h.g (inR_ok h.f.vb h.g.vb h.s)
theorem SOk.q (h : SOk s) : MOk (unG s.b s.c) (poG s) (poQ s) := glu_ok h.uF h.uH
theorem SOk.p (h : SOk s) : MOk s.b (poG s) (poP s) := then_okP (inL_ok h.f.vb h.g.vb h.s) h.q
theorem SOk.k (h : SOk s) : MOk s.c (poG s) (poK s) := then_okP (inR_ok h.f.vb h.g.vb h.s) h.q
theorem SOk.comm (h : SOk s) : thenM s.f (poP s) = thenM s.g (poK s) := by
  unfold poP poK
  rw [← then_assoc h.f (inL_ok h.f.vb h.g.vb h.s), ← then_assoc h.g (inR_ok h.f.vb h.g.vb h.s)]
  exact glu_eq h.uF h.uH
theorem SOk.one (hs : SOk s) {x : G} {u v : Mo} (hu : MOk (poG s) x u) (hv : MOk (poG s) x v) (h1 : thenM (poP s) u = thenM (poP s) v) (h2 : thenM (poK s) u = thenM (poK s) v) : u = v := by
  have il := inL_ok hs.f.vb hs.g.vb hs.s
  have ir := inR_ok hs.f.vb hs.g.vb hs.s
  refine glu_one hs.uF hs.uH hu hv (un_one (then_okP hs.q hu) (then_okP hs.q hv) ?_ ?_)
  · exact (then_assoc il hs.q).symm.trans (h1.trans (then_assoc il hs.q))
  · exact (then_assoc ir hs.q).symm.trans (h2.trans (then_assoc ir hs.q))
theorem SOk.surN (hs : SOk s) {j : Nat} (hj : j < (poG s).n.length) : (∃ i : Nat, i < s.b.n.length ∧ gt (poP s).n i = j) ∨ ∃ i : Nat, i < s.c.n.length ∧ gt (poK s).n i = j := by
  obtain ⟨i, hi, hi2⟩ := glu_surN hs.uF hs.uH hj
  rw [(un_len _ _).1] at hi
  rcases split_i hi with h | ⟨k, h, rfl⟩
  · refine .inl ⟨i, h, ?_⟩
    simp only [poP, thenM, idM]
    rw [thr_gt (by rw [nums_len]; exact h), nums_gt h]
    exact hi2
  · refine .inr ⟨k, h, ?_⟩
    simp only [poK, thenM, inR]
    rw [thr_gt (by rw [nums_len]; exact h), nums_gtF h, show (s.b.n.length : Int) + k = ((s.b.n.length + k : Nat) : Int) by omega]
    exact hi2
theorem SOk.surE (hs : SOk s) {j : Nat} (hj : j < (poG s).e.length) : (∃ i : Nat, i < s.b.e.length ∧ gt (poP s).e i = j) ∨ ∃ i : Nat, i < s.c.e.length ∧ gt (poK s).e i = j := by
  obtain ⟨i, hi, hi2⟩ := glu_surE hs.uF hs.uH hj
  rw [(un_len _ _).2] at hi
  rcases split_i hi with h | ⟨k, h, rfl⟩
  · refine .inl ⟨i, h, ?_⟩
    simp only [poP, thenM, idM]
    rw [thr_gt (by rw [nums_len]; exact h), nums_gt h]
    exact hi2
  · refine .inr ⟨k, h, ?_⟩
    simp only [poK, thenM, inR]
    rw [thr_gt (by rw [nums_len]; exact h), nums_gtF h, show (s.b.e.length : Int) + k = ((s.b.e.length + k : Nat) : Int) by omega]
    exact hi2
end
end
end Go.Am
