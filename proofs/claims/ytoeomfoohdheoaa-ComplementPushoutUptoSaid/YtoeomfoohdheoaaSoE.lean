/- Disjoint unions and pushouts: plain facts. -/
import Derived.Test.YtoeomfoohdheoaaSoPa
import Derived.Test.YtoeomfoohdheoaaSjQ
namespace Go.Am
open Go
set_option linter.unusedVariables false
set_option linter.unusedSimpArgs false
def unG (a b : G) : G := ⟨a.n ++ b.n, a.e ++ b.e.map (shE1 a.n.length)⟩
def inR (a b : G) : Mo := ⟨nums a.n.length b.n.length, nums a.e.length b.e.length⟩
def cop (h k : Mo) : Mo := ⟨h.n ++ k.n, h.e ++ k.e⟩
def Big (b c : G) : Prop := 40 < b.n.length + c.n.length ∨ 80 < b.e.length + c.e.length
instance (b c : G) : Decidable (Big b c) := inferInstanceAs (Decidable (_ ∨ _))
/-- A span. -/
structure Sp where
  a : G
  b : G
  c : G
  f : Mo
  g : Mo
  deriving DecidableEq, Inhabited
def spE (s : Sp) : Int := if validM s.a s.b s.f ≠ 0 then validM s.a s.b s.f else validM s.a s.c s.g
def poErr (s : Sp) : Int := if spE s ≠ 0 then spE s else if Big s.b s.c then 3 else 0
def poF (s : Sp) : Mo := thenM s.f (idM s.b)
def poH (s : Sp) : Mo := thenM s.g (inR s.b s.c)
def poG (s : Sp) : G := gluG (unG s.b s.c) (poF s) (poH s)
def poQ (s : Sp) : Mo := gluM (unG s.b s.c) (poF s) (poH s)
def poP (s : Sp) : Mo := thenM (idM s.b) (poQ s)
def poK (s : Sp) : Mo := thenM (inR s.b s.c) (poQ s)
def poR (s : Sp) : G × Mo × Mo × Int := if poErr s = 0 then (poG s, poP s, poK s, 0) else (g0, m0, m0, poErr s)
def ontoL (n : Nat) (p h q k : List Int) : List Int := setL k q (setL h p (List.replicate n 0) p.length) q.length
def medU (s : Sp) (h k : Mo) : Mo := ⟨ontoL (poG s).n.length (poP s).n h.n (poK s).n k.n, ontoL (poG s).e.length (poP s).e h.e (poK s).e k.e⟩
def cocE (s : Sp) (x : G) (h k : Mo) : Int := if spE s ≠ 0 then spE s else if validM s.b x h ≠ 0 then validM s.b x h else if validM s.c x k ≠ 0 then validM s.c x k else if Big s.b s.c then 3 else if thenM s.f h = thenM s.g k then 0 else 11
def medP (s : Sp) (x : G) (h k : Mo) : Mo × Int := if cocE s x h k = 0 then (medU s h k, 0) else (m0, cocE s x h k)
def chkP (s : Sp) (x : G) (h k : Mo) : Bool := decide (cocE s x h k = 0) && (injM (poG s) x (medU s h k) && surM (poG s) x (medU s h k))
section
theorem nums_gtF {f : Int} {n i : Nat} (hi : i < n) : gt (nums f n) i = f + i := by
  unfold nums
  rw [gt_nat (by simp; exact hi)]
  simp
theorem gt_appL {α : Type} [Inhabited α] {l m : List α} {i : Nat} (h : i < l.length) : gt (l ++ m) i = gt l i := by
  rw [gt_nat (by simp; omega), gt_nat h, List.getElem_append_left h]
theorem gt_appR {α : Type} [Inhabited α] {l m : List α} {i : Nat} (h : i < m.length) : gt (l ++ m) ((l.length : Int) + i) = gt m i := by
  rw [show (l.length : Int) + i = ((l.length + i : Nat) : Int) by omega, gt_nat (by simp; omega), gt_nat h, List.getElem_append_right (by omega)]
  simp
theorem thr_assoc {l b c : List Int} (h : ∀ i : Nat, i < l.length → 0 ≤ gt l i ∧ gt l i < b.length) : thr (thr l b) c = thr l (thr b c) :=
  list_ext_gt (by simp only [thr_len]) fun i hi => by
    rw [thr_len, thr_len] at hi
    obtain ⟨k, hk, hk2⟩ := gtI (h i hi)
    rw [thr_gt (by rw [thr_len]; exact hi), thr_gt hi, thr_gt hi, hk2, thr_gt hk]
theorem then_assoc {a b c : G} {m n o : Mo} (hm : MOk a b m) (hn : MOk b c n) : thenM (thenM m n) o = thenM m (thenM n o) := by
  have l1 := hn.ln
  have l2 := hn.le
  refine mo_ext (thr_assoc fun i hi => ?_) (thr_assoc fun i hi => ?_)
  · rw [l1]; exact (hm.nd i (by rw [← hm.ln]; exact hi)).1
  · rw [l2]; exact (hm.ed i (by rw [← hm.le]; exact hi)).1
theorem then_okP {a b c : G} {m n : Mo} (hm : MOk a b m) (hn : MOk b c n) : MOk a c (thenM m n) := by
  have l1 := hm.ln
  have l2 := hm.le
  refine ⟨hm.va, hn.vb, by simp only [thenM, thr_len]; exact l1, by simp only [thenM, thr_len]; exact l2, fun i hi => ?_, fun i hi => ?_⟩
  · obtain ⟨h1, h2⟩ := hm.nd i hi
    obtain ⟨k, hk, hk2⟩ := gtI h1
    simp only [thenM]
    rw [thr_gt (by omega), hk2]
    rw [hk2] at h2
    obtain ⟨h3, h4⟩ := hn.nd k hk
    exact ⟨h3, by rw [h4, h2]⟩
  · obtain ⟨h1, h2, h3, h4⟩ := hm.ed i hi
    obtain ⟨k, hk, hk2⟩ := gtI h1
    obtain ⟨_, f1, f2⟩ := edge_fits hm.va (i := i) (by omega)
    obtain ⟨p, hp, hp2⟩ := gtI f1
    obtain ⟨q, hq, hq2⟩ := gtI f2
    simp only [thenM]
    rw [thr_gt (by omega), hk2]
    rw [hk2] at h2 h3 h4
    obtain ⟨g1, g2, g3, g4⟩ := hn.ed k hk
    refine ⟨g1, by rw [h2, g2], ?_, ?_⟩
    · rw [hp2, thr_gt (by omega), ← g3, ← h3, hp2]
    · rw [hq2, thr_gt (by omega), ← g4, ← h4, hq2]
theorem un_len (b c : G) : (unG b c).n.length = b.n.length + c.n.length ∧ (unG b c).e.length = b.e.length + c.e.length := by simp [unG]
theorem un_ok {b c : G} (vb : validG b = 0) (vc : validG c = 0) (hs : ¬ Big b c) : validG (unG b c) = 0 := by
  have v1 := valid_spec vb
  have v2 := valid_spec vc
  have hl := un_len b c
  unfold Big at hs
  refine valid_mk (by omega) (by omega) (fun x hx => ?_) (fun x hx => ?_)
  · rcases List.mem_append.1 hx with hx | hx
    · exact v1.2.2.1 x hx
    · exact v2.2.2.1 x hx
  · rw [hl.1]
    rcases List.mem_append.1 hx with hx | hx
    · have := fits_spec (v1.2.2.2 x hx)
      exact fits_mk this.1 (by omega) (by omega)
    · obtain ⟨y, hy, rfl⟩ := List.mem_map.1 hx
      have := fits_spec (v2.2.2.2 y hy)
      exact fits_mk this.1 (by simp only [shE1]; omega) (by simp only [shE1]; omega)
theorem inL_ok {b c : G} (vb : validG b = 0) (vc : validG c = 0) (hs : ¬ Big b c) : MOk b (unG b c) (idM b) := by
  have hl := un_len b c
  have hi := idM_ok vb
  refine ⟨vb, un_ok vb vc hs, hi.ln, hi.le, fun i h => ?_, fun i h => ?_⟩
  · simp only [idM, unG]
    rw [nums_gt h, gt_appL h]
    exact ⟨by simp; omega, rfl⟩
  · obtain ⟨h1, h2, h3, h4⟩ := hi.ed i h
    simp only [idM, unG] at *
    rw [nums_gt h] at h2 h3 h4 ⊢
    rw [gt_appL h]
    exact ⟨by simp; omega, h2, h3, h4⟩
theorem inR_ok {b c : G} (vb : validG b = 0) (vc : validG c = 0) (hs : ¬ Big b c) : MOk c (unG b c) (inR b c) := by
  have hl := un_len b c
  refine ⟨vc, un_ok vb vc hs, by simp [inR, nums_len], by simp [inR, nums_len], fun i h => ?_, fun i h => ?_⟩
  · simp only [inR, unG]
    rw [nums_gtF h, gt_appR h]
    exact ⟨by simp; omega, rfl⟩
  · obtain ⟨_, t2, t3⟩ := edge_fits vc (i := i) (by omega)
    obtain ⟨p, hp, hp2⟩ := gtI t2
    obtain ⟨q, hq, hq2⟩ := gtI t3
    simp only [inR, unG]
    rw [nums_gtF h, gt_appR (by simpa using h), gt_map h]
    refine ⟨by simp; omega, rfl, ?_, ?_⟩
    · simp only [shE1]
      rw [hp2, nums_gtF hp]; omega
    · simp only [shE1]
      rw [hq2, nums_gtF hq]; omega
theorem split_i {b c i : Nat} (h : i < b + c) : i < b ∨ ∃ j : Nat, j < c ∧ i = b + j := by
  by_cases x : i < b
  · exact .inl x
  · exact .inr ⟨i - b, by omega, by omega⟩
theorem cop_gtN {b c x : G} {h k : Mo} (hh : MOk b x h) (hk : MOk c x k) {i : Nat} (hi : i < c.n.length) : gt (cop h k).n ((b.n.length : Int) + i) = gt k.n i := by
  have := hh.ln
  have := hk.ln
  simp only [cop]
  rw [← hh.ln, gt_appR (by omega)]
theorem cop_gtE {b c x : G} {h k : Mo} (hh : MOk b x h) (hk : MOk c x k) {i : Nat} (hi : i < c.e.length) : gt (cop h k).e ((b.e.length : Int) + i) = gt k.e i := by
  have := hh.le
  have := hk.le
  simp only [cop]
  rw [← hh.le, gt_appR (by omega)]
theorem cop_ok {b c x : G} {h k : Mo} (hh : MOk b x h) (hk : MOk c x k) (hs : ¬ Big b c) : MOk (unG b c) x (cop h k) := by
  have hl := un_len b c
  have l1 := hh.ln
  have l2 := hh.le
  have l3 := hk.ln
  have l4 := hk.le
  have cl : ∀ i : Nat, i < b.n.length → gt (cop h k).n i = gt h.n i := fun i hi => gt_appL (by omega)
  have ce : ∀ i : Nat, i < b.e.length → gt (cop h k).e i = gt h.e i := fun i hi => gt_appL (by omega)
  have ul : ∀ i : Nat, i < b.n.length → gt (unG b c).n i = gt b.n i := fun i hi => gt_appL (by omega)
  have ue : ∀ i : Nat, i < b.e.length → gt (unG b c).e i = gt b.e i := fun i hi => gt_appL (by omega)
  refine ⟨un_ok hh.va hk.va hs, hh.vb, by rw [hl.1]; simp [cop]; omega, by rw [hl.2]; simp [cop]; omega, fun i hi => ?_, fun i hi => ?_⟩
  · rw [hl.1] at hi
    rcases split_i hi with h1 | ⟨j, h1, rfl⟩
    · rw [cl i h1, ul i h1]; exact hh.nd i h1
    · rw [show ((b.n.length + j : Nat) : Int) = (b.n.length : Int) + j by omega, cop_gtN hh hk h1]
      simp only [unG]
      rw [gt_appR h1]
      exact hk.nd j h1
  · rw [hl.2] at hi
    rcases split_i hi with h1 | ⟨j, h1, rfl⟩
    · rw [ce i h1, ue i h1]
      obtain ⟨_, t2, t3⟩ := edge_fits hh.va (i := i) (by omega)
      obtain ⟨p, hp, hp2⟩ := gtI t2
      obtain ⟨q, hq, hq2⟩ := gtI t3
      have e := hh.ed i h1
      rw [hp2, hq2] at e ⊢
      rw [cl p hp, cl q hq]
      exact e
    · rw [show ((b.e.length + j : Nat) : Int) = (b.e.length : Int) + j by omega, cop_gtE hh hk h1]
      simp only [unG]
      rw [gt_appR (by simpa using h1), gt_map h1]
      obtain ⟨_, t2, t3⟩ := edge_fits hk.va (i := j) (by omega)
      obtain ⟨p, hp, hp2⟩ := gtI t2
      obtain ⟨q, hq, hq2⟩ := gtI t3
      have e := hk.ed j h1
      simp only [shE1]
      rw [hp2, hq2] at e ⊢
      rw [show (p : Int) + b.n.length = (b.n.length : Int) + p by omega, show (q : Int) + b.n.length = (b.n.length : Int) + q by omega, cop_gtN hh hk hp, cop_gtN hh hk hq]
      exact e
theorem cop_L {b c x : G} {h k : Mo} (hh : MOk b x h) (hk : MOk c x k) : thenM (idM b) (cop h k) = h := by
  have l1 := hh.ln
  have l2 := hh.le
  refine mo_ext (list_ext_gt ?_ fun i hi => ?_) (list_ext_gt ?_ fun i hi => ?_)
  · simp only [thenM, thr_len, idM, nums_len]; omega
  · simp only [thenM, thr_len, idM, nums_len] at hi ⊢
    rw [thr_gt (by rw [nums_len]; exact hi), nums_gt hi]
    exact gt_appL (by omega)
  · simp only [thenM, thr_len, idM, nums_len]; omega
  · simp only [thenM, thr_len, idM, nums_len] at hi ⊢
    rw [thr_gt (by rw [nums_len]; exact hi), nums_gt hi]
    exact gt_appL (by omega)
theorem cop_R {b c x : G} {h k : Mo} (hh : MOk b x h) (hk : MOk c x k) : thenM (inR b c) (cop h k) = k := by
  have l1 := hk.ln
  have l2 := hk.le
  refine mo_ext (list_ext_gt ?_ fun i hi => ?_) (list_ext_gt ?_ fun i hi => ?_)
  · simp only [thenM, thr_len, inR, nums_len]; omega
  · simp only [thenM, thr_len, inR, nums_len] at hi ⊢
    rw [thr_gt (by rw [nums_len]; exact hi), nums_gtF hi]
    exact cop_gtN hh hk hi
  · simp only [thenM, thr_len, inR, nums_len]; omega
  · simp only [thenM, thr_len, inR, nums_len] at hi ⊢
    rw [thr_gt (by rw [nums_len]; exact hi), nums_gtF hi]
    exact cop_gtE hh hk hi
/-- Two morphisms from a union are the same if they are so on both sides. -/
theorem un_one {b c x : G} {u v : Mo} (hu : MOk (unG b c) x u) (hv : MOk (unG b c) x v) (h1 : thenM (idM b) u = thenM (idM b) v) (h2 : thenM (inR b c) u = thenM (inR b c) v) : u = v := by
  have hl := un_len b c
  refine mo_ext (list_ext_gt (by rw [hu.ln, hv.ln]) fun i hi => ?_) (list_ext_gt (by rw [hu.le, hv.le]) fun i hi => ?_)
  · rw [hu.ln, hl.1] at hi
    rcases split_i hi with h | ⟨j, h, rfl⟩
    · have := thenM_n h1 (i := i) (by simp [idM, nums_len]; exact h) (by simp [idM, nums_len]; exact h)
      simp only [idM] at this
      rwa [nums_gt h] at this
    · have := thenM_n h2 (i := j) (by simp [inR, nums_len]; exact h) (by simp [inR, nums_len]; exact h)
      simp only [inR] at this
      rw [nums_gtF h] at this
      rw [show ((b.n.length + j : Nat) : Int) = (b.n.length : Int) + j by omega]
      exact this
  · rw [hu.le, hl.2] at hi
    rcases split_i hi with h | ⟨j, h, rfl⟩
    · have := thenM_e h1 (i := i) (by simp [idM, nums_len]; exact h) (by simp [idM, nums_len]; exact h)
      simp only [idM] at this
      rwa [nums_gt h] at this
    · have := thenM_e h2 (i := j) (by simp [inR, nums_len]; exact h) (by simp [inR, nums_len]; exact h)
      simp only [inR] at this
      rw [nums_gtF h] at this
      rw [show ((b.e.length + j : Nat) : Int) = (b.e.length : Int) + j by omega]
      exact this
/-- A span that is right. -/
structure SOk (s : Sp) : Prop where
  f : MOk s.a s.b s.f
  g : MOk s.a s.c s.g
  s : ¬ Big s.b s.c
theorem spE_ok {s : Sp} : spE s = 0 ↔ MOk s.a s.b s.f ∧ MOk s.a s.c s.g := by
  rw [← mok, ← mok]
  unfold spE
  split
  · rename_i h; exact ⟨fun e => absurd e h, fun e => absurd e.1 h⟩
  · rename_i h; exact ⟨fun e => ⟨Decidable.not_not.1 h, e⟩, fun e => e.2⟩
theorem poErr_ok {s : Sp} : poErr s = 0 ↔ SOk s := by
  unfold poErr
  split
  · rename_i h; exact ⟨fun e => absurd e h, fun e => absurd (spE_ok.2 ⟨e.f, e.g⟩) h⟩
  · rename_i h
    have h := spE_ok.1 (Decidable.not_not.1 h)
    split
    · rename_i hb; exact ⟨fun e => absurd e (by decide), fun e => absurd hb e.s⟩
    · rename_i hb; exact ⟨fun _ => ⟨h.1, h.2, hb⟩, fun _ => rfl⟩
section
variable {s : Sp}
theorem SOk.uF (h : SOk s) : MOk s.a (unG s.b s.c) (poF s) := then_okP h.f (inL_ok h.f.vb h.g.vb h.s)
theorem SOk.uH (h : SOk s) : MOk s.a (unG s.b s.c) (poH s) := then_okP h.g (inR_ok h.f.vb h.g.vb h.s)
theorem SOk.q (h : SOk s) : MOk (unG s.b s.c) (poG s) (poQ s) := glu_ok h.uF h.uH
theorem SOk.p (h : SOk s) : MOk s.b (poG s) (poP s) := then_okP (inL_ok h.f.vb h.g.vb h.s) h.q
theorem SOk.k (h : SOk s) : MOk s.c (poG s) (poK s) := then_okP (inR_ok h.f.vb h.g.vb h.s) h.q
theorem SOk.comm (h : SOk s) : thenM s.f (poP s) = thenM s.g (poK s) := by
  unfold poP poK
  rw [← then_assoc h.f (inL_ok h.f.vb h.g.vb h.s), ← then_assoc h.g (inR_ok h.f.vb h.g.vb h.s)]
  exact glu_eq h.uF h.uH
theorem SOk.med (hs : SOk s) {x : G} {h k : Mo} (hh : MOk s.b x h) (hk : MOk s.c x k) (e : thenM s.f h = thenM s.g k) : ∃ u, MOk (poG s) x u ∧ thenM (poP s) u = h ∧ thenM (poK s) u = k := by
  have hc := cop_ok hh hk hs.s
  have il := inL_ok hs.f.vb hs.g.vb hs.s
  have ir := inR_ok hs.f.vb hs.g.vb hs.s
  have e2 : thenM (poF s) (cop h k) = thenM (poH s) (cop h k) := by
    unfold poF poH
    rw [then_assoc hs.f il, then_assoc hs.g ir, cop_L hh hk, cop_R hh hk, e]
  obtain ⟨u, hu, hu2⟩ := glu_univ hs.uF hs.uH hc e2
  refine ⟨u, hu, ?_, ?_⟩
  · unfold poP
    rw [then_assoc il hs.q]
    unfold poQ
    rw [hu2, cop_L hh hk]
  · unfold poK
    rw [then_assoc ir hs.q]
    unfold poQ
    rw [hu2, cop_R hh hk]
theorem SOk.one (hs : SOk s) {x : G} {u v : Mo} (hu : MOk (poG s) x u) (hv : MOk (poG s) x v) (h1 : thenM (poP s) u = thenM (poP s) v) (h2 : thenM (poK s) u = thenM (poK s) v) : u = v := by
  have il := inL_ok hs.f.vb hs.g.vb hs.s
  have ir := inR_ok hs.f.vb hs.g.vb hs.s
  refine glu_one hs.uF hs.uH hu hv (un_one (then_okP hs.q hu) (then_okP hs.q hv) ?_ ?_)
  · exact (then_assoc il hs.q).symm.trans (h1.trans (then_assoc il hs.q))
  · exact (then_assoc ir hs.q).symm.trans (h2.trans (then_assoc ir hs.q))
theorem SOk.surN (hs : SOk s) {j : Nat} (hj : j < (poG s).n.length) : (∃ i : Nat, i < s.b.n.length ∧ gt (poP s).n i = j) ∨ ∃ i : Nat, i < s.c.n.length ∧ gt (poK s).n i = j := by
  obtain ⟨i, hi, hi2⟩ := glu_surN hs.uF hs.uH hj
  rw [(un_len _ _).1] at hi
  rcases split_i hi with h | ⟨k, h, rfl⟩
  · refine .inl ⟨i, h, ?_⟩
    simp only [poP, thenM, idM]
    rw [thr_gt (by rw [nums_len]; exact h), nums_gt h]
    exact hi2
  · refine .inr ⟨k, h, ?_⟩
    simp only [poK, thenM, inR]
    rw [thr_gt (by rw [nums_len]; exact h), nums_gtF h, show (s.b.n.length : Int) + k = ((s.b.n.length + k : Nat) : Int) by omega]
    exact hi2
theorem SOk.surE (hs : SOk s) {j : Nat} (hj : j < (poG s).e.length) : (∃ i : Nat, i < s.b.e.length ∧ gt (poP s).e i = j) ∨ ∃ i : Nat, i < s.c.e.length ∧ gt (poK s).e i = j := by
  obtain ⟨i, hi, hi2⟩ := glu_surE hs.uF hs.uH hj
  rw [(un_len _ _).2] at hi
  rcases split_i hi with h | ⟨k, h, rfl⟩
  · refine .inl ⟨i, h, ?_⟩
    simp only [poP, thenM, idM]
    rw [thr_gt (by rw [nums_len]; exact h), nums_gt h]
    exact hi2
  · refine .inr ⟨k, h, ?_⟩
    simp only [poK, thenM, inR]
    rw [thr_gt (by rw [nums_len]; exact h), nums_gtF h, show (s.b.e.length : Int) + k = ((s.b.e.length + k : Nat) : Int) by omega]
    exact hi2
theorem onto_eq {p h q k w : List Int} (h1 : ∀ i : Nat, i < p.length → 0 ≤ gt p i ∧ gt w (gt p i) = gt h i) (h2 : ∀ i : Nat, i < q.length → 0 ≤ gt q i ∧ gt w (gt q i) = gt k i) (hc : ∀ j : Nat, j < w.length → (∃ i : Nat, i < p.length ∧ gt p i = j) ∨ ∃ i : Nat, i < q.length ∧ gt q i = j) :
    ontoL w.length p h q k = w := by
  unfold ontoL
  refine list_ext_gt (by simp [setL_len]) fun j hj => ?_
  simp only [setL_len, List.length_replicate] at hj
  rcases setL_gt (z := setL h p (List.replicate w.length 0) p.length) h2 j (by simp [setL_len]; exact hj) with e | ⟨e, e2⟩
  · exact e
  · rw [e]
    rcases setL_gt (z := List.replicate w.length 0) h1 j (by simp; exact hj) with d | ⟨_, d⟩
    · exact d
    · rcases hc j hj with ⟨i, i1, i2⟩ | ⟨i, i1, i2⟩
      · exact absurd i2 (d i i1)
      · exact absurd i2 (e2 i i1)
/-- What Mediate comes to is what mediates. -/
theorem SOk.medU (hs : SOk s) {x : G} {u : Mo} (hu : MOk (poG s) x u) : medU s (thenM (poP s) u) (thenM (poK s) u) = u := by
  have lp := hs.p.ln
  have lk := hs.k.ln
  have mp := hs.p.le
  have mk := hs.k.le
  refine mo_ext ?_ ?_
  · simp only [Am.medU]
    rw [← hu.ln]
    refine onto_eq (fun i hi => ⟨?_, ?_⟩) (fun i hi => ⟨?_, ?_⟩) fun j hj => ?_
    · exact (hs.p.nd i (by omega)).1.1
    · simp only [thenM]; rw [thr_gt hi]
    · exact (hs.k.nd i (by omega)).1.1
    · simp only [thenM]; rw [thr_gt hi]
    · rw [hu.ln] at hj
      rw [lp, lk]; exact hs.surN hj
  · simp only [Am.medU]
    rw [← hu.le]
    refine onto_eq (fun i hi => ⟨?_, ?_⟩) (fun i hi => ⟨?_, ?_⟩) fun j hj => ?_
    · exact (hs.p.ed i (by omega)).1.1
    · simp only [thenM]; rw [thr_gt hi]
    · exact (hs.k.ed i (by omega)).1.1
    · simp only [thenM]; rw [thr_gt hi]
    · rw [hu.le] at hj
      rw [mp, mk]; exact hs.surE hj
theorem cocE_ok {x : G} {h k : Mo} : cocE s x h k = 0 ↔ SOk s ∧ MOk s.b x h ∧ MOk s.c x k ∧ thenM s.f h = thenM s.g k := by
  unfold cocE
  split
  · rename_i e; exact ⟨fun h => absurd h e, fun h => absurd (spE_ok.2 ⟨h.1.f, h.1.g⟩) e⟩
  rename_i e1
  have e1 := spE_ok.1 (Decidable.not_not.1 e1)
  split
  · rename_i e; exact ⟨fun h => absurd h e, fun h => absurd (mok.2 h.2.1) e⟩
  rename_i e2
  have e2 := mok.1 (Decidable.not_not.1 e2)
  split
  · rename_i e; exact ⟨fun h => absurd h e, fun h => absurd (mok.2 h.2.2.1) e⟩
  rename_i e3
  have e3 := mok.1 (Decidable.not_not.1 e3)
  split
  · rename_i e; exact ⟨fun h => absurd h (by decide), fun h => absurd e h.1.s⟩
  rename_i e4
  split
  · rename_i e; exact ⟨fun _ => ⟨⟨e1.1, e1.2, e4⟩, e2, e3, e⟩, fun _ => rfl⟩
  · rename_i e; exact ⟨fun h => absurd h (by decide), fun h => absurd h.2.2.2 e⟩
end
end
end Go.Am
