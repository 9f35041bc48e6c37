/- Disjoint unions and pushouts: plain facts. -/
import Derived.Test.YtelmgaflhmcihaaGreatSpPa
import Derived.Test.YtelmgaflhmcihaaGreatSpPb
namespace Go.Am
open Go
set_option linter.unusedVariables false
set_option linter.unusedSimpArgs false
def unG (a b : G) : G := ⟨a.n ++ b.n, a.e ++ b.e.map (shE1 a.n.length)⟩
def inR (a b : G) : Mo := ⟨nums a.n.length b.n.length, nums a.e.length b.e.length⟩
def cop (h k : Mo) : Mo := ⟨h.n ++ k.n, h.e ++ k.e⟩
def Big (b c : G) : Prop := 40 < b.n.length + c.n.length ∨ 80 < b.e.length + c.e.length
instance (b c : G) : Decidable (Big b c) := inferInstanceAs (Decidable (_ ∨ _))
structure Sp where
 a : G
 b : G
 c : G
 f : Mo
 g : Mo
 deriving DecidableEq, Inhabited
def spE (s : Sp) : Int := if validM s.a s.b s.f ≠ 0 then validM s.a s.b s.f else validM s.a s.c s.g
def poErr (s : Sp) : Int := if spE s ≠ 0 then spE s else if Big s.b s.c then 3 else 0
def poF (s : Sp) : Mo := thenM s.f (idM s.b)
def poH (s : Sp) : Mo := thenM s.g (inR s.b s.c)
def poG (s : Sp) : G := gluG (unG s.b s.c) (poF s) (poH s)
def poQ (s : Sp) : Mo := gluM (unG s.b s.c) (poF s) (poH s)
def poP (s : Sp) : Mo := thenM (idM s.b) (poQ s)
def poK (s : Sp) : Mo := thenM (inR s.b s.c) (poQ s)
def poR (s : Sp) : G × Mo × Mo × Int := if poErr s = 0 then (poG s, poP s, poK s, 0) else (g0, m0, m0, poErr s)
def ontoL (n : Nat) (p h q k : List Int) : List Int := setL k q (setL h p (List.replicate n 0) p.length) q.length
def medU (s : Sp) (h k : Mo) : Mo := ⟨ontoL (poG s).n.length (poP s).n h.n (poK s).n k.n, ontoL (poG s).e.length (poP s).e h.e (poK s).e k.e⟩
def cocE (s : Sp) (x : G) (h k : Mo) : Int := if spE s ≠ 0 then spE s else if validM s.b x h ≠ 0 then validM s.b x h else if validM s.c x k ≠ 0 then validM s.c x k else if Big s.b s.c then 3 else if thenM s.f h = thenM s.g k then 0 else 11
def medP (s : Sp) (x : G) (h k : Mo) : Mo × Int := if cocE s x h k = 0 then (medU s h k, 0) else (m0, cocE s x h k)
def chkP (s : Sp) (x : G) (h k : Mo) : Bool := decide (cocE s x h k = 0) && (injM (poG s) x (medU s h k) && surM (poG s) x (medU s h k))
section
theorem nums_gtF {f : Int} {n i : Nat} (hi : i < n) : gt (nums f n) i = f + i := by
 unfold nums
 rw [gt_nat (by simp; exact hi)]
 simp
theorem gt_appL {α : Type} [Inhabited α] {l m : List α} {i : Nat} (h : i < l.length) : gt (l ++ m) i = gt l i := by
 rw [gt_nat (by simp; omega), gt_nat h, List.getElem_append_left h]
theorem gt_appR {α : Type} [Inhabited α] {l m : List α} {i : Nat} (h : i < m.length) : gt (l ++ m) ((l.length : Int) + i) = gt m i := by
 rw [show (l.length : Int) + i = ((l.length + i : Nat) : Int) by omega, gt_nat (by simp; omega), gt_nat h, List.getElem_append_right (by omega)]
 simp
theorem thr_assoc {l b c : List Int} (h : ∀ i : Nat, i < l.length → 0 ≤ gt l i ∧ gt l i < b.length) : thr (thr l b) c = thr l (thr b c) :=
 list_ext_gt (by simp only [thr_len]) fun i hi => by
  rw [thr_len, thr_len] at hi
  obtain ⟨k, hk, hk2⟩ := gtI (h i hi)
  rw [thr_gt (by rw [thr_len]; exact hi), thr_gt hi, thr_gt hi, hk2, thr_gt hk]
theorem then_assoc {a b c : G} {m n o : Mo} (hm : MOk a b m) (hn : MOk b c n) : thenM (thenM m n) o = thenM m (thenM n o) := by
 have l1 := hn.ln
 have l2 := hn.le
 refine mo_ext (thr_assoc fun i hi => ?_) (thr_assoc fun i hi => ?_)
 ·rw [l1]; exact (hm.nd i (by rw [← hm.ln]; exact hi)).1
 ·rw [l2]; exact (hm.ed i (by rw [← hm.le]; exact hi)).1
theorem then_okP {a b c : G} {m n : Mo} (hm : MOk a b m) (hn : MOk b c n) : MOk a c (thenM m n) := by
 have l1 := hm.ln
 have l2 := hm.le
 refine ⟨hm.va, hn.vb, by simp only [thenM, thr_len]; exact l1, by simp only [thenM, thr_len]; exact l2, fun i hi => ?_, fun i hi => ?_⟩
 ·obtain ⟨h1, h2⟩ := hm.nd i hi
  obtain ⟨k, hk, hk2⟩ := gtI h1
  simp only [thenM]
  rw [thr_gt (by omega), hk2]
  rw [hk2] at h2
  obtain ⟨h3, h4⟩ := hn.nd k hk
  exact ⟨h3, by rw [h4, h2]⟩
 ·obtain ⟨h1, h2, h3, h4⟩ := hm.ed i hi
  obtain ⟨k, hk, hk2⟩ := gtI h1
  obtain ⟨_, f1, f2⟩ := edge_fits hm.va (i := i) (by omega)
  obtain ⟨p, hp, hp2⟩ := gtI f1
  obtain ⟨q, hq, hq2⟩ := gtI f2
  simp only [thenM]
  rw [thr_gt (by omega), hk2]
  rw [hk2] at h2 h3 h4
  obtain ⟨g1, g2, g3, g4⟩ := hn.ed k hk
  refine ⟨g1, by rw [h2, g2], ?_, ?_⟩
  ·rw [hp2, thr_gt (by omega), ← g3, ← h3, hp2]
  ·rw [hq2, thr_gt (by omega), ← g4, ← h4, hq2]
theorem un_len (b c : G) : (unG b c).n.length = b.n.length + c.n.length ∧ (unG b c).e.length = b.e.length + c.e.length := by simp [unG]
theorem un_ok {b c : G} (vb : validG b = 0) (vc : validG c = 0) (hs : ¬ Big b c) : validG (unG b c) = 0 := by
 have v1 := valid_spec vb
 have v2 := valid_spec vc
 have hl := un_len b c
 unfold Big at hs
 refine valid_mk (by omega) (by omega) (fun x hx => ?_) (fun x hx => ?_)
 ·rcases List.mem_append.1 hx with hx | hx
  ·exact v1.2.2.1 x hx
  ·exact v2.2.2.1 x hx
 ·rw [hl.1]
  rcases List.mem_append.1 hx with hx | hx
  ·have := fits_spec (v1.2.2.2 x hx)
   exact fits_mk this.1 (by omega) (by omega)
  ·obtain ⟨y, hy, rfl⟩ := List.mem_map.1 hx
   have := fits_spec (v2.2.2.2 y hy)
   exact fits_mk this.1 (by simp only [shE1]; omega) (by simp only [shE1]; omega)
theorem inL_ok {b c : G} (vb : validG b = 0) (vc : validG c = 0) (hs : ¬ Big b c) : MOk b (unG b c) (idM b) := by
 have hl := un_len b c
 have hi := idM_ok vb
 refine ⟨vb, un_ok vb vc hs, hi.ln, hi.le, fun i h => ?_, fun i h => ?_⟩
 ·simp only [idM, unG]
  rw [nums_gt h, gt_appL h]
  exact ⟨by simp; omega, rfl⟩
 ·obtain ⟨h1, h2, h3, h4⟩ := hi.ed i h
  simp only [idM, unG] at *
  rw [nums_gt h] at h2 h3 h4 ⊢
  rw [gt_appL h]
  exact ⟨by simp; omega, h2, h3, h4⟩
theorem inR_ok {b c : G} (vb : validG b = 0) (vc : validG c = 0) (hs : ¬ Big b c) : MOk c (unG b c) (inR b c) := by
 have hl := un_len b c
 refine ⟨vc, un_ok vb vc hs, by simp [inR, nums_len], by simp [inR, nums_len], fun i h => ?_, fun i h => ?_⟩
 ·simp only [inR, unG]
  rw [nums_gtF h, gt_appR h]
  exact ⟨by simp; omega, rfl⟩
 ·obtain ⟨_, t2, t3⟩ := edge_fits vc (i := i) (by omega)
  obtain ⟨p, hp, hp2⟩ := gtI t2
  obtain ⟨q, hq, hq2⟩ := gtI t3
  simp only [inR, unG]
  rw [nums_gtF h, gt_appR (by simpa using h), gt_map h]
  refine ⟨by simp; omega, rfl, ?_, ?_⟩
  ·simp only [shE1]
   rw [hp2, nums_gtF hp]; omega
  ·simp only [shE1]
   rw [hq2, nums_gtF hq]; omega
theorem split_i {b c i : Nat} (h : i < b + c) : i < b ∨ ∃ j : Nat, j < c ∧ i = b + j := by
 by_cases x : i < b
 ·exact .inl x
 ·exact .inr ⟨i - b, by omega, by omega⟩
theorem cop_gtN {b c x : G} {h k : Mo} (hh : MOk b x h) (hk : MOk c x k) {i : Nat} (hi : i < c.n.length) : gt (cop h k).n ((b.n.length : Int) + i) = gt k.n i := by
 have := hh.ln
 have := hk.ln
 simp only [cop]
 rw [← hh.ln, gt_appR (by omega)]
theorem cop_gtE {b c x : G} {h k : Mo} (hh : MOk b x h) (hk : MOk c x k) {i : Nat} (hi : i < c.e.length) : gt (cop h k).e ((b.e.length : Int) + i) = gt k.e i := by
 have := hh.le
 have := hk.le
 simp only [cop]
 rw [← hh.le, gt_appR (by omega)]
theorem cop_ok {b c x : G} {h k : Mo} (hh : MOk b x h) (hk : MOk c x k) (hs : ¬ Big b c) : MOk (unG b c) x (cop h k) := by
 have hl := un_len b c
 have l1 := hh.ln
 have l2 := hh.le
 have l3 := hk.ln
 have l4 := hk.le
 have cl : ∀ i : Nat, i < b.n.length → gt (cop h k).n i = gt h.n i := fun i hi => gt_appL (by omega)
 have ce : ∀ i : Nat, i < b.e.length → gt (cop h k).e i = gt h.e i := fun i hi => gt_appL (by omega)
 have ul : ∀ i : Nat, i < b.n.length → gt (unG b c).n i = gt b.n i := fun i hi => gt_appL (by omega)
 have ue : ∀ i : Nat, i < b.e.length → gt (unG b c).e i = gt b.e i := fun i hi => gt_appL (by omega)
 refine ⟨un_ok hh.va hk.va hs, hh.vb, by rw [hl.1]; simp [cop]; omega, by rw [hl.2]; simp [cop]; omega, fun i hi => ?_, fun i hi => ?_⟩
 ·rw [hl.1] at hi
  rcases split_i hi with h1 | ⟨j, h1, rfl⟩
  ·rw [cl i h1, ul i h1]; exact hh.nd i h1
  ·rw [show ((b.n.length + j : Nat) : Int) = (b.n.length : Int) + j by omega, cop_gtN hh hk h1]
   simp only [unG]
   rw [gt_appR h1]
   exact hk.nd j h1
 ·rw [hl.2] at hi
  rcases split_i hi with h1 | ⟨j, h1, rfl⟩
  ·rw [ce i h1, ue i h1]
   obtain ⟨_, t2, t3⟩ := edge_fits hh.va (i := i) (by omega)
   obtain ⟨p, hp, hp2⟩ := gtI t2
   obtain ⟨q, hq, hq2⟩ := gtI t3
   have e := hh.ed i h1
   rw [hp2, hq2] at e ⊢
   rw [cl p hp, cl q hq]
   exact e
  ·rw [show ((b.e.length + j : Nat) : Int) = (b.e.length : Int) + j by omega, cop_gtE hh hk h1]
   simp only [unG]
   rw [gt_appR (by simpa using h1), gt_map h1]
   obtain ⟨_, t2, t3⟩ := edge_fits hk.va (i := j) (by omega)
   obtain ⟨p, hp, hp2⟩ := gtI t2
   obtain ⟨q, hq, hq2⟩ := gtI t3
   have e := hk.ed j h1
   simp only [shE1]
   rw [hp2, hq2] at e ⊢
   rw [show (p : Int) + b.n.length = (b.n.length : Int) + p by omega, show (q : Int) + b.n.length = (b.n.length : Int) + q by omega, cop_gtN hh hk hp, cop_gtN hh hk hq]
   exact e
theorem cop_L {b c x : G} {h k : Mo} (hh : MOk b x h) (hk : MOk c x k) : thenM (idM b) (cop h k) = h := by
 have l1 := hh.ln
 have l2 := hh.le
 refine mo_ext (list_ext_gt ?_ fun i hi => ?_) (list_ext_gt ?_ fun i hi => ?_)
 ·simp only [thenM, thr_len, idM, nums_len]; omega
 ·simp only [thenM, thr_len, idM, nums_len] at hi ⊢
  rw [thr_gt (by rw [nums_len]; exact hi), nums_gt hi]
  exact gt_appL (by omega)
 ·simp only [thenM, thr_len, idM, nums_len]; omega
 ·simp only [thenM, thr_len, idM, nums_len] at hi ⊢
  rw [thr_gt (by rw [nums_len]; exact hi), nums_gt hi]
  exact gt_appL (by omega)
theorem cop_R {b c x : G} {h k : Mo} (hh : MOk b x h) (hk : MOk c x k) : thenM (inR b c) (cop h k) = k := by
 have l1 := hk.ln
 have l2 := hk.le
 refine mo_ext (list_ext_gt ?_ fun i hi => ?_) (list_ext_gt ?_ fun i hi => ?_)
 ·simp only [thenM, thr_len, inR, nums_len]; omega
 ·simp only [thenM, thr_len, inR, nums_len] at hi ⊢
  rw [thr_gt (by rw [nums_len]; exact hi), nums_gtF hi]
  exact cop_gtN hh hk hi
 ·simp only [thenM, thr_len, inR, nums_len]; omega
 ·simp only [thenM, thr_len, inR, nums_len] at hi ⊢
  rw [thr_gt (by rw [nums_len]; exact hi), nums_gtF hi]
  exact cop_gtE hh hk hi
theorem un_one {b c x : G} {u v : Mo} (hu : MOk (unG b c) x u) (hv : MOk (unG b c) x v) (h1 : thenM (idM b) u = thenM (idM b) v) (h2 : thenM (inR b c) u = thenM (inR b c) v) : u = v := by
 have hl := un_len b c
 refine mo_ext (list_ext_gt (by rw [hu.ln, hv.ln]) fun i hi => ?_) (list_ext_gt (by rw [hu.le, hv.le]) fun i hi => ?_)
 ·rw [hu.ln, hl.1] at hi
  rcases split_i hi with h | ⟨j, h, rfl⟩
  ·have := thenM_n h1 (i := i) (by simp [idM, nums_len]; exact h) (by simp [idM, nums_len]; exact h)
   simp only [idM] at this
   rwa [nums_gt h] at this
  ·have := thenM_n h2 (i := j) (by simp [inR, nums_len]; exact h) (by simp [inR, nums_len]; exact h)
   simp only [inR] at this
   rw [nums_gtF h] at this
   rw [show ((b.n.length + j : Nat) : Int) = (b.n.length : Int) + j by omega]
   exact this
 ·rw [hu.le, hl.2] at hi
  rcases split_i hi with h | ⟨j, h, rfl⟩
  ·have := thenM_e h1 (i := i) (by simp [idM, nums_len]; exact h) (by simp [idM, nums_len]; exact h)
   simp only [idM] at this
   rwa [nums_gt h] at this
  ·have := thenM_e h2 (i := j) (by simp [inR, nums_len]; exact h) (by simp [inR, nums_len]; exact h)
   simp only [inR] at this
   rw [nums_gtF h] at this
   rw [show ((b.e.length + j : Nat) : Int) = (b.e.length : Int) + j by omega]
   exact this
structure SOk (s : Sp) : Prop where
 f : MOk s.a s.b s.f
 g : MOk s.a s.c s.g
 s : ¬ Big s.b s.c
theorem spE_ok {s : Sp} : spE s = 0 ↔ MOk s.a s.b s.f ∧ MOk s.a s.c s.g := by
 rw [← mok, ← mok]
 unfold spE
 split
 ·rename_i h; exact ⟨fun e => absurd e h, fun e => absurd e.1 h⟩
 ·rename_i h; exact ⟨fun e => ⟨Decidable.not_not.1 h, e⟩, fun e => e.2⟩
theorem poErr_ok {s : Sp} : poErr s = 0 ↔ SOk s := by
 unfold poErr
 split
 ·rename_i h; exact ⟨fun e => absurd e h, fun e => absurd (spE_ok.2 ⟨e.f, e.g⟩) h⟩
 ·rename_i h
  have h := spE_ok.1 (Decidable.not_not.1 h)
  split
  ·rename_i hb; exact ⟨fun e => absurd e (by decide), fun e => absurd hb e.s⟩
  ·rename_i hb; exact ⟨fun _ => ⟨h.1, h.2, hb⟩, fun _ => rfl⟩
section
variable {s : Sp}
theorem SOk.uF (h : SOk s) : MOk s.a (unG s.b s.c) (poF s) := then_okP h.f (inL_ok h.f.vb h.g.vb h.s)
theorem SOk.uH (h : SOk s) : MOk s.a (unG s.b s.c) (poH s) := then_okP h.g (inR_ok h.f.vb h.g.vb h.s)
theorem SOk.q (h : SOk s) : MOk (unG s.b s.c) (poG s) (poQ s) := glu_ok h.uF h.uH
theorem SOk.p (h : SOk s) : MOk s.b (poG s) (poP s) := then_okP (inL_ok h.f.vb h.g.vb h.s) h.q
theorem SOk.k (h : SOk s) : MOk s.c (poG s) (poK s) := then_okP (inR_ok h.f.vb h.g.vb h.s) h.q
theorem SOk.comm (h : SOk s) : thenM s.f (poP s) = thenM s.g (poK s) := by
 unfold poP poK
 rw [← then_assoc h.f (inL_ok h.f.vb h.g.vb h.s), ← then_assoc h.g (inR_ok h.f.vb h.g.vb h.s)]
 exact glu_eq h.uF h.uH
theorem SOk.med (hs : SOk s) {x : G} {h k : Mo} (hh : MOk s.b x h) (hk : MOk s.c x k) (e : thenM s.f h = thenM s.g k) : ∃ u, MOk (poG s) x u ∧ thenM (poP s) u = h ∧ thenM (poK s) u = k := by
 have hc := cop_ok hh hk hs.s
 have il := inL_ok hs.f.vb hs.g.vb hs.s
 have ir := inR_ok hs.f.vb hs.g.vb hs.s
 have e2 : thenM (poF s) (cop h k) = thenM (poH s) (cop h k) := by
  unfold poF poH
  rw [then_assoc hs.f il, then_assoc hs.g ir, cop_L hh hk, cop_R hh hk, e]
 obtain ⟨u, hu, hu2⟩ := glu_univ hs.uF hs.uH hc e2
 refine ⟨u, hu, ?_, ?_⟩
 ·unfold poP
  rw [then_assoc il hs.q]
  unfold poQ
  rw [hu2, cop_L hh hk]
 ·unfold poK
  rw [then_assoc ir hs.q]
  unfold poQ
  rw [hu2, cop_R hh hk]
theorem SOk.one (hs : SOk s) {x : G} {u v : Mo} (hu : MOk (poG s) x u) (hv : MOk (poG s) x v) (h1 : thenM (poP s) u = thenM (poP s) v) (h2 : thenM (poK s) u = thenM (poK s) v) : u = v := by
 have il := inL_ok hs.f.vb hs.g.vb hs.s
 have ir := inR_ok hs.f.vb hs.g.vb hs.s
 refine glu_one hs.uF hs.uH hu hv (un_one (then_okP hs.q hu) (then_okP hs.q hv) ?_ ?_)
 ·exact (then_assoc il hs.q).symm.trans (h1.trans (then_assoc il hs.q))
 ·exact (then_assoc ir hs.q).symm.trans (h2.trans (then_assoc ir hs.q))
theorem SOk.surN (hs : SOk s) {j : Nat} (hj : j < (poG s).n.length) : (∃ i : Nat, i < s.b.n.length ∧ gt (poP s).n i = j) ∨ ∃ i : Nat, i < s.c.n.length ∧ gt (poK s).n i = j := by
 obtain ⟨i, hi, hi2⟩ := glu_surN hs.uF hs.uH hj
 rw [(un_len _ _).1] at hi
 rcases split_i hi with h | ⟨k, h, rfl⟩
 ·refine .inl ⟨i, h, ?_⟩
  simp only [poP, thenM, idM]
  rw [thr_gt (by rw [nums_len]; exact h), nums_gt h]
  exact hi2
 ·refine .inr ⟨k, h, ?_⟩
  simp only [poK, thenM, inR]
  rw [thr_gt (by rw [nums_len]; exact h), nums_gtF h, show (s.b.n.length : Int) + k = ((s.b.n.length + k : Nat) : Int) by omega]
  exact hi2
theorem SOk.surE (hs : SOk s) {j : Nat} (hj : j < (poG s).e.length) : (∃ i : Nat, i < s.b.e.length ∧ gt (poP s).e i = j) ∨ ∃ i : Nat, i < s.c.e.length ∧ gt (poK s).e i = j := by
 obtain ⟨i, hi, hi2⟩ := glu_surE hs.uF hs.uH hj
 rw [(un_len _ _).2] at hi
 rcases split_i hi with h | ⟨k, h, rfl⟩
 ·refine .inl ⟨i, h, ?_⟩
  simp only [poP, thenM, idM]
  rw [thr_gt (by rw [nums_len]; exact h), nums_gt h]
  exact hi2
 ·refine .inr ⟨k, h, ?_⟩
  simp only [poK, thenM, inR]
  rw [thr_gt (by rw [nums_len]; exact h), nums_gtF h, show (s.b.e.length : Int) + k = ((s.b.e.length + k : Nat) : Int) by omega]
  exact hi2
theorem onto_eq {p h q k w : List Int} (h1 : ∀ i : Nat, i < p.length → 0 ≤ gt p i ∧ gt w (gt p i) = gt h i) (h2 : ∀ i : Nat, i < q.length → 0 ≤ gt q i ∧ gt w (gt q i) = gt k i) (hc : ∀ j : Nat, j < w.length → (∃ i : Nat, i < p.length ∧ gt p i = j) ∨ ∃ i : Nat, i < q.length ∧ gt q i = j) :
  ontoL w.length p h q k = w := by
 unfold ontoL
 refine list_ext_gt (by simp [setL_len]) fun j hj => ?_
 simp only [setL_len, List.length_replicate] at hj
 rcases setL_gt (z := setL h p (List.replicate w.length 0) p.length) h2 j (by simp [setL_len]; exact hj) with e | ⟨e, e2⟩
 ·exact e
 ·rw [e]
  rcases setL_gt (z := List.replicate w.length 0) h1 j (by simp; exact hj) with d | ⟨_, d⟩
  ·exact d
  ·rcases hc j hj with ⟨i, i1, i2⟩ | ⟨i, i1, i2⟩
   ·exact absurd i2 (d i i1)
   ·exact absurd i2 (e2 i i1)
theorem SOk.medU (hs : SOk s) {x : G} {u : Mo} (hu : MOk (poG s) x u) : medU s (thenM (poP s) u) (thenM (poK s) u) = u := by
 have lp := hs.p.ln
 have lk := hs.k.ln
 have mp := hs.p.le
 have mk := hs.k.le
 refine mo_ext ?_ ?_
 ·simp only [Am.medU]
  rw [← hu.ln]
  refine onto_eq (fun i hi => ⟨?_, ?_⟩) (fun i hi => ⟨?_, ?_⟩) fun j hj => ?_
  ·exact (hs.p.nd i (by omega)).1.1
  ·simp only [thenM]; rw [thr_gt hi]
  ·exact (hs.k.nd i (by omega)).1.1
  ·simp only [thenM]; rw [thr_gt hi]
  ·rw [hu.ln] at hj
   rw [lp, lk]; exact hs.surN hj
 ·simp only [Am.medU]
  rw [← hu.le]
  refine onto_eq (fun i hi => ⟨?_, ?_⟩) (fun i hi => ⟨?_, ?_⟩) fun j hj => ?_
  ·exact (hs.p.ed i (by omega)).1.1
  ·simp only [thenM]; rw [thr_gt hi]
  ·exact (hs.k.ed i (by omega)).1.1
  ·simp only [thenM]; rw [thr_gt hi]
  ·rw [hu.le] at hj
   rw [mp, mk]; exact hs.surE hj
theorem cocE_ok {x : G} {h k : Mo} : cocE s x h k = 0 ↔ SOk s ∧ MOk s.b x h ∧ MOk s.c x k ∧ thenM s.f h = thenM s.g k := by
 unfold cocE
 split
 ·rename_i e; exact ⟨fun h => absurd h e, fun h => absurd (spE_ok.2 ⟨h.1.f, h.1.g⟩) e⟩
 rename_i e1
 have e1 := spE_ok.1 (Decidable.not_not.1 e1)
 split
 ·rename_i e; exact ⟨fun h => absurd h e, fun h => absurd (mok.2 h.2.1) e⟩
 rename_i e2
 have e2 := mok.1 (Decidable.not_not.1 e2)
 split
 ·rename_i e; exact ⟨fun h => absurd h e, fun h => absurd (mok.2 h.2.2.1) e⟩
 rename_i e3
 have e3 := mok.1 (Decidable.not_not.1 e3)
 split
 ·rename_i e; exact ⟨fun h => absurd h (by decide), fun h => absurd e h.1.s⟩
 rename_i e4
 split
 ·rename_i e; exact ⟨fun _ => ⟨⟨e1.1, e1.2, e4⟩, e2, e3, e⟩, fun _ => rfl⟩
 ·rename_i e; exact ⟨fun h => absurd h (by decide), fun h => absurd h.2.2.2 e⟩
end
end
attribute [local irreducible] W
@[go_sem] def c_pushout_span_r0 : LL := [qB 1 0,qi 2 0]
@[go_sem] def c_pushout_span_r1 (F : Fn) : LL := [qf 4 0 1,qL 5 2 4,qf 6 2 1,qL 7 2 6,qf 8 6 1,qL 9 2 8,qc 10 (F "morphism.Valid") [.t 5,.t 7,.t 9],qm 3 10]
@[go_sem] def c_pushout_span_r2 : LL := [qm 11 3,qk .neq 12 11 0]
@[go_sem] def c_pushout_span_r3 : LL := [qm 13 3,qm 2 13]
@[go_sem] def c_pushout_span_r4 (F : Fn) : LL := [qf 14 0 1,qL 15 2 14,qf 16 4 1,qL 17 2 16,qf 18 8 1,qL 19 2 18,qc 20 (F "morphism.Valid") [.t 15,.t 17,.t 19],qm 2 20]
@[go_sem] def c_pushout_span (F : Fn) : LC := (.seq (.reg c_pushout_span_r0 [1]) (.seq (.seq (.reg (c_pushout_span_r1 F) [1,3]) (.seq (.reg c_pushout_span_r2 [1,3,12]) (.cond (.t 12) (.seq (.reg c_pushout_span_r3 [2]) .ret) .skip))) (.seq (.reg (c_pushout_span_r4 F) [2]) .ret)))
def h_pushout_span : Hints := hOf [] (c_pushout_span fun _ => 0)
@[go_sem] def c_pushout_glue_r0 : LL := [qB 1 0,qa 2 [.nl 1,.nl 3],qa 3 [.nl 1,.nl 1],qa 4 [.nl 1,.nl 1],qi 5 0]
@[go_sem] def c_pushout_glue_r1 (F : Fn) : LL := [qf 13 2 1,qL 14 2 13,qf 15 4 1,qL 16 2 15,qc 17 (F "graph.Union") [.t 14,.t 16],qm 12 17,qx 18 12 0,qx 19 12 1,qx 20 12 2,qx 21 12 3,qa 6 [.nl 1,.nl 3],qa 7 [.nl 1,.nl 1],
 qa 8 [.nl 1,.nl 1],qs 2 6 18,qs 2 7 19,qs 2 8 20,qm 9 21]
@[go_sem] def c_pushout_glue_r2 : LL := [qm 22 9,qk .neq 23 22 0]
@[go_sem] def c_pushout_glue_r3 : LL := [qu 24 [.nl 1,.nl 3] [],qu 25 [.nl 1,.nl 1] [],qu 26 [.nl 1,.nl 1] [],qm 27 9,qs 2 2 24,qs 2 3 25,qs 2 4 26,qm 5 27]
@[go_sem] def c_pushout_glue_r4 (F : Fn) : LL := [qL 29 2 6,qf 30 6 1,qf 31 0 30,ql 32 1 31,qf 33 8 1,qf 34 0 33,ql 35 1 34,qf 36 0 7,ql 37 1 36,qf 38 0 8,ql 39 1 38,qc 40 (F "pushout.pairs") [.t 32,.t 35,.t 37,.t 39],qf 41 6 1,qf 42 1 41,
 ql 43 1 42,qf 44 8 1,qf 45 1 44,ql 46 1 45,qf 47 1 7,ql 48 1 47,qf 49 1 8,ql 50 1 49,qc 51 (F "pushout.pairs") [.t 43,.t 46,.t 48,.t 50],qc 52 (F "pushout.quotient") [.t 29,.t 40,.t 51],qm 28 52,qx 53 28 0,
 qx 54 28 1,qx 55 28 2,qa 10 [.nl 1,.nl 3],qa 11 [.nl 1,.nl 1],qs 2 10 53,qs 2 11 54,qm 9 55]
@[go_sem] def c_pushout_glue_r5 : LL := [qm 56 9,qk .neq 57 56 0]
@[go_sem] def c_pushout_glue_r6 : LL := [qu 58 [.nl 1,.nl 3] [],qu 59 [.nl 1,.nl 1] [],qu 60 [.nl 1,.nl 1] [],qm 61 9,qs 2 2 58,qs 2 3 59,qs 2 4 60,qm 5 61]
@[go_sem] def c_pushout_glue_r7 (F : Fn) : LL := [qL 62 2 10,qL 63 2 7,qL 64 2 11,qc 65 (F "pushout.then") [.t 63,.t 64],qL 66 2 8,qL 67 2 11,qc 68 (F "pushout.then") [.t 66,.t 67],qs 2 2 62,qs 2 3 65,qs 2 4 68,qi 5 0]
@[go_sem] def c_pushout_glue (F : Fn) : LC := (.seq (.reg c_pushout_glue_r0 [1,2,3,4]) (.seq (.reg (c_pushout_glue_r1 F) [1,2,3,4,6,7,8,9]) (.seq (.seq (.reg c_pushout_glue_r2 [1,2,3,4,6,7,8,9,23]) (.cond (.t 23) (.seq (.reg c_pushout_glue_r3 [2,3,4,5]) .ret) .skip)) (.seq (.dreg [(0,none,[],true),(11,none,[0],true),(14,(some 12288),[11],false),(17,(some 98304),[11],false),(19,(some 262144),[11],false),(21,(some 1048576),[11],false),(22,none,[0],false)] (c_pushout_glue_r4 F) [2,3,4,7,8,9,10,11]) (.seq (.seq (.reg c_pushout_glue_r5 [2,3,4,7,8,9,10,11,57]) (.cond (.t 57) (.seq (.reg c_pushout_glue_r6 [2,3,4,5]) .ret) .skip)) (.seq (.dreg [(0,none,[],true),(3,none,[0],true),(4,(some 0),[3],false),(5,(some 0),[3],false),(6,none,[0],false)] (c_pushout_glue_r7 F) [2,3,4,5]) .ret))))))
def h_pushout_glue : Hints := hOf [] (c_pushout_glue fun _ => 0)
@[go_sem] def c_pushout_Of_r0 : LL := [qB 1 0,qa 2 [.nl 1,.nl 3],qa 3 [.nl 1,.nl 1],qa 4 [.nl 1,.nl 1],qi 5 0]
@[go_sem] def c_pushout_Of_r1 (F : Fn) : LL := [qL 7 10 1,qc 8 (F "pushout.span") [.t 7],qm 6 8]
@[go_sem] def c_pushout_Of_r2 : LL := [qm 9 6,qk .neq 10 9 0]
@[go_sem] def c_pushout_Of_r3 : LL := [qu 11 [.nl 1,.nl 3] [],qu 12 [.nl 1,.nl 1] [],qu 13 [.nl 1,.nl 1] [],qm 14 6,qs 2 2 11,qs 2 3 12,qs 2 4 13,qm 5 14]
@[go_sem] def c_pushout_Of_r4 (F : Fn) : LL := [qL 15 10 1,qc 16 (F "pushout.glue") [.t 15],qx 17 16 0,qx 18 16 1,qx 19 16 2,qx 20 16 3,qs 2 2 17,qs 2 3 18,qs 2 4 19,qm 5 20]
@[go_sem] def c_pushout_Of (F : Fn) : LC := (.seq (.reg c_pushout_Of_r0 [1,2,3,4]) (.seq (.seq (.reg (c_pushout_Of_r1 F) [1,2,3,4,6]) (.seq (.reg c_pushout_Of_r2 [1,2,3,4,6,10]) (.cond (.t 10) (.seq (.reg c_pushout_Of_r3 [2,3,4,5]) .ret) .skip))) (.seq (.reg (c_pushout_Of_r4 F) [2,3,4,5]) .ret)))
def h_pushout_Of : Hints := hOf [] (c_pushout_Of fun _ => 0)
@[go_sem] def c_pushout_filled_r0 : LL := [qn 6 1]
@[go_sem] def c_pushout_filled_r1 : LL := [qm 12 0,⟨some 13,.makeSl 1 8 (.int .i64 (0)) (.t 12),none⟩,qm 7 13]
@[go_sem] def c_pushout_filled_r2 : LL := [qm 14 1,qz 15 14,qi 16 0]
@[go_sem] def c_pushout_filled_r3 : LL := [qo .lss 17 16 15]
@[go_sem] def c_pushout_filled_r4 : LL := [qm 18 16,qd 19 1 14 16,ql 20 1 19,qm 8 18,qm 9 20]
@[go_sem] def c_pushout_filled_r5 : LL := [qm 21 9,qz 22 21,qi 23 0]
@[go_sem] def c_pushout_filled_r6 : LL := [qo .lss 24 23 22]
@[go_sem] def c_pushout_filled_r7 : LL := [qm 25 23,qd 26 1 21 23,ql 27 1 26,qm 10 25,qm 11 27]
@[go_sem] def c_pushout_filled_r8 : LL := [qm 28 7,qm 29 11,qm 30 2,qm 31 8,qd 32 1 30 31,ql 33 1 32,qm 34 10,qd 35 1 33 34,ql 36 1 35,qd 37 1 28 29,qs 1 37 36]
@[go_sem] def c_pushout_filled_r9 : LL := [qk .add 38 23 1,qm 23 38]
def c_pushout_filled_b10 : LC := (.seq (.reg c_pushout_filled_r6 [2,7,8,14,15,16,21,22,23,24]) (.seq (.cond (.t 24) .skip (.exit 2)) (.seq (.block 3 (.seq (.reg c_pushout_filled_r7 [2,7,8,10,11,14,15,16,21,22,23]) (.reg c_pushout_filled_r8 [2,7,8,14,15,16,21,22,23]))) (.reg c_pushout_filled_r9 [2,7,8,14,15,16,21,22,23]))))
@[go_sem] def c_pushout_filled_r11 : LL := [qk .add 39 16 1,qm 16 39]
def c_pushout_filled_b12 : LC := (.seq (.reg c_pushout_filled_r3 [2,7,14,15,16,17]) (.seq (.cond (.t 17) .skip (.exit 0)) (.seq (.block 1 (.seq (.reg c_pushout_filled_r4 [2,7,8,9,14,15,16]) (.seq (.reg c_pushout_filled_r5 [2,7,8,14,15,16,21,22,23]) (.block 2 (.loop [2,7,8,14,15,16,21,22,23] c_pushout_filled_b10))))) (.reg c_pushout_filled_r11 [2,7,14,15,16]))))
@[go_sem] def c_pushout_filled_r13 : LL := [qm 40 7,qm 6 40]
@[go_sem] def c_pushout_filled (F : Fn) : LC := (.seq (.reg c_pushout_filled_r0 [0,1,2]) (.seq (.reg c_pushout_filled_r1 [1,2,7]) (.seq (.seq (.reg c_pushout_filled_r2 [2,7,14,15,16]) (.block 0 (.loop [2,7,14,15,16] c_pushout_filled_b12))) (.seq (.reg c_pushout_filled_r13 [6]) .ret))))
def h_pushout_filled : Hints := hOf [] (c_pushout_filled fun _ => 0)
@[go_sem] def c_pushout_Mediate_r0 : LL := [qB 4 0,qB 5 1,qB 6 2,qB 7 3,qa 8 [.nl 1,.nl 1],qi 9 0]
@[go_sem] def c_pushout_Mediate_r1 (F : Fn) : LL := [qL 17 10 4,qc 18 (F "pushout.span") [.t 17],qm 10 18]
@[go_sem] def c_pushout_Mediate_r2 : LL := [qm 19 10,qk .neq 20 19 0]
@[go_sem] def c_pushout_Mediate_r3 : LL := [qu 21 [.nl 1,.nl 1] [],qm 22 10,qs 2 8 21,qm 9 22]
@[go_sem] def c_pushout_Mediate_r4 (F : Fn) : LL := [qf 23 2 4,qL 24 2 23,qL 25 2 5,qL 26 2 6,qc 27 (F "morphism.Valid") [.t 24,.t 25,.t 26],qm 11 27]
@[go_sem] def c_pushout_Mediate_r5 : LL := [qm 28 11,qk .neq 29 28 0]
@[go_sem] def c_pushout_Mediate_r6 : LL := [qu 30 [.nl 1,.nl 1] [],qm 31 11,qs 2 8 30,qm 9 31]
@[go_sem] def c_pushout_Mediate_r7 (F : Fn) : LL := [qf 32 4 4,qL 33 2 32,qL 34 2 5,qL 35 2 7,qc 36 (F "morphism.Valid") [.t 33,.t 34,.t 35],qm 12 36]
@[go_sem] def c_pushout_Mediate_r8 : LL := [qm 37 12,qk .neq 38 37 0]
@[go_sem] def c_pushout_Mediate_r9 : LL := [qu 39 [.nl 1,.nl 1] [],qm 40 12,qs 2 8 39,qm 9 40]
@[go_sem] def c_pushout_Mediate_r10 (F : Fn) : LL := [qL 42 10 4,qc 43 (F "pushout.glue") [.t 42],qm 41 43,qx 44 41 0,qx 45 41 1,qx 46 41 2,qx 47 41 3,qa 13 [.nl 1,.nl 3],qa 14 [.nl 1,.nl 1],qa 15 [.nl 1,.nl 1],qs 2 13 44,qs 2 14 45,qs 2 15 46,
 qm 16 47]
@[go_sem] def c_pushout_Mediate_r11 : LL := [qm 48 16,qk .neq 49 48 0]
@[go_sem] def c_pushout_Mediate_r12 : LL := [qu 50 [.nl 1,.nl 1] [],qm 51 16,qs 2 8 50,qm 9 51]
@[go_sem] def c_pushout_Mediate_r13 (F : Fn) : LL := [qf 52 6 4,qL 53 2 52,qL 54 2 6,qc 55 (F "pushout.then") [.t 53,.t 54],qf 56 8 4,qL 57 2 56,qL 58 2 7,qc 59 (F "pushout.then") [.t 57,.t 58],qc 60 (F "morphism.Same") [.t 55,.t 59],qv 61 60]
@[go_sem] def c_pushout_Mediate_r14 : LL := [qu 62 [.nl 1,.nl 1] [],qs 2 8 62,qi 9 11]
@[go_sem] def c_pushout_Mediate_r15 (F : Fn) : LL := [qf 63 0 13,ql 64 1 63,qz 65 64,qf 66 0 14,ql 67 1 66,qf 68 0 15,ql 69 1 68,⟨some 70,.buildSl 1 24 (.lst 1 []) 2 [(0,.t 67),(1,.t 69)],none⟩,qf 71 0 6,ql 72 1 71,qf 73 0 7,
 ql 74 1 73,⟨some 75,.buildSl 1 24 (.lst 1 []) 2 [(0,.t 72),(1,.t 74)],none⟩,qc 76 (F "pushout.filled") [.t 65,.t 70,.t 75],qf 77 1 13,ql 78 1 77,qz 79 78,qf 80 1 14,ql 81 1 80,qf 82 1 15,
 ql 83 1 82,⟨some 84,.buildSl 1 24 (.lst 1 []) 2 [(0,.t 81),(1,.t 83)],none⟩,qf 85 1 6,ql 86 1 85,qf 87 1 7,ql 88 1 87,
 ⟨some 89,.buildSl 1 24 (.lst 1 []) 2 [(0,.t 86),(1,.t 88)],none⟩,qc 90 (F "pushout.filled") [.t 79,.t 84,.t 89],qu 91 [.nl 1,.nl 1] [(0,1,.t 76),(1,1,.t 90)],qs 2 8 91,qi 9 0]
@[go_sem] def c_pushout_Mediate (F : Fn) : LC := (.seq (.reg c_pushout_Mediate_r0 [4,5,6,7,8]) (.seq (.seq (.reg (c_pushout_Mediate_r1 F) [4,5,6,7,8,10]) (.seq (.reg c_pushout_Mediate_r2 [4,5,6,7,8,10,20]) (.cond (.t 20) (.seq (.reg c_pushout_Mediate_r3 [8,9]) .ret) .skip))) (.seq (.seq (.reg (c_pushout_Mediate_r4 F) [4,5,6,7,8,11]) (.seq (.reg c_pushout_Mediate_r5 [4,5,6,7,8,11,29]) (.cond (.t 29) (.seq (.reg c_pushout_Mediate_r6 [8,9]) .ret) .skip))) (.seq (.seq (.reg (c_pushout_Mediate_r7 F) [4,6,7,8,12]) (.seq (.reg c_pushout_Mediate_r8 [4,6,7,8,12,38]) (.cond (.t 38) (.seq (.reg c_pushout_Mediate_r9 [8,9]) .ret) .skip))) (.seq (.reg (c_pushout_Mediate_r10 F) [4,6,7,8,13,14,15,16]) (.seq (.seq (.reg c_pushout_Mediate_r11 [4,6,7,8,13,14,15,16,49]) (.cond (.t 49) (.seq (.reg c_pushout_Mediate_r12 [8,9]) .ret) .skip)) (.seq (.seq (.dreg [(3,none,[],true),(5,(some 16),[3],false),(6,(some 0),[3],false)] (c_pushout_Mediate_r13 F) [6,7,8,13,14,15,61]) (.cond (.t 61) (.seq (.reg c_pushout_Mediate_r14 [8,9]) .ret) .skip)) (.seq (.dreg [(1,none,[],true),(4,none,[],true),(6,none,[],true),(7,none,[1],true),(9,(some 256),[7],true),(11,(some 1024),[7],true),(12,(some 3840),[1,4,6,7],true),(13,none,[],true),(15,(some 16384),[7,12,13],true),(18,(some 131072),[7,12,13],true),(20,(some 524288),[7,12,13],true),(21,(some 1966080),[1,4,6,7,9,11,12,13,15],true),(23,(some 4194304),[7,12,13,21],false),(25,(some 16777216),[7,12,13,21],false),(26,(some 62914560),[1,4,6,7,9,11,12,13,15,18,20,21],false)] (c_pushout_Mediate_r15 F) [8,9]) .ret))))))))
def h_pushout_Mediate : Hints := hOf [] (c_pushout_Mediate fun _ => 0)
@[go_sem] def c_pushout_Check_r0 : LL := [qB 4 0,qB 5 1,qB 6 2,qB 7 3,qb 8 false]
@[go_sem] def c_pushout_Check_r1 (F : Fn) : LL := [qL 15 10 4,qL 16 2 5,qL 17 2 6,qL 18 2 7,qc 19 (F "pushout.Mediate") [.t 15,.t 16,.t 17,.t 18],qm 14 19,qx 20 14 0,qx 21 14 1,qa 9 [.nl 1,.nl 1],qs 2 9 20,qm 10 21]
@[go_sem] def c_pushout_Check_r2 : LL := [qm 22 10,qk .neq 23 22 0]
@[go_sem] def c_pushout_Check_r3 : LL := [qb 8 false]
@[go_sem] def c_pushout_Check_r4 (F : Fn) : LL := [qL 25 10 4,qc 26 (F "pushout.glue") [.t 25],qm 24 26,qx 27 24 0,qx 28 24 1,qx 29 24 2,qx 30 24 3,qa 11 [.nl 1,.nl 3],qa 12 [.nl 1,.nl 1],qa 13 [.nl 1,.nl 1],qs 2 11 27,qs 2 12 28,qs 2 13 29,
 qm 10 30]
@[go_sem] def c_pushout_Check_r5 (F : Fn) : LL := [qm 31 10,qk .eql 32 31 0,qm 33 32,qg 33 true (qL 34 2 11),qg 33 true (qL 35 2 5),qg 33 true (qL 36 2 9),qg 33 true (qc 37 (F "morphism.Injective") [.t 34,.t 35,.t 36]),qP 38 33 37,qm 39 38,
 qg 39 true (qL 40 2 11),qg 39 true (qL 41 2 5),qg 39 true (qL 42 2 9),qg 39 true (qc 43 (F "morphism.Surjective") [.t 40,.t 41,.t 42]),qP 44 39 43,qm 8 44]
@[go_sem] def c_pushout_Check (F : Fn) : LC := (.seq (.reg c_pushout_Check_r0 [4,5,6,7]) (.seq (.reg (c_pushout_Check_r1 F) [4,5,9,10]) (.seq (.seq (.reg c_pushout_Check_r2 [4,5,9,23]) (.cond (.t 23) (.seq (.reg c_pushout_Check_r3 [8]) .ret) .skip)) (.seq (.reg (c_pushout_Check_r4 F) [5,9,10,11]) (.seq (.reg (c_pushout_Check_r5 F) [8]) .ret)))))
def h_pushout_Check : Hints := hOf [] (c_pushout_Check fun _ => 0)
def spD (s : Sp) : D := .agg [.lst 1 (ints s.a.n), .lst 3 (eds s.a.e), .lst 1 (ints s.b.n), .lst 3 (eds s.b.e), .lst 1 (ints s.c.n), .lst 3 (eds s.c.e), .lst 1 (ints s.f.n), .lst 1 (ints s.f.e), .lst 1 (ints s.g.n), .lst 1 (ints s.g.e)]
def poD (r : G × Mo × Mo × Int) : D := .tup [gA r.1, mA r.2.1, mA r.2.2.1, .int .i64 r.2.2.2]
def Sp.sm (s : Sp) : Prop := s.f.sm ∧ s.g.sm
def fillA (n : Nat) (p h q k : List Int) : Nat → List Int
 | 0 => List.replicate n 0
 | 1 => setL h p (List.replicate n 0) p.length
 | _ => ontoL n p h q k
section
variable (P : Program) (F : String → Nat)
def K_pushout_span : Prop := ∀ s : Sp, FC P (F "pushout.span") [spD s] (.int .i64 (spE s)) []
def K_pushout_glue : Prop := ∀ s : Sp, spE s = 0 → FC P (F "pushout.glue") [spD s] (poD (poR s)) []
def K_pushout_Of : Prop := ∀ s : Sp, FC P (F "pushout.Of") [spD s] (poD (poR s)) []
def OnOk (n : Nat) (p h : List Int) : Prop := p.length ≤ 1000 ∧ h.length = p.length ∧ ∀ i : Nat, i < p.length → 0 ≤ gt p i ∧ gt p i < n
def K_pushout_filled : Prop := ∀ (n : Nat) (p h q k : List Int), n ≤ 1000 → OnOk n p h → OnOk n q k → FC P (F "pushout.filled") [.int .i64 n, .lst 1 [.lst 1 (ints p), .lst 1 (ints q)], .lst 1 [.lst 1 (ints h), .lst 1 (ints k)]] (.arr 1 (ints (ontoL n p h q k))) []
def K_pushout_Mediate : Prop := ∀ (s : Sp) (x : G) (h k : Mo), FC P (F "pushout.Mediate") [spD s, gD x, mD h, mD k] (.tup [mA (medP s x h k).1, .int .i64 (medP s x h k).2]) []
def K_pushout_Check : Prop := ∀ (s : Sp) (x : G) (h k : Mo), FC P (F "pushout.Check") [spD s, gD x, mD h, mD k] (.bool (chkP s x h k)) []
end
section
variable {P : Program} {F : String → Nat} {α : Type}
theorem w_pushout_span (hv : K_morphism_Valid P F) (s : Sp) : W P (c_pushout_span F) (Done [.t 2] [] (.int .i64 (spE s)) []) (init [spD s]) := by
 refine W_of ?_
 have r1 := hv s.a s.b s.f
 have r2 := hv s.a s.c s.g
 have : spE s = if validM s.a s.b s.f ≠ 0 then validM s.a s.b s.f else validM s.a s.c s.g := rfl
 rw [this]
 generalize validM s.a s.b s.f = u at *
 generalize validM s.a s.c s.g = v at *
 simp only [gD, mD] at r1 r2
 simp (disch := omega) only [go_sem, ↓reduceIte, spD]
 refine call_by r1 ?_
 simp (disch := omega) only [go_sem, ↓reduceIte]
 refine bran_ndec (fun c => ?_) (fun c => ?_)
 ·simp (disch := omega) only [go_sem, ↓reduceIte]
  try simp [c]
 ·subst c
  simp (disch := omega) only [go_sem, ↓reduceIte]
  refine call_by r2 ?_
  simp (disch := omega) only [go_sem, ↓reduceIte]
  try simp
theorem uniG_ok {b c : G} (vb : validG b = 0) (vc : validG c = 0) : uniG b c = if Big b c then (g0, m0, m0, 3) else (unG b c, idM b, inR b c, 0) := by
 unfold uniG
 rw [if_neg (by simp [vb]), if_neg (by simp [vc])]
 by_cases hb : Big b c
 ·rw [if_pos hb]
  unfold Big at hb
  rw [if_pos hb]; rfl
 ·rw [if_neg hb]
  unfold Big at hb
  rw [if_neg hb]; rfl
theorem poR_ok {s : Sp} (h : SOk s) : poR s = (poG s, poP s, poK s, 0) := by unfold poR; rw [if_pos (poErr_ok.2 h)]
theorem poR_big {s : Sp} (h : spE s = 0) (hb : Big s.b s.c) : poR s = (g0, m0, m0, 3) := by
 have : poErr s = 3 := by unfold poErr; rw [if_neg (by simp [h]), if_pos hb]
 unfold poR
 rw [this]; rfl
set_option maxHeartbeats 1000000 in
theorem w_pushout_glue (hu : K_graph_Union P F) (hp : K_pushout_pairs P F) (hq : K_pushout_quotient P F) (ht : K_pushout_then P F) (s : Sp) (he : spE s = 0) : W P (c_pushout_glue F) (Done [.c 2 true 2, .c 3 true 2, .c 4 true 2, .t 5] [] (poD (poR s)) []) (init [spD s]) := by
 refine W_of ?_
 obtain ⟨hf, hg⟩ := spE_ok.1 he
 have r1 := hu s.b s.c
 rw [uniG_ok hf.vb hg.vb] at r1
 by_cases hb : Big s.b s.c
 ·rw [if_pos hb] at r1
  rw [poR_big he hb]
  simp only [uniD, gD, gA, mA, g0, m0] at r1
  simp (disch := omega) only [go_sem, ↓reduceIte, spD]
  refine call_by r1 ?_
  simp (disch := omega) only [go_sem, ↓reduceIte]
  refine bran_ndec (fun _ => ?_) (fun h => absurd h (by decide))
  simp (disch := omega) only [go_sem, ↓reduceIte]
  simp [poD, g0, m0, gA, mA, ints, eds]
 ·rw [if_neg hb] at r1
  have hs : SOk s := ⟨hf, hg, hb⟩
  rw [poR_ok hs]
  have vu := un_ok hf.vb hg.vb hb
  have il := inL_ok hf.vb hg.vb hb
  have ir := inR_ok hf.vb hg.vb hb
  have va := valid_spec hf.va
  have vb := valid_spec hf.vb
  have vc := valid_spec hg.vb
  have ln := hf.ln
  have le := hf.le
  have mn := hg.ln
  have me := hg.le
  have bf := validM_bd (mok.2 hf)
  have bg := validM_bd (mok.2 hg)
  have bi := validM_bd (mok.2 il)
  have br := validM_bd (mok.2 ir)
  have iln := il.ln
  have ile := il.le
  have irn := ir.ln
  have ire := ir.le
  have p1 := hp s.f.n s.g.n (idM s.b).n (inR s.b s.c).n (by omega) (by omega) (by rw [iln]; exact bf.1) (by rw [irn]; exact bg.1)
  have p2 := hp s.f.e s.g.e (idM s.b).e (inR s.b s.c).e (by omega) (by omega) (by rw [ile]; exact bf.2) (by rw [ire]; exact bg.2)
  have q := hq (unG s.b s.c) (prL (poF s).n (poH s).n (poF s).n.length) (prL (poF s).e (poH s).e (poF s).e.length) vu
   (by rw [prL_len]; simp only [poF, thenM, thr_len]; omega) (by rw [prL_len]; simp only [poF, thenM, thr_len]; omega) (glu_prN hs.uF hs.uH) (glu_prE hs.uF hs.uH)
  rw [show quoG (unG s.b s.c) (genL (unG s.b s.c).n.length (prL (poF s).n (poH s).n (poF s).n.length)) (genL (unG s.b s.c).e.length (prL (poF s).e (poH s).e (poF s).e.length)) = poG s from rfl,
   show quoM (genL (unG s.b s.c).n.length (prL (poF s).n (poH s).n (poF s).n.length)) (genL (unG s.b s.c).e.length (prL (poF s).e (poH s).e (poF s).e.length)) = poQ s from rfl] at q
  rw [show prL (thr s.f.n (idM s.b).n) (thr s.g.n (inR s.b s.c).n) (thr s.f.n (idM s.b).n).length = prL (poF s).n (poH s).n (poF s).n.length from rfl] at p1
  rw [show prL (thr s.f.e (idM s.b).e) (thr s.g.e (inR s.b s.c).e) (thr s.f.e (idM s.b).e).length = prL (poF s).e (poH s).e (poF s).e.length from rfl] at p2
  have qn := hs.q.ln
  have qe := hs.q.le
  have t1 := ht (idM s.b) (poQ s) (by omega) (by omega) (by rw [qn]; exact bi.1) (by rw [qe]; exact bi.2)
  have t2 := ht (inR s.b s.c) (poQ s) (by omega) (by omega) (by rw [qn]; exact br.1) (by rw [qe]; exact br.2)
  rw [show thenM (idM s.b) (poQ s) = poP s from rfl] at t1
  rw [show thenM (inR s.b s.c) (poQ s) = poK s from rfl] at t2
  generalize prL (poF s).n (poH s).n (poF s).n.length = l1 at *
  generalize prL (poF s).e (poH s).e (poF s).e.length = l2 at *
  clear bf bg bi br il ir hs vu va vb vc hf hg he hb iln ile irn ire qn qe
  generalize poG s = d at *
  generalize poQ s = qq at *
  generalize poP s = pp at *
  generalize poK s = kk at *
  generalize unG s.b s.c = uu at *
  generalize idM s.b = ii at *
  generalize inR s.b s.c = jj at *
  obtain ⟨dn, de⟩ := d
  obtain ⟨un, ue⟩ := uu
  obtain ⟨qn, qe⟩ := qq
  obtain ⟨pn, pe⟩ := pp
  obtain ⟨kn, ke⟩ := kk
  obtain ⟨i1, i2⟩ := ii
  obtain ⟨j1, j2⟩ := jj
  simp only [uniD, gD, gA, mD, mA, spD, poD] at *
  simp (disch := omega) only [go_sem, ↓reduceIte]
  refine call_by r1 ?_
  simp (disch := omega) only [go_sem, ↓reduceIte]
  refine call_by p1 ?_
  simp (disch := omega) only [go_sem, ↓reduceIte]
  refine call_by p2 ?_
  simp (disch := omega) only [go_sem, ↓reduceIte]
  refine call_by q ?_
  simp (disch := omega) only [go_sem, ↓reduceIte]
  refine call_by t1 ?_
  simp (disch := omega) only [go_sem, ↓reduceIte]
  refine call_by t2 ?_
  simp (disch := omega) only [go_sem, ↓reduceIte]
  try rfl
theorem w_pushout_Of (hp : K_pushout_span P F) (hg : K_pushout_glue P F) (s : Sp) : W P (c_pushout_Of F) (Done [.c 2 true 2, .c 3 true 2, .c 4 true 2, .t 5] [] (poD (poR s)) []) (init [spD s]) := by
 refine W_of ?_
 have r1 := hp s
 by_cases c : spE s = 0
 ·have r2 := hg s c
  rw [c] at r1
  generalize poR s = r at *
  obtain ⟨⟨dn, de⟩, ⟨pn, pe⟩, ⟨kn, ke⟩, er⟩ := r
  simp only [spD, poD, gA, mA] at *
  simp (disch := omega) only [go_sem, ↓reduceIte]
  refine call_by r1 ?_
  simp (disch := omega) only [go_sem, ↓reduceIte]
  refine call_by r2 ?_
  simp (disch := omega) only [go_sem, ↓reduceIte]
  try rfl
 ·have : poR s = (g0, m0, m0, spE s) := by
   have : poErr s = spE s := by unfold poErr; rw [if_pos c]
   unfold poR; rw [this, if_neg c]
  rw [this]
  generalize spE s = e at *
  simp only [spD] at *
  simp (disch := omega) only [go_sem, ↓reduceIte]
  refine call_by r1 ?_
  simp (disch := omega) only [go_sem, ↓reduceIte, c]
  simp [poD, g0, m0, gA, mA, ints, eds]
set_option maxHeartbeats 1000000 in
theorem w_pushout_filled (n : Nat) (p h q k : List Int) (hn : n ≤ 1000) (h1 : OnOk n p h) (h2 : OnOk n q k) :
  W P (c_pushout_filled F) (Done [.t 6] [] (.arr 1 (ints (ontoL n p h q k))) []) (init [.int .i64 n, .lst 1 [.lst 1 (ints p), .lst 1 (ints q)], .lst 1 [.lst 1 (ints h), .lst 1 (ints k)]]) := by
 refine W_of ?_
 obtain ⟨p1, p2, p3⟩ := h1
 obtain ⟨q1, q2, q3⟩ := h2
 have a0 : fillA n p h q k 0 = List.replicate n 0 := rfl
 have a1 : fillA n p h q k 1 = setL h p (fillA n p h q k 0) p.length := rfl
 have a2 : fillA n p h q k 2 = setL k q (fillA n p h q k 1) q.length := rfl
 have aE : ontoL n p h q k = fillA n p h q k 2 := rfl
 have al : ∀ i, i ≤ 2 → (fillA n p h q k i).length = n := fun i hi => by
  have h3 : i = 0 ∨ i = 1 ∨ i = 2 := by omega
  rcases h3 with rfl | rfl | rfl
  ·rw [a0]; simp
  ·rw [a1, setL_len, a0]; simp
  ·rw [a2, setL_len, a1, setL_len, a0]; simp
 rw [aE]
 clear aE
 generalize fillA n p h q k = A at *
 have sl : ∀ (x y z : List Int) (i : Nat), (setL x y z i).length = z.length := fun x y z i => setL_len x y z i
 have ss : ∀ (x y z : List Int) (i : Nat), setL x y z (i + 1) = (setL x y z i).set (gt y i).toNat (gt x i) := fun x y z i => rfl
 simp (disch := omega) only [go_sem, ↓reduceIte]
 refine W_loop (fun i : Nat => ⟨[(2, .lst 1 [.lst 1 (ints h), .lst 1 (ints k)]), (7, .sl 0 0 n), (14, .lst 1 [.lst 1 (ints p), .lst 1 (ints q)]), (15, .int .i64 (2 : Nat)), (16, .int .i64 i)], [(0, .arr 1 (ints (A i)))], 1⟩) (fun i => i ≤ 2) (fun i => 2 - i) 0 ?_ ?_ ?_
 ·simp (disch := omega) only [go_sem, ↓reduceIte, a0]
  rfl
 ·simp
 ·intro i hi
  have h3 : i = 0 ∨ i = 1 ∨ i = 2 := by omega
  rcases h3 with rfl | rfl | rfl
  ·have l0 := al 0 (by omega)
   simp (disch := omega) only [go_sem, ↓reduceIte, c_pushout_filled_b12]
   refine bran_dec (fun c => ?_) (fun c => absurd c (by omega))
   simp (disch := omega) only [go_sem, ↓reduceIte, l0]
   refine W_loop (fun j : Nat => ⟨[(2, .lst 1 [.lst 1 (ints h), .lst 1 (ints k)]), (7, .sl 0 0 n), (8, .int .i64 (0 : Nat)), (14, .lst 1 [.lst 1 (ints p), .lst 1 (ints q)]), (15, .int .i64 (2 : Nat)), (16, .int .i64 (0 : Nat)), (21, .lst 1 (ints p)), (22, .int .i64 p.length), (23, .int .i64 j)], [(0, .arr 1 (ints (setL h p (A 0) j)))], 1⟩) (fun j => j ≤ p.length) (fun j => p.length - j) 0 ?_ ?_ ?_
   ·simp (disch := omega) only [go_sem, ↓reduceIte, setL]
    rfl
   ·simp
   ·intro j hj
    have lj := sl h p (A 0) j
    rw [l0] at lj
    have sj := ss h p (A 0) j
    by_cases c : j < p.length
    ·have g1 : decide ((j : Int) < p.length) = true := decide_eq_true (by omega)
     obtain ⟨b1, b2⟩ := p3 j c
     generalize setL h p (A 0) j = z at *
     simp (disch := omega) only [go_sem, ↓reduceIte, c_pushout_filled_b10, g1, lj]
     exact ⟨j + 1, by simp [sj], by omega, by omega⟩
    ·have g1 : decide ((j : Int) < p.length) = false := decide_eq_false (by omega)
     obtain rfl : j = p.length := by omega
     simp (disch := omega) only [go_sem, ↓reduceIte, c_pushout_filled_b10, g1, lj]
     exact ⟨1, by simp [a1], by omega, by omega⟩
  ·have l0 := al 1 (by omega)
   simp (disch := omega) only [go_sem, ↓reduceIte, c_pushout_filled_b12]
   refine bran_dec (fun c => ?_) (fun c => absurd c (by omega))
   simp (disch := omega) only [go_sem, ↓reduceIte, l0]
   refine W_loop (fun j : Nat => ⟨[(2, .lst 1 [.lst 1 (ints h), .lst 1 (ints k)]), (7, .sl 0 0 n), (8, .int .i64 (1 : Nat)), (14, .lst 1 [.lst 1 (ints p), .lst 1 (ints q)]), (15, .int .i64 (2 : Nat)), (16, .int .i64 (1 : Nat)), (21, .lst 1 (ints q)), (22, .int .i64 q.length), (23, .int .i64 j)], [(0, .arr 1 (ints (setL k q (A 1) j)))], 1⟩) (fun j => j ≤ q.length) (fun j => q.length - j) 0 ?_ ?_ ?_
   ·simp (disch := omega) only [go_sem, ↓reduceIte, setL]
    rfl
   ·simp
   ·intro j hj
    have lj := sl k q (A 1) j
    rw [l0] at lj
    have sj := ss k q (A 1) j
    by_cases c : j < q.length
    ·have g1 : decide ((j : Int) < q.length) = true := decide_eq_true (by omega)
     obtain ⟨b1, b2⟩ := q3 j c
     generalize setL k q (A 1) j = z at *
     simp (disch := omega) only [go_sem, ↓reduceIte, c_pushout_filled_b10, g1, lj]
     exact ⟨j + 1, by simp [sj], by omega, by omega⟩
    ·have g1 : decide ((j : Int) < q.length) = false := decide_eq_false (by omega)
     obtain rfl : j = q.length := by omega
     simp (disch := omega) only [go_sem, ↓reduceIte, c_pushout_filled_b10, g1, lj]
     exact ⟨2, by simp [a2], by omega, by omega⟩
  ·have l0 := al 2 (by omega)
   simp (disch := omega) only [go_sem, ↓reduceIte, c_pushout_filled_b12]
   refine bran_dec (fun c => absurd c (by omega)) (fun c => ?_)
   simp (disch := omega) only [go_sem, ↓reduceIte, l0]
end
section
variable (P : Program) (F : String → Nat)
end
section
variable {P : Program} {F : String → Nat} {α : Type}
theorem coc_bad {s : Sp} {x : G} {h k : Mo} (e : cocE s x h k ≠ 0) : medP s x h k = (m0, cocE s x h k) := by unfold medP; rw [if_neg e]
theorem coc_ok {s : Sp} {x : G} {h k : Mo} (e : cocE s x h k = 0) : medP s x h k = (medU s h k, 0) := by unfold medP; rw [if_pos e]
theorem on_ok {b d : G} {p h : Mo} {x : G} (hp : MOk b d p) (hh : MOk b x h) : OnOk d.n.length p.n h.n ∧ OnOk d.e.length p.e h.e := by
 have vb := valid_spec hp.va
 have l1 := hp.ln
 have l2 := hp.le
 have l3 := hh.ln
 have l4 := hh.le
 exact ⟨⟨by omega, by omega, fun i hi => (hp.nd i (by omega)).1⟩, ⟨by omega, by omega, fun i hi => (hp.ed i (by omega)).1⟩⟩
set_option maxHeartbeats 2000000 in
theorem w_pushout_Mediate (hp : K_pushout_span P F) (hv : K_morphism_Valid P F) (hg : K_pushout_glue P F) (ht : K_pushout_then P F) (hsm : K_morphism_Same P F) (hfi : K_pushout_filled P F) (s : Sp) (x : G) (h k : Mo) :
  W P (c_pushout_Mediate F) (Done [.c 8 true 2, .t 9] [] (.tup [mA (medP s x h k).1, .int .i64 (medP s x h k).2]) []) (init [spD s, gD x, mD h, mD k]) := by
 refine W_of ?_
 have r1 := hp s
 have r2 := hv s.b x h
 have r3 := hv s.c x k
 have hE : cocE s x h k = if spE s ≠ 0 then spE s else if validM s.b x h ≠ 0 then validM s.b x h else if validM s.c x k ≠ 0 then validM s.c x k else if Big s.b s.c then 3 else if thenM s.f h = thenM s.g k then 0 else 11 := rfl
 by_cases c1 : spE s = 0
 ·rw [if_neg (by simp [c1])] at hE
  by_cases c2 : validM s.b x h = 0
  ·rw [if_neg (by simp [c2])] at hE
   by_cases c3 : validM s.c x k = 0
   ·rw [if_neg (by simp [c3])] at hE
    have r4 := hg s c1
    rw [c1] at r1
    rw [c2] at r2
    rw [c3] at r3
    obtain ⟨hf, hgg⟩ := spE_ok.1 c1
    have hh := mok.1 c2
    have hk := mok.1 c3
    by_cases hb : Big s.b s.c
    ·rw [if_pos hb] at hE
     rw [coc_bad (by rw [hE]; decide), hE]
     rw [poR_big c1 hb] at r4
     simp only [poD, g0, m0, gD, gA, mD, mA, spD] at *
     simp (disch := omega) only [go_sem, ↓reduceIte]
     refine call_by r1 ?_
     simp (disch := omega) only [go_sem, ↓reduceIte]
     refine call_by r2 ?_
     simp (disch := omega) only [go_sem, ↓reduceIte]
     refine call_by r3 ?_
     simp (disch := omega) only [go_sem, ↓reduceIte]
     refine call_by r4 ?_
     simp (disch := omega) only [go_sem, ↓reduceIte]
     refine bran_ndec (fun _ => ?_) (fun h => absurd h (by decide))
     simp (disch := omega) only [go_sem, ↓reduceIte]
     simp [ints, mA, m0]
    ·rw [if_neg hb] at hE
     have hs : SOk s := ⟨hf, hgg, hb⟩
     rw [poR_ok hs] at r4
     have va := valid_spec hf.va
     have vb := valid_spec hf.vb
     have vc := valid_spec hgg.vb
     have vd := valid_spec hs.p.vb
     have ln := hf.ln
     have le := hf.le
     have mn := hgg.ln
     have me := hgg.le
     have h1 := hh.ln
     have h2 := hh.le
     have k1 := hk.ln
     have k2 := hk.le
     have bf := validM_bd (mok.2 hf)
     have bg := validM_bd (mok.2 hgg)
     have t1 := ht s.f h (by omega) (by omega) (by rw [h1]; exact bf.1) (by rw [h2]; exact bf.2)
     have t2 := ht s.g k (by omega) (by omega) (by rw [k1]; exact bg.1) (by rw [k2]; exact bg.2)
     have sm := hsm (thenM s.f h) (thenM s.g k) (by simp only [thenM, thr_len]; unfold maxL; omega) (by simp only [thenM, thr_len]; unfold maxL; omega)
     obtain ⟨o1, o2⟩ := on_ok hs.p hh
     obtain ⟨o3, o4⟩ := on_ok hs.k hk
     have f1 := hfi _ _ _ _ _ (by omega) o1 o3
     have f2 := hfi _ _ _ _ _ (by omega) o2 o4
     have hmU : medU s h k = ⟨ontoL (poG s).n.length (poP s).n h.n (poK s).n k.n, ontoL (poG s).e.length (poP s).e h.e (poK s).e k.e⟩ := rfl
     have q1 := hs.p.ln
     have q2 := hs.p.le
     have q3 := hs.k.ln
     have q4 := hs.k.le
     generalize ontoL (poG s).n.length (poP s).n h.n (poK s).n k.n = u1 at *
     generalize ontoL (poG s).e.length (poP s).e h.e (poK s).e k.e = u2 at *
     by_cases c4 : thenM s.f h = thenM s.g k
     ·rw [if_pos c4] at hE
      rw [coc_ok hE, hmU]
      rw [decide_eq_true c4] at sm
      clear o1 o2 o3 o4 bf bg hs hf hgg hh hk hb c1 c2 c3 hE hmU c4 hp hv hg ht hsm hfi
      generalize thenM s.f h = fh at *
      generalize thenM s.g k = gk at *
      generalize poG s = d at *
      generalize poP s = pp at *
      generalize poK s = kk at *
      obtain ⟨dn, de⟩ := d
      obtain ⟨pn, pe⟩ := pp
      obtain ⟨kn, ke⟩ := kk
      obtain ⟨f1', f2'⟩ := fh
      obtain ⟨g1, g2⟩ := gk
      simp only [poD, gD, gA, mD, mA, spD] at *
      simp (disch := omega) only [go_sem, ↓reduceIte]
      refine call_by r1 ?_
      simp (disch := omega) only [go_sem, ↓reduceIte]
      refine call_by r2 ?_
      simp (disch := omega) only [go_sem, ↓reduceIte]
      refine call_by r3 ?_
      simp (disch := omega) only [go_sem, ↓reduceIte]
      refine call_by r4 ?_
      simp (disch := omega) only [go_sem, ↓reduceIte]
      refine call_by t1 ?_
      simp (disch := omega) only [go_sem, ↓reduceIte]
      refine call_by t2 ?_
      simp (disch := omega) only [go_sem, ↓reduceIte]
      refine call_by sm ?_
      simp (disch := omega) only [go_sem, ↓reduceIte]
      refine call_by f1 ?_
      simp (disch := omega) only [go_sem, ↓reduceIte]
      refine call_by f2 ?_
      simp (disch := omega) only [go_sem, ↓reduceIte]
      try rfl
     ·rw [if_neg c4] at hE
      rw [coc_bad (by rw [hE]; decide), hE]
      rw [decide_eq_false c4] at sm
      clear o1 o2 o3 o4 bf bg hs hf hgg hh hk hb c1 c2 c3 hE hmU c4 hp hv hg ht hsm hfi
      generalize thenM s.f h = fh at *
      generalize thenM s.g k = gk at *
      generalize poG s = d at *
      generalize poP s = pp at *
      generalize poK s = kk at *
      obtain ⟨dn, de⟩ := d
      obtain ⟨pn, pe⟩ := pp
      obtain ⟨kn, ke⟩ := kk
      obtain ⟨f1', f2'⟩ := fh
      obtain ⟨g1, g2⟩ := gk
      simp only [poD, gD, gA, mD, mA, spD] at *
      simp (disch := omega) only [go_sem, ↓reduceIte]
      refine call_by r1 ?_
      simp (disch := omega) only [go_sem, ↓reduceIte]
      refine call_by r2 ?_
      simp (disch := omega) only [go_sem, ↓reduceIte]
      refine call_by r3 ?_
      simp (disch := omega) only [go_sem, ↓reduceIte]
      refine call_by r4 ?_
      simp (disch := omega) only [go_sem, ↓reduceIte]
      refine call_by t1 ?_
      simp (disch := omega) only [go_sem, ↓reduceIte]
      refine call_by t2 ?_
      simp (disch := omega) only [go_sem, ↓reduceIte]
      refine call_by sm ?_
      simp (disch := omega) only [go_sem, ↓reduceIte]
      simp [m0, ints, mA]
   ·rw [if_pos c3] at hE
    rw [coc_bad (by rw [hE]; exact c3), hE]
    rw [c1] at r1
    rw [c2] at r2
    generalize validM s.c x k = v at *
    clear hE
    simp only [gD, mD, spD] at *
    simp (disch := omega) only [go_sem, ↓reduceIte]
    refine call_by r1 ?_
    simp (disch := omega) only [go_sem, ↓reduceIte]
    refine call_by r2 ?_
    simp (disch := omega) only [go_sem, ↓reduceIte]
    refine call_by r3 ?_
    simp (disch := omega) only [go_sem, ↓reduceIte, c3]
    simp [m0, mA, ints]
  ·rw [if_pos c2] at hE
   rw [coc_bad (by rw [hE]; exact c2), hE]
   rw [c1] at r1
   generalize validM s.b x h = v at *
   clear hE
   simp only [gD, mD, spD] at *
   simp (disch := omega) only [go_sem, ↓reduceIte]
   refine call_by r1 ?_
   simp (disch := omega) only [go_sem, ↓reduceIte]
   refine call_by r2 ?_
   simp (disch := omega) only [go_sem, ↓reduceIte, c2]
   simp [m0, mA, ints]
 ·rw [if_pos c1] at hE
  rw [coc_bad (by rw [hE]; exact c1), hE]
  generalize spE s = v at *
  clear hE
  simp only [gD, mD, spD] at *
  simp (disch := omega) only [go_sem, ↓reduceIte]
  refine call_by r1 ?_
  simp (disch := omega) only [go_sem, ↓reduceIte, c1]
  simp [m0, mA, ints]
theorem w_pushout_Check (hm : K_pushout_Mediate P F) (hg : K_pushout_glue P F) (hi : K_morphism_Injective P F) (hj : K_morphism_Surjective P F) (s : Sp) (x : G) (h k : Mo) : W P (c_pushout_Check F) (Done [.t 8] [] (.bool (chkP s x h k)) []) (init [spD s, gD x, mD h, mD k]) := by
 refine W_of ?_
 have r1 := hm s x h k
 have hC : chkP s x h k = (decide (cocE s x h k = 0) && (injM (poG s) x (medU s h k) && surM (poG s) x (medU s h k))) := rfl
 rw [hC]
 by_cases c : cocE s x h k = 0
 ·obtain ⟨hs, _⟩ := cocE_ok.1 c
  have r2 := hg s (spE_ok.2 ⟨hs.f, hs.g⟩)
  rw [coc_ok c] at r1
  rw [poR_ok hs] at r2
  rw [decide_eq_true c]
  have r3 := hi (poG s) x (medU s h k)
  have r4 := hj (poG s) x (medU s h k)
  clear hs c hC
  generalize injM (poG s) x (medU s h k) = b1 at *
  generalize surM (poG s) x (medU s h k) = b2 at *
  generalize medU s h k = u at *
  generalize poG s = d at *
  generalize poP s = pp at *
  generalize poK s = kk at *
  obtain ⟨dn, de⟩ := d
  obtain ⟨pn, pe⟩ := pp
  obtain ⟨kn, ke⟩ := kk
  obtain ⟨un, ue⟩ := u
  simp only [poD, gD, gA, mD, mA, spD] at *
  simp (disch := omega) only [go_sem, ↓reduceIte]
  refine call_by r1 ?_
  simp (disch := omega) only [go_sem, ↓reduceIte]
  refine call_by r2 ?_
  simp (disch := omega) only [go_sem, ↓reduceIte]
  refine call_by r3 ?_
  cases b1
  ·simp (disch := omega) only [go_sem, ↓reduceIte]
  ·simp (disch := omega) only [go_sem, ↓reduceIte]
   refine call_by r4 ?_
   simp (disch := omega) only [go_sem, ↓reduceIte]
 ·rw [coc_bad c] at r1
  rw [decide_eq_false c]
  generalize cocE s x h k = v at *
  simp only [gD, mD, spD, mA, m0] at *
  simp (disch := omega) only [go_sem, ↓reduceIte]
  refine call_by r1 ?_
  simp (disch := omega) only [go_sem, ↓reduceIte, c]
end
section
variable {α : Type}
theorem idx_none (p : α → Bool) : ∀ (l : List α) (i : Int), 0 ≤ i → idx p l i = -1 → ∀ x ∈ l, p x = false
 | [], _, _, _, x, hx => by simp at hx
 | a :: l, i, h0, h, x, hx => by
  simp only [idx] at h
  split at h
  ·omega
  ·rename_i ha
   rcases List.mem_cons.1 hx with rfl | hx
   ·simpa using ha
   ·exact idx_none p l (i + 1) (by omega) h x hx
theorem idx_some [Inhabited α] (p : α → Bool) : ∀ (l : List α) (i : Int), idx p l i ≠ -1 → ∃ k : Nat, idx p l i = i + k ∧ k < l.length ∧ p (gt l k) = true ∧ ∀ x ∈ l.take k, p x = false
 | [], _, h => absurd rfl h
 | a :: l, i, h => by
  simp only [idx] at h ⊢
  split
  ·rename_i ha
   exact ⟨0, by simp, by simp, by simpa [gt] using ha, by simp⟩
  ·rename_i ha
   rw [if_neg ha] at h
   obtain ⟨k, h1, h2, h3, h4⟩ := idx_some p l (i + 1) h
   refine ⟨k + 1, by rw [h1]; push_cast; omega, by simpa using h2, ?_, ?_⟩
   ·rw [gt_nat (by simpa using h2)]
    rw [gt_nat h2] at h3
    simpa using h3
   ·rw [List.take_succ_cons]
    intro x hx
    rcases List.mem_cons.1 hx with rfl | hx
    ·simpa using ha
    ·exact h4 x hx
end
@[go_sem] def c_pullback_pairs_r0 : LL := [qn 4 2]
@[go_sem] def c_pullback_pairs_r1 : LL := [qn 5 2]
@[go_sem] def c_pullback_pairs_r2 : LL := [qm 10 0,qz 11 10,qi 12 0]
@[go_sem] def c_pullback_pairs_r3 : LL := [qo .lss 13 12 11]
@[go_sem] def c_pullback_pairs_r4 : LL := [qm 14 12,qd 15 1 10 12,ql 16 1 15,qm 6 14,qm 7 16]
@[go_sem] def c_pullback_pairs_r5 : LL := [qm 17 1,qz 18 17,qi 19 0]
@[go_sem] def c_pullback_pairs_r6 : LL := [qo .lss 20 19 18]
@[go_sem] def c_pullback_pairs_r7 : LL := [qm 21 19,qd 22 1 17 19,ql 23 1 22,qm 8 21,qm 9 23]
@[go_sem] def c_pullback_pairs_r8 : LL := [qm 24 7,qm 25 9,qo .eql 26 24 25]
@[go_sem] def c_pullback_pairs_r9 : LL := [qm 27 5,qm 28 6,qm 29 8,qu 30 [.int .i64 (0),.int .i64 (0)] [(0,1,.t 28),(1,1,.t 29)],⟨some 31,.buildSl 2 16 (.agg [.int .i64 (0),.int .i64 (0)]) 1 [(0,.t 30)],none⟩,
 qp 32 2 16 27 31,qm 5 32]
@[go_sem] def c_pullback_pairs_r10 : LL := [qk .add 33 19 1,qm 19 33]
def c_pullback_pairs_b11 : LC := (.seq (.reg c_pullback_pairs_r6 [1,5,6,7,10,11,12,17,18,19,20]) (.seq (.cond (.t 20) .skip (.exit 2)) (.seq (.block 3 (.seq (.reg c_pullback_pairs_r7 [1,5,6,7,8,9,10,11,12,17,18,19]) (.seq (.reg c_pullback_pairs_r8 [1,5,6,7,8,10,11,12,17,18,19,26]) (.cond (.t 26) (.reg c_pullback_pairs_r9 [1,5,6,7,10,11,12,17,18,19]) .skip)))) (.reg c_pullback_pairs_r10 [1,5,6,7,10,11,12,17,18,19]))))
@[go_sem] def c_pullback_pairs_r12 : LL := [qk .add 34 12 1,qm 12 34]
def c_pullback_pairs_b13 : LC := (.seq (.reg c_pullback_pairs_r3 [1,5,10,11,12,13]) (.seq (.cond (.t 13) .skip (.exit 0)) (.seq (.block 1 (.seq (.reg c_pullback_pairs_r4 [1,5,6,7,10,11,12]) (.seq (.reg c_pullback_pairs_r5 [1,5,6,7,10,11,12,17,18,19]) (.block 2 (.loop [1,5,6,7,10,11,12,17,18,19] c_pullback_pairs_b11))))) (.reg c_pullback_pairs_r12 [1,5,10,11,12]))))
@[go_sem] def c_pullback_pairs_r14 : LL := [qm 35 5,qm 4 35]
@[go_sem] def c_pullback_pairs (F : Fn) : LC := (.seq (.reg c_pullback_pairs_r0 [0,1]) (.seq (.reg c_pullback_pairs_r1 [0,1,5]) (.seq (.seq (.reg c_pullback_pairs_r2 [1,5,10,11,12]) (.block 0 (.loop [1,5,10,11,12] c_pullback_pairs_b13))) (.seq (.reg c_pullback_pairs_r14 [4]) .ret))))
def h_pullback_pairs : Hints := hOf [] (c_pullback_pairs fun _ => 0)
@[go_sem] def c_pullback_sides_r0 : LL := [qn 2 1,qn 3 1]
@[go_sem] def c_pullback_sides_r1 : LL := [qn 4 1,qn 5 1]
@[go_sem] def c_pullback_sides_r2 : LL := [qm 8 0,qz 9 8,qi 10 0]
@[go_sem] def c_pullback_sides_r3 : LL := [qo .lss 11 10 9]
@[go_sem] def c_pullback_sides_r4 : LL := [qd 12 2 8 10,qL 13 2 12,qa 7 [.int .i64 (0),.int .i64 (0)],qs 2 7 13]
@[go_sem] def c_pullback_sides_r5 : LL := [qm 14 4,qf 15 0 7,ql 16 1 15,⟨some 17,.buildSl 1 8 (.int .i64 (0)) 1 [(0,.t 16)],none⟩,qp 18 1 8 14 17,qm 19 5,qf 20 1 7,ql 21 1 20,
 ⟨some 22,.buildSl 1 8 (.int .i64 (0)) 1 [(0,.t 21)],none⟩,qp 23 1 8 19 22,qm 4 18,qm 5 23]
@[go_sem] def c_pullback_sides_r6 : LL := [qk .add 24 10 1,qm 10 24]
def c_pullback_sides_b7 : LC := (.seq (.reg c_pullback_sides_r3 [4,5,8,9,10,11]) (.seq (.cond (.t 11) .skip (.exit 0)) (.seq (.block 1 (.seq (.reg c_pullback_sides_r4 [4,5,7,8,9,10]) (.dreg [(2,none,[],true),(3,none,[],true),(4,none,[],true),(7,(some 64),[3,4],false),(8,(some 192),[2,3,4],false)] c_pullback_sides_r5 [4,5,8,9,10]))) (.reg c_pullback_sides_r6 [4,5,8,9,10]))))
@[go_sem] def c_pullback_sides_r8 : LL := [qm 25 4,qm 26 5,qm 2 25,qm 3 26]
@[go_sem] def c_pullback_sides (F : Fn) : LC := (.seq (.reg c_pullback_sides_r0 [0]) (.seq (.reg c_pullback_sides_r1 [0,4,5]) (.seq (.seq (.reg c_pullback_sides_r2 [4,5,8,9,10]) (.block 0 (.loop [4,5,8,9,10] c_pullback_sides_b7))) (.seq (.reg c_pullback_sides_r8 [2,3]) .ret))))
def h_pullback_sides : Hints := hOf [] (c_pullback_sides fun _ => 0)
@[go_sem] def c_slices_Index_apiPair_r0 : LL := [qB 3 1,qi 4 0]
@[go_sem] def c_slices_Index_apiPair_r1 : LL := [qm 6 0,qz 7 6,qi 8 0]
@[go_sem] def c_slices_Index_apiPair_r2 : LL := [qo .lss 9 8 7]
@[go_sem] def c_slices_Index_apiPair_r3 : LL := [qm 10 8,qm 5 10]
@[go_sem] def c_slices_Index_apiPair_r4 : LL := [qL 11 2 3,qm 12 0,qm 13 5,qd 14 2 12 13,qL 15 2 14,⟨some 16,.eqA 2 false (.t 11) (.t 15),none⟩]
@[go_sem] def c_slices_Index_apiPair_r5 : LL := [qm 17 5,qm 4 17]
@[go_sem] def c_slices_Index_apiPair_r6 : LL := [qk .add 18 8 1,qm 8 18]
def c_slices_Index_apiPair_b7 : LC := (.seq (.reg c_slices_Index_apiPair_r2 [0,3,7,8,9]) (.seq (.cond (.t 9) .skip (.exit 0)) (.seq (.block 1 (.seq (.reg c_slices_Index_apiPair_r3 [0,3,5,7,8]) (.seq (.dreg [] c_slices_Index_apiPair_r4 [0,3,5,7,8,16]) (.cond (.t 16) (.seq (.reg c_slices_Index_apiPair_r5 [4]) .ret) .skip)))) (.reg c_slices_Index_apiPair_r6 [0,3,7,8]))))
@[go_sem] def c_slices_Index_apiPair_r8 : LL := [qi 4 (-1)]
@[go_sem] def c_slices_Index_apiPair (F : Fn) : LC := (.seq (.reg c_slices_Index_apiPair_r0 [0,3]) (.seq (.seq (.reg c_slices_Index_apiPair_r1 [0,3,7,8]) (.block 0 (.loop [0,3,7,8] c_slices_Index_apiPair_b7))) (.seq (.reg c_slices_Index_apiPair_r8 [4]) .ret)))
def h_slices_Index_apiPair : Hints := hOf [] (c_slices_Index_apiPair fun _ => 0)
attribute [go_sem low] prs_atn
def rowP (f g : List Int) (i k : Nat) : List Pr := ((List.range k).filter fun k : Nat => decide (gt f i = gt g k)).map fun k : Nat => ⟨i, k⟩
def pairsI (f g : List Int) (i : Nat) : List Pr := (List.range i).flatMap fun i => rowP f g i g.length
def pairsL (f g : List Int) : List Pr := pairsI f g f.length
theorem rowP_zero (f g : List Int) (i : Nat) : rowP f g i 0 = [] := rfl
theorem rowP_succ (f g : List Int) (i k : Nat) : rowP f g i (k + 1) = if gt f i = gt g k then rowP f g i k ++ [⟨i, k⟩] else rowP f g i k := by
 simp only [rowP, List.range_succ, List.filter_append, List.filter_cons, List.filter_nil, List.map_append, decide_eq_true_eq]
 split <;> simp
theorem rowP_len (f g : List Int) (i k : Nat) : (rowP f g i k).length ≤ k := by
 simp only [rowP, List.length_map]
 exact Nat.le_trans (List.length_filter_le _ _) (by simp)
theorem pairsI_zero (f g : List Int) : pairsI f g 0 = [] := rfl
theorem pairsI_succ (f g : List Int) (i : Nat) : pairsI f g (i + 1) = pairsI f g i ++ rowP f g i g.length := by simp [pairsI, List.range_succ]
theorem pairsI_len (f g : List Int) (i : Nat) : (pairsI f g i).length ≤ i * g.length := by
 induction i with
 | zero => simp [pairsI_zero]
 | succ i ih => rw [pairsI_succ, List.length_append, Nat.succ_mul]; have := rowP_len f g i g.length; omega
def accP (f g : List Int) (i k : Nat) : List Pr := pairsI f g i ++ rowP f g i k
theorem accP_zero (f g : List Int) (i : Nat) : accP f g i 0 = pairsI f g i := by simp [accP, rowP_zero]
theorem accP_succ (f g : List Int) (i k : Nat) : accP f g i (k + 1) = if gt f i = gt g k then accP f g i k ++ [⟨i, k⟩] else accP f g i k := by
 simp only [accP, rowP_succ]; split <;> simp
theorem accP_end (f g : List Int) (i : Nat) : accP f g i g.length = pairsI f g (i + 1) := by simp [accP, pairsI_succ]
theorem accP_len {f g : List Int} (hf : f.length ≤ 10000) (hg : g.length ≤ 10000) {i k : Nat} (h1 : i < f.length) (h2 : k ≤ g.length) : (accP f g i k).length ≤ 100000000 := by
 unfold accP
 rw [List.length_append]
 have a1 := pairsI_len f g i
 have a2 := rowP_len f g i k
 have a3 : i * g.length ≤ 9999 * 10000 := Nat.mul_le_mul (by omega) hg
 omega
def asA (l : List Pr) : List Int := l.map (·.a)
def asB (l : List Pr) : List Int := l.map (·.b)
section
variable (P : Program) (F : String → Nat)
def K_pullback_pairs : Prop := ∀ f g : List Int, f.length ≤ 10000 → g.length ≤ 10000 → FC P (F "pullback.pairs") [.lst 1 (ints f), .lst 1 (ints g)] (.arr 2 (prs (pairsL f g))) []
def K_pullback_sides : Prop := ∀ l : List Pr, l.length ≤ 10000 → FC P (F "pullback.sides") [.lst 2 (prs l)] (.tup [.arr 1 (ints (asA l)), .arr 1 (ints (asB l))]) []
def K_slices_Index_apiPair : Prop := ∀ (l : List Pr) (a b : Int), l.length ≤ maxL → FC P (F "slices.Index.apiPair") [.lst 2 (prs l), .agg [.int .i64 a, .int .i64 b]] (.int .i64 (idx (fun p => decide (p = ⟨a, b⟩)) l 0)) []
end
section
variable {P : Program} {F : String → Nat} {α : Type}
theorem w_pullback_pairs (f g : List Int) (hf : f.length ≤ 10000) (hg : g.length ≤ 10000) : W P (c_pullback_pairs F) (Done [.t 4] [] (.arr 2 (prs (pairsL f g))) []) (init [.lst 1 (ints f), .lst 1 (ints g)]) := by
 refine W_of ?_
 simp (disch := omega) only [go_sem, ↓reduceIte]
 refine W_loop (fun i : Nat => ⟨[(1, .lst 1 (ints g)), (5, .sl 0 0 (pairsI f g i).length), (10, .lst 1 (ints f)), (11, .int .i64 f.length), (12, .int .i64 i)], [(0, .arr 2 (prs (pairsI f g i)))], 1⟩) (fun i => i ≤ f.length) (fun i => f.length - i) 0 ?_ ?_ ?_
 ·simp (disch := omega) only [go_sem, ↓reduceIte, pairsI_zero]
  rfl
 ·simp
 ·intro i hi
  simp (disch := omega) only [go_sem, ↓reduceIte, c_pullback_pairs_b13]
  refine bran_dec (fun c => ?_) (fun c => ?_)
  ·simp (disch := omega) only [go_sem, ↓reduceIte]
   refine W_loop (fun k : Nat => ⟨[(1, .lst 1 (ints g)), (5, .sl 0 0 (accP f g i k).length), (6, .int .i64 i), (7, .int .i64 (gt f i)), (10, .lst 1 (ints f)), (11, .int .i64 f.length), (12, .int .i64 i), (17, .lst 1 (ints g)), (18, .int .i64 g.length), (19, .int .i64 k)],
    [(0, .arr 2 (prs (accP f g i k)))], 1⟩) (fun k => k ≤ g.length) (fun k => g.length - k) 0 ?_ ?_ ?_
   ·simp (disch := omega) only [go_sem, ↓reduceIte, accP_zero]
    rfl
   ·simp
   ·intro k hk
    have b1 := accP_len hf hg (i := i) (k := k) (by omega) (by omega)
    simp (disch := omega) only [go_sem, ↓reduceIte, c_pullback_pairs_b11]
    refine bran_dec (fun d => ?_) (fun d => ?_)
    ·have hs := accP_succ f g i k
     simp (disch := omega) only [go_sem, ↓reduceIte]
     refine bran_dec (fun e => ?_) (fun e => ?_)
     ·rw [if_pos e] at hs
      simp (disch := omega) only [go_sem, ↓reduceIte]
      exact ⟨k + 1, by simp [hs], by omega, by omega⟩
     ·rw [if_neg e] at hs
      simp (disch := omega) only [go_sem, ↓reduceIte]
      exact ⟨k + 1, by simp [hs], by omega, by omega⟩
    ·obtain rfl : k = g.length := by omega
     simp (disch := omega) only [go_sem, ↓reduceIte]
     exact ⟨i + 1, by simp [accP_end], by omega, by omega⟩
  ·obtain rfl : i = f.length := by omega
   simp (disch := omega) only [go_sem, ↓reduceIte]
   rfl
theorem asA_take {l : List Pr} {i : Nat} (h : i < l.length) : asA (l.take (i + 1)) = asA (l.take i) ++ [(gt l i).a] := by rw [take_gt h]; simp [asA]
theorem asB_take {l : List Pr} {i : Nat} (h : i < l.length) : asB (l.take (i + 1)) = asB (l.take i) ++ [(gt l i).b] := by rw [take_gt h]; simp [asB]
theorem asA_len {l : List Pr} {i : Nat} (h : i ≤ l.length) : (asA (l.take i)).length = i := by simp [asA]; omega
theorem asB_len {l : List Pr} {i : Nat} (h : i ≤ l.length) : (asB (l.take i)).length = i := by simp [asB]; omega
theorem w_pullback_sides (l : List Pr) (hl : l.length ≤ 10000) : W P (c_pullback_sides F) (Done [.t 2, .t 3] [] (.tup [.arr 1 (ints (asA l)), .arr 1 (ints (asB l))]) []) (init [.lst 2 (prs l)]) := by
 refine W_of ?_
 simp (disch := omega) only [go_sem, ↓reduceIte]
 refine W_loop (fun i : Nat => ⟨[(4, .sl 0 0 i), (5, .sl 1 0 i), (8, .lst 2 (prs l)), (9, .int .i64 l.length), (10, .int .i64 i)], [(0, .arr 1 (ints (asA (l.take i)))), (1, .arr 1 (ints (asB (l.take i))))], 2⟩) (fun i => i ≤ l.length) (fun i => l.length - i) 0 ?_ ?_ ?_
 ·simp (disch := omega) only [go_sem, ↓reduceIte]
  rfl
 ·simp
 ·intro i hi
  have e1 := asA_len hi
  have e2 := asB_len hi
  simp (disch := omega) only [go_sem, ↓reduceIte, c_pullback_sides_b7]
  refine bran_dec (fun c => ?_) (fun c => ?_)
  ·simp (disch := omega) only [go_sem, ↓reduceIte, e1, e2]
   exact ⟨i + 1, by simp [asA_take (show i < l.length by omega), asB_take (show i < l.length by omega)], by omega, by omega⟩
  ·simp (disch := omega) only [go_sem, ↓reduceIte, e1, e2]
   rw [List.take_of_length_le (by omega)]
end
section
variable {P : Program} {F : String → Nat} {α : Type}
theorem w_slices_Index_apiPair (l : List Pr) (a b : Int) (hl : l.length ≤ maxL) : W P (c_slices_Index_apiPair F) (Done [.t 4] [] (.int .i64 (idx (fun p => decide (p = ⟨a, b⟩)) l 0)) []) (init [.lst 2 (prs l), .agg [.int .i64 a, .int .i64 b]]) := by
 refine W_of ?_
 unfold maxL at hl
 simp (disch := omega) only [go_sem, ↓reduceIte]
 refine W_loop (fun i : Nat => ⟨[(0, .lst 2 (prs l)), (3, .pt 0 0), (7, .int .i64 l.length), (8, .int .i64 i)], [(0, .box [.int .i64 a, .int .i64 b])], 1⟩) (fun i => i ≤ l.length ∧ idx (fun p => decide (p = ⟨a, b⟩)) l 0 = idx (fun p => decide (p = ⟨a, b⟩)) (l.drop i) i) (fun i => l.length - i) 0 ?_ ?_ ?_
 ·simp (disch := omega) only [go_sem, ↓reduceIte]
  rfl
 ·simp
 ·rintro i ⟨hi, he⟩
  simp (disch := omega) only [go_sem, ↓reduceIte, c_slices_Index_apiPair_b7]
  refine bran_dec (fun h => ?_) (fun h => ?_)
  ·have hd := idx_drop (fun p => decide (p = ⟨a, b⟩)) l i (by omega)
   have hq : (decide (a = (gt l i).a) && decide (b = (gt l i).b)) = decide (gt l i = ⟨a, b⟩) := by
    rw [Bool.eq_iff_iff]; simp [eqPr]; constructor <;> rintro ⟨h, k⟩ <;> exact ⟨h.symm, k.symm⟩
   simp (disch := omega) only [go_sem, ↓reduceIte, hq]
   refine bran_dec (fun h2 => ?_) (fun h2 => ?_)
   ·simp (disch := omega) only [go_sem, ↓reduceIte]
    rw [he, hd, if_pos (by simpa using h2)]
   ·simp (disch := omega) only [go_sem, ↓reduceIte]
    exact ⟨i + 1, by simp, ⟨by omega, by rw [he, hd, if_neg (by simpa using h2)]⟩, by omega⟩
  ·simp (disch := omega) only [go_sem, ↓reduceIte]
   rw [he, List.drop_of_length_le (by omega)]
   rfl
end
@[go_sem] def c_pullback_given_r0 : LL := [qB 1 0,qi 2 0]
@[go_sem] def c_pullback_given_r1 (F : Fn) : LL := [qf 4 0 1,qL 5 2 4,qf 6 4 1,qL 7 2 6,qf 8 6 1,qL 9 2 8,qc 10 (F "morphism.Valid") [.t 5,.t 7,.t 9],qm 3 10]
@[go_sem] def c_pullback_given_r2 : LL := [qm 11 3,qk .neq 12 11 0]
@[go_sem] def c_pullback_given_r3 : LL := [qm 13 3,qm 2 13]
@[go_sem] def c_pullback_given_r4 (F : Fn) : LL := [qf 14 2 1,qL 15 2 14,qf 16 4 1,qL 17 2 16,qf 18 8 1,qL 19 2 18,qc 20 (F "morphism.Valid") [.t 15,.t 17,.t 19],qm 2 20]
@[go_sem] def c_pullback_given (F : Fn) : LC := (.seq (.reg c_pullback_given_r0 [1]) (.seq (.seq (.reg (c_pullback_given_r1 F) [1,3]) (.seq (.reg c_pullback_given_r2 [1,3,12]) (.cond (.t 12) (.seq (.reg c_pullback_given_r3 [2]) .ret) .skip))) (.seq (.reg (c_pullback_given_r4 F) [2]) .ret)))
def h_pullback_given : Hints := hOf [] (c_pullback_given fun _ => 0)
@[go_sem] def c_pullback_of_r0 : LL := [qB 1 0,qa 2 [.nl 2,.nl 2,.nl 1,.nl 3],qi 3 0]
@[go_sem] def c_pullback_of_r1 (F : Fn) : LL := [qL 12 10 1,qc 13 (F "pullback.given") [.t 12],qm 4 13]
@[go_sem] def c_pullback_of_r2 : LL := [qm 14 4,qk .neq 15 14 0]
@[go_sem] def c_pullback_of_r3 : LL := [qu 16 [.nl 2,.nl 2,.nl 1,.nl 3] [],qm 17 4,qs 4 2 16,qm 3 17]
@[go_sem] def c_pullback_of_r4 (F : Fn) : LL := [qf 18 6 1,qf 19 0 18,ql 20 1 19,qf 21 8 1,qf 22 0 21,ql 23 1 22,qc 24 (F "pullback.pairs") [.t 20,.t 23],qf 25 6 1,qf 26 1 25,ql 27 1 26,qf 28 8 1,qf 29 1 28,ql 30 1 29,
 qc 31 (F "pullback.pairs") [.t 27,.t 30],qu 32 [.nl 2,.nl 2,.nl 1,.nl 3] [(0,1,.t 24),(1,1,.t 31)],qa 5 [.nl 2,.nl 2,.nl 1,.nl 3],qs 4 5 32]
@[go_sem] def c_pullback_of_r5 : LL := [qf 33 0 5,ql 34 1 33,qz 35 34,qk .gtr 36 35 40,qm 37 36,qg 37 false (qf 38 1 5),qg 37 false (ql 39 1 38),qg 37 false (qz 40 39),qg 37 false (qk .gtr 41 40 80),qQ 42 37 41]
@[go_sem] def c_pullback_of_r6 : LL := [qu 43 [.nl 2,.nl 2,.nl 1,.nl 3] [],qs 4 2 43,qi 3 3]
@[go_sem] def c_pullback_of_r7 : LL := [qf 44 0 5,ql 45 1 44,qz 46 45,qi 47 0]
@[go_sem] def c_pullback_of_r8 : LL := [qo .lss 48 47 46]
@[go_sem] def c_pullback_of_r9 : LL := [qd 49 2 45 47,qL 50 2 49,qa 7 [.int .i64 (0),.int .i64 (0)],qs 2 7 50]
@[go_sem] def c_pullback_of_r10 : LL := [qf 51 2 5,qf 52 0 51,ql 53 1 52,qf 54 0 1,qf 55 0 54,ql 56 1 55,qf 57 0 7,ql 58 1 57,qd 59 1 56 58,ql 60 1 59,⟨some 61,.buildSl 1 8 (.int .i64 (0)) 1 [(0,.t 60)],none⟩,
 qp 62 1 8 53 61,qf 63 2 5,qf 64 0 63,qs 1 64 62]
@[go_sem] def c_pullback_of_r11 : LL := [qk .add 65 47 1,qm 47 65]
def c_pullback_of_b12 : LC := (.seq (.reg c_pullback_of_r8 [1,2,5,45,46,47,48]) (.seq (.cond (.t 48) .skip (.exit 0)) (.seq (.block 1 (.seq (.reg c_pullback_of_r9 [1,2,5,7,45,46,47]) (.dreg [(2,none,[],true),(10,none,[2],false)] c_pullback_of_r10 [1,2,5,45,46,47]))) (.reg c_pullback_of_r11 [1,2,5,45,46,47]))))
@[go_sem] def c_pullback_of_r13 : LL := [qf 66 1 5,ql 67 1 66,qz 68 67,qi 69 0]
@[go_sem] def c_pullback_of_r14 : LL := [qo .lss 70 69 68]
@[go_sem] def c_pullback_of_r15 : LL := [qd 71 2 67 69,qL 72 2 71,qa 9 [.int .i64 (0),.int .i64 (0)],qs 2 9 72]
@[go_sem] def c_pullback_of_r16 : LL := [qf 73 0 1,qf 74 1 73,ql 75 1 74,qf 76 0 9,ql 77 1 76,qd 78 3 75 77,qL 79 3 78,qf 80 2 1,qf 81 1 80,ql 82 1 81,qf 83 1 9,ql 84 1 83,qd 85 3 82 84,qL 86 3 85,
 qa 10 [.int .i64 (0),.int .i64 (0),.int .i64 (0)],qa 11 [.int .i64 (0),.int .i64 (0),.int .i64 (0)],qs 3 10 79,qs 3 11 86]
@[go_sem] def c_pullback_of_r17 (F : Fn) : LL := [qf 87 2 5,qf 88 1 87,ql 89 1 88,qf 90 0 10,ql 91 1 90,qf 92 0 5,ql 93 1 92,qf 94 1 10,ql 95 1 94,qf 96 1 11,ql 97 1 96,
 qu 98 [.int .i64 (0),.int .i64 (0)] [(0,1,.t 95),(1,1,.t 97)],qc 99 (F "slices.Index.apiPair") [.t 93,.t 98],qf 100 0 5,ql 101 1 100,qf 102 2 10,ql 103 1 102,qf 104 2 11,ql 105 1 104,
 qu 106 [.int .i64 (0),.int .i64 (0)] [(0,1,.t 103),(1,1,.t 105)],qc 107 (F "slices.Index.apiPair") [.t 101,.t 106],
 qu 108 [.int .i64 (0),.int .i64 (0),.int .i64 (0)] [(0,1,.t 91),(1,1,.t 99),(2,1,.t 107)],
 ⟨some 109,.buildSl 3 24 (.agg [.int .i64 (0),.int .i64 (0),.int .i64 (0)]) 1 [(0,.t 108)],none⟩,qp 110 3 24 89 109,qf 111 2 5,qf 112 1 111,qs 1 112 110]
@[go_sem] def c_pullback_of_r18 : LL := [qk .add 113 69 1,qm 69 113]
def c_pullback_of_b19 (F : Fn) : LC := (.seq (.reg c_pullback_of_r14 [1,2,5,67,68,69,70]) (.seq (.cond (.t 70) .skip (.exit 2)) (.seq (.block 3 (.seq (.reg c_pullback_of_r15 [1,2,5,9,67,68,69]) (.seq (.dreg [(9,none,[],true),(11,none,[],true),(12,none,[],true),(13,none,[],true),(16,none,[9,11,12,13],false)] c_pullback_of_r16 [1,2,5,10,11,67,68,69]) (.dreg [(2,none,[],true),(4,none,[],true),(12,none,[2,4],true),(14,(some 8192),[12],false),(16,(some 32768),[12],false),(18,(some 131072),[12],false),(20,none,[2,4],false),(22,none,[2],false)] (c_pullback_of_r17 F) [1,2,5,67,68,69])))) (.reg c_pullback_of_r18 [1,2,5,67,68,69]))))
@[go_sem] def c_pullback_of_r20 : LL := [qL 114 4 5,qs 4 2 114,qi 3 0]
@[go_sem] def c_pullback_of (F : Fn) : LC := (.seq (.reg c_pullback_of_r0 [1,2]) (.seq (.seq (.reg (c_pullback_of_r1 F) [1,2,4]) (.seq (.reg c_pullback_of_r2 [1,2,4,15]) (.cond (.t 15) (.seq (.reg c_pullback_of_r3 [2,3]) .ret) .skip))) (.seq (.dreg [(6,none,[],true),(9,(some 384),[6],false),(12,(some 3072),[6],false)] (c_pullback_of_r4 F) [1,2,5]) (.seq (.seq (.reg c_pullback_of_r5 [1,2,5,42]) (.cond (.t 42) (.seq (.reg c_pullback_of_r6 [2,3]) .ret) .skip)) (.seq (.seq (.reg c_pullback_of_r7 [1,2,5,45,46,47]) (.block 0 (.loop [1,2,5,45,46,47] c_pullback_of_b12))) (.seq (.seq (.reg c_pullback_of_r13 [1,2,5,67,68,69]) (.block 2 (.loop [1,2,5,67,68,69] (c_pullback_of_b19 F)))) (.seq (.reg c_pullback_of_r20 [2,3]) .ret)))))))
def h_pullback_of : Hints := hOf [] (c_pullback_of fun _ => 0)
@[go_sem] def c_pullback_Of_r0 : LL := [qB 1 0,qa 2 [.nl 1,.nl 3],qa 3 [.nl 1,.nl 1],qa 4 [.nl 1,.nl 1],qi 5 0]
@[go_sem] def c_pullback_Of_r1 (F : Fn) : LL := [qL 11 10 1,qc 12 (F "pullback.of") [.t 11],qm 10 12,qx 13 10 0,qx 14 10 1,qa 6 [.nl 2,.nl 2,.nl 1,.nl 3],qs 4 6 13,qm 7 14]
@[go_sem] def c_pullback_Of_r2 : LL := [qm 15 7,qk .neq 16 15 0]
@[go_sem] def c_pullback_Of_r3 : LL := [qu 17 [.nl 1,.nl 3] [],qu 18 [.nl 1,.nl 1] [],qu 19 [.nl 1,.nl 1] [],qm 20 7,qs 2 2 17,qs 2 3 18,qs 2 4 19,qm 5 20]
@[go_sem] def c_pullback_Of_r4 : LL := [qa 8 [.nl 1,.nl 1],qa 9 [.nl 1,.nl 1]]
@[go_sem] def c_pullback_Of_r5 (F : Fn) : LL := [qf 22 0 6,ql 23 1 22,qc 24 (F "pullback.sides") [.t 23],qm 21 24,qx 25 21 0,qx 26 21 1,qf 27 0 8,qs 1 27 25,qf 28 0 9,qs 1 28 26]
@[go_sem] def c_pullback_Of_r6 (F : Fn) : LL := [qf 30 1 6,ql 31 1 30,qc 32 (F "pullback.sides") [.t 31],qm 29 32,qx 33 29 0,qx 34 29 1,qf 35 1 8,qs 1 35 33,qf 36 1 9,qs 1 36 34]
@[go_sem] def c_pullback_Of_r7 : LL := [qf 37 2 6,qL 38 2 37,qL 39 2 8,qL 40 2 9,qs 2 2 38,qs 2 3 39,qs 2 4 40,qi 5 0]
@[go_sem] def c_pullback_Of (F : Fn) : LC := (.seq (.reg c_pullback_Of_r0 [1,2,3,4]) (.seq (.reg (c_pullback_Of_r1 F) [2,3,4,6,7]) (.seq (.seq (.reg c_pullback_Of_r2 [2,3,4,6,7,16]) (.cond (.t 16) (.seq (.reg c_pullback_Of_r3 [2,3,4,5]) .ret) .skip)) (.seq (.reg c_pullback_Of_r4 [2,3,4,6,8,9]) (.seq (.reg (c_pullback_Of_r5 F) [2,3,4,6,8,9]) (.seq (.reg (c_pullback_Of_r6 F) [2,3,4,6,8,9]) (.seq (.dreg [(2,none,[],true),(3,none,[],true),(4,none,[2,3],false),(5,none,[3],false)] c_pullback_Of_r7 [2,3,4,5]) .ret)))))))
def h_pullback_Of : Hints := hOf [] (c_pullback_Of fun _ => 0)
@[go_sem] def c_pullback_meet_r0 : LL := [qn 6 1,qb 7 false]
@[go_sem] def c_pullback_meet_r1 : LL := [qn 8 1]
@[go_sem] def c_pullback_meet_r2 : LL := [qm 11 1,qz 12 11,qi 13 0]
@[go_sem] def c_pullback_meet_r3 : LL := [qo .lss 14 13 12]
@[go_sem] def c_pullback_meet_r4 : LL := [qm 15 13,qm 9 15]
@[go_sem] def c_pullback_meet_r5 (F : Fn) : LL := [qm 16 0,qm 17 1,qm 18 9,qd 19 1 17 18,ql 20 1 19,qm 21 2,qm 22 9,qd 23 1 21 22,ql 24 1 23,qu 25 [.int .i64 (0),.int .i64 (0)] [(0,1,.t 20),(1,1,.t 24)],
 qc 26 (F "slices.Index.apiPair") [.t 16,.t 25],qm 10 26]
@[go_sem] def c_pullback_meet_r6 : LL := [qm 27 10,qk .lss 28 27 0]
@[go_sem] def c_pullback_meet_r7 : LL := [qn 6 1,qb 7 false]
@[go_sem] def c_pullback_meet_r8 : LL := [qm 29 8,qm 30 10,⟨some 31,.buildSl 1 8 (.int .i64 (0)) 1 [(0,.t 30)],none⟩,qp 32 1 8 29 31,qm 8 32]
@[go_sem] def c_pullback_meet_r9 : LL := [qk .add 33 13 1,qm 13 33]
def c_pullback_meet_b10 (F : Fn) : LC := (.seq (.reg c_pullback_meet_r3 [0,1,2,8,12,13,14]) (.seq (.cond (.t 14) .skip (.exit 0)) (.seq (.block 1 (.seq (.reg c_pullback_meet_r4 [0,1,2,8,9,12,13]) (.seq (.dreg [] (c_pullback_meet_r5 F) [0,1,2,8,10,12,13]) (.seq (.seq (.reg c_pullback_meet_r6 [0,1,2,8,10,12,13,28]) (.cond (.t 28) (.seq (.reg c_pullback_meet_r7 [6,7]) .ret) .skip)) (.reg c_pullback_meet_r8 [0,1,2,8,12,13]))))) (.reg c_pullback_meet_r9 [0,1,2,8,12,13]))))
@[go_sem] def c_pullback_meet_r11 : LL := [qm 34 8,qm 6 34,qb 7 true]
@[go_sem] def c_pullback_meet (F : Fn) : LC := (.seq (.reg c_pullback_meet_r0 [0,1,2]) (.seq (.reg c_pullback_meet_r1 [0,1,2,8]) (.seq (.seq (.reg c_pullback_meet_r2 [0,1,2,8,12,13]) (.block 0 (.loop [0,1,2,8,12,13] (c_pullback_meet_b10 F)))) (.seq (.reg c_pullback_meet_r11 [6,7]) .ret))))
def h_pullback_meet : Hints := hOf [] (c_pullback_meet fun _ => 0)
@[go_sem] def c_pullback_Mediate_r0 : LL := [qB 4 0,qB 5 1,qB 6 2,qB 7 3,qa 8 [.nl 1,.nl 1],qi 9 0]
@[go_sem] def c_pullback_Mediate_r1 (F : Fn) : LL := [qL 17 10 4,qc 18 (F "pullback.of") [.t 17],qm 16 18,qx 19 16 0,qx 20 16 1,qa 10 [.nl 2,.nl 2,.nl 1,.nl 3],qs 4 10 19,qm 11 20]
@[go_sem] def c_pullback_Mediate_r2 : LL := [qm 21 11,qk .eql 22 21 0]
@[go_sem] def c_pullback_Mediate_r3 (F : Fn) : LL := [qL 23 2 5,qf 24 0 4,qL 25 2 24,qL 26 2 6,qc 27 (F "morphism.Valid") [.t 23,.t 25,.t 26],qm 11 27]
@[go_sem] def c_pullback_Mediate_r4 : LL := [qm 28 11,qk .eql 29 28 0]
@[go_sem] def c_pullback_Mediate_r5 (F : Fn) : LL := [qL 30 2 5,qf 31 2 4,qL 32 2 31,qL 33 2 7,qc 34 (F "morphism.Valid") [.t 30,.t 32,.t 33],qm 11 34]
@[go_sem] def c_pullback_Mediate_r6 : LL := [qm 35 11,qk .neq 36 35 0]
@[go_sem] def c_pullback_Mediate_r7 : LL := [qu 37 [.nl 1,.nl 1] [],qm 38 11,qs 2 8 37,qm 9 38]
@[go_sem] def c_pullback_Mediate_r8 (F : Fn) : LL := [qf 40 0 10,ql 41 1 40,qf 42 0 6,ql 43 1 42,qf 44 0 7,ql 45 1 44,qc 46 (F "pullback.meet") [.t 41,.t 43,.t 45],qm 39 46,qx 47 39 0,qx 48 39 1,qm 12 47,qm 13 48]
@[go_sem] def c_pullback_Mediate_r9 (F : Fn) : LL := [qf 50 1 10,ql 51 1 50,qf 52 1 6,ql 53 1 52,qf 54 1 7,ql 55 1 54,qc 56 (F "pullback.meet") [.t 51,.t 53,.t 55],qm 49 56,qx 57 49 0,qx 58 49 1,qm 14 57,qm 15 58]
@[go_sem] def c_pullback_Mediate_r10 : LL := [qm 59 13,qv 60 59,qm 61 60,qg 61 false (qm 62 15),qg 61 false (qv 63 62),qQ 64 61 63]
@[go_sem] def c_pullback_Mediate_r11 : LL := [qu 65 [.nl 1,.nl 1] [],qs 2 8 65,qi 9 11]
@[go_sem] def c_pullback_Mediate_r12 : LL := [qm 66 12,qm 67 14,qu 68 [.nl 1,.nl 1] [(0,1,.t 66),(1,1,.t 67)],qs 2 8 68,qi 9 0]
@[go_sem] def c_pullback_Mediate (F : Fn) : LC := (.seq (.reg c_pullback_Mediate_r0 [4,5,6,7,8]) (.seq (.reg (c_pullback_Mediate_r1 F) [4,5,6,7,8,10,11]) (.seq (.seq (.reg c_pullback_Mediate_r2 [4,5,6,7,8,10,11,22]) (.cond (.t 22) (.reg (c_pullback_Mediate_r3 F) [4,5,6,7,8,10,11]) .skip)) (.seq (.seq (.reg c_pullback_Mediate_r4 [4,5,6,7,8,10,11,29]) (.cond (.t 29) (.reg (c_pullback_Mediate_r5 F) [6,7,8,10,11]) .skip)) (.seq (.seq (.reg c_pullback_Mediate_r6 [6,7,8,10,11,36]) (.cond (.t 36) (.seq (.reg c_pullback_Mediate_r7 [8,9]) .ret) .skip)) (.seq (.reg (c_pullback_Mediate_r8 F) [6,7,8,10,12,13]) (.seq (.reg (c_pullback_Mediate_r9 F) [8,12,13,14,15]) (.seq (.seq (.reg c_pullback_Mediate_r10 [8,12,14,64]) (.cond (.t 64) (.seq (.reg c_pullback_Mediate_r11 [8,9]) .ret) .skip)) (.seq (.reg c_pullback_Mediate_r12 [8,9]) .ret)))))))))
def h_pullback_Mediate : Hints := hOf [] (c_pullback_Mediate fun _ => 0)
structure Cs where
 b : G
 c : G
 d : G
 f : Mo
 g : Mo
 deriving DecidableEq, Inhabited
def csD (s : Cs) : D := .agg [.lst 1 (ints s.b.n), .lst 3 (eds s.b.e), .lst 1 (ints s.c.n), .lst 3 (eds s.c.e), .lst 1 (ints s.d.n), .lst 3 (eds s.d.e), .lst 1 (ints s.f.n), .lst 1 (ints s.f.e), .lst 1 (ints s.g.n), .lst 1 (ints s.g.e)]
def givenE (s : Cs) : Int := if validM s.b s.d s.f ≠ 0 then validM s.b s.d s.f else validM s.c s.d s.g
def pbN (s : Cs) : List Pr := pairsL s.f.n s.g.n
def pbE (s : Cs) : List Pr := pairsL s.f.e s.g.e
def pbErr (s : Cs) : Int := if givenE s ≠ 0 then givenE s else if 40 < (pbN s).length ∨ 80 < (pbE s).length then 3 else 0
def pbEdge (be ce : List E) (ns : List Pr) (p : Pr) : E := ⟨(gt be p.a).t, idx (fun q => decide (q = ⟨(gt be p.a).f, (gt ce p.b).f⟩)) ns 0, idx (fun q => decide (q = ⟨(gt be p.a).o, (gt ce p.b).o⟩)) ns 0⟩
def pbG0 (s : Cs) : G := ⟨(pbN s).map fun p => gt s.b.n p.a, (pbE s).map (pbEdge s.b.e s.c.e (pbN s))⟩
def pbG (s : Cs) : G := if pbErr s = 0 then pbG0 s else g0
def pbP (s : Cs) : Mo := if pbErr s = 0 then ⟨asA (pbN s), asA (pbE s)⟩ else m0
def pbQ (s : Cs) : Mo := if pbErr s = 0 then ⟨asB (pbN s), asB (pbE s)⟩ else m0
section
variable (P : Program) (F : String → Nat)
def K_pullback_given : Prop := ∀ s : Cs, FC P (F "pullback.given") [csD s] (.int .i64 (givenE s)) []
def K_pullback_of : Prop := ∀ s : Cs, FC P (F "pullback.of") [csD s] (.tup [.agg [.arr 2 (prs (if pbErr s = 0 then pbN s else [])), .arr 2 (prs (if pbErr s = 0 then pbE s else [])), .arr 1 (ints (pbG s).n), .arr 3 (eds (pbG s).e)], .int .i64 (pbErr s)]) []
def K_pullback_Of : Prop := ∀ s : Cs, FC P (F "pullback.Of") [csD s] (.tup [gA (pbG s), mA (pbP s), mA (pbQ s), .int .i64 (pbErr s)]) []
end
section
variable {P : Program} {F : String → Nat} {α : Type}
theorem pairsI_mem {f g : List Int} {n : Nat} {p : Pr} : p ∈ pairsI f g n ↔ ∃ i k : Nat, i < n ∧ k < g.length ∧ gt f i = gt g k ∧ p = ⟨i, k⟩ := by
 simp only [pairsI, rowP, List.mem_flatMap, List.mem_range, List.mem_map, List.mem_filter, decide_eq_true_eq]
 constructor
 ·rintro ⟨i, hi, k, ⟨hk, he⟩, rfl⟩; exact ⟨i, k, hi, hk, he, rfl⟩
 ·rintro ⟨i, k, hi, hk, he, rfl⟩; exact ⟨i, hi, k, ⟨hk, he⟩, rfl⟩
theorem pairsL_mem {f g : List Int} {p : Pr} : p ∈ pairsL f g ↔ ∃ i k : Nat, i < f.length ∧ k < g.length ∧ gt f i = gt g k ∧ p = ⟨i, k⟩ := pairsI_mem
theorem pairsL_bd {f g : List Int} {p : Pr} (h : p ∈ pairsL f g) : (0 ≤ p.a ∧ p.a < f.length) ∧ (0 ≤ p.b ∧ p.b < g.length) := by
 obtain ⟨i, k, hi, hk, _, rfl⟩ := pairsL_mem.1 h
 simp only
 omega
theorem pairsL_len {f g : List Int} (hf : f.length ≤ 100) (hg : g.length ≤ 100) : (pairsL f g).length ≤ 10000 :=
 Nat.le_trans (pairsI_len f g f.length) (Nat.le_trans (Nat.mul_le_mul hf hg) (by omega))
theorem w_pullback_given (hv : K_morphism_Valid P F) (s : Cs) : W P (c_pullback_given F) (Done [.t 2] [] (.int .i64 (givenE s)) []) (init [csD s]) := by
 refine W_of ?_
 have r1 := hv s.b s.d s.f
 have r2 := hv s.c s.d s.g
 have : givenE s = if validM s.b s.d s.f ≠ 0 then validM s.b s.d s.f else validM s.c s.d s.g := rfl
 rw [this]
 generalize validM s.b s.d s.f = u at *
 generalize validM s.c s.d s.g = v at *
 simp only [gD, mD] at r1 r2
 simp (disch := omega) only [go_sem, ↓reduceIte, csD]
 refine call_by r1 ?_
 simp (disch := omega) only [go_sem, ↓reduceIte]
 refine bran_ndec (fun c => ?_) (fun c => ?_)
 ·simp (disch := omega) only [go_sem, ↓reduceIte]
  try simp [c]
 ·subst c
  simp (disch := omega) only [go_sem, ↓reduceIte]
  refine call_by r2 ?_
  simp (disch := omega) only [go_sem, ↓reduceIte]
  try simp
theorem givenE_spec {s : Cs} (h : givenE s = 0) : validM s.b s.d s.f = 0 ∧ validM s.c s.d s.g = 0 := by
 unfold givenE at h
 split at h
 ·rename_i h1; exact absurd h h1
 ·rename_i h1; exact ⟨by simpa using h1, h⟩
theorem w_pullback_of (hg : K_pullback_given P F) (hp : K_pullback_pairs P F) (hx : K_slices_Index_apiPair P F) (s : Cs) :
  W P (c_pullback_of F) (Done [.c 2 true 4, .t 3] [] (.tup [.agg [.arr 2 (prs (if pbErr s = 0 then pbN s else [])), .arr 2 (prs (if pbErr s = 0 then pbE s else [])), .arr 1 (ints (pbG s).n), .arr 3 (eds (pbG s).e)], .int .i64 (pbErr s)]) []) (init [csD s]) := by
 refine W_of ?_
 have rg := hg s
 have hs := @givenE_spec s
 have hE : pbErr s = if givenE s ≠ 0 then givenE s else if 40 < (pbN s).length ∨ 80 < (pbE s).length then 3 else 0 := rfl
 have hG : pbErr s = 0 → pbG s = ⟨(pbN s).map fun p => gt s.b.n p.a, (pbE s).map (pbEdge s.b.e s.c.e (pbN s))⟩ := fun h => by simp [pbG, h, pbG0]
 have hZ : pbErr s ≠ 0 → pbG s = g0 := fun h => by simp [pbG, h]
 generalize pbErr s = er at *
 generalize pbG s = gg at *
 generalize givenE s = ge at *
 simp only [csD] at rg
 simp (disch := omega) only [go_sem, ↓reduceIte, csD]
 refine call_by rg ?_
 simp (disch := omega) only [go_sem, ↓reduceIte]
 refine bran_ndec (fun c => ?_) (fun c => ?_)
 ·rw [if_pos c] at hE
  have hne : ¬ (er = 0) := by omega
  simp (disch := omega) only [go_sem, ↓reduceIte]
  rw [if_neg hne, if_neg hne, hZ hne, hE]
  simp [g0, prs, ints, eds]
 ·subst c
  rw [if_neg (by simp)] at hE
  obtain ⟨v1, v2⟩ := hs rfl
  obtain ⟨a1, a2, a3, a4, _⟩ := validM_len v1
  obtain ⟨b1, b2, b3, b4, _⟩ := validM_len v2
  obtain ⟨_, _, a5, a6, _⟩ := validM_spec v1
  obtain ⟨_, _, b5, b6, _⟩ := validM_spec v2
  have r1 := hp s.f.n s.g.n (by omega) (by omega)
  have r2 := hp s.f.e s.g.e (by omega) (by omega)
  have l1 : (pbN s).length ≤ 10000 := pairsL_len (by omega) (by omega)
  have l2 : (pbE s).length ≤ 10000 := pairsL_len (by omega) (by omega)
  have m1 : ∀ p ∈ pbN s, (0 ≤ p.a ∧ p.a < s.b.n.length) := fun p hp => by have := pairsL_bd hp; omega
  have m2 : ∀ p ∈ pbE s, (0 ≤ p.a ∧ p.a < s.b.e.length) ∧ (0 ≤ p.b ∧ p.b < s.c.e.length) := fun p hp => by have := pairsL_bd hp; omega
  change FC P _ _ (.arr 2 (prs (pbN s))) _ at r1
  change FC P _ _ (.arr 2 (prs (pbE s))) _ at r2
  generalize pbN s = ns at *
  generalize pbE s = es at *
  obtain ⟨⟨bn, be⟩, ⟨cn, ce⟩, ⟨dn, de⟩, ⟨fn, fe⟩, ⟨gn, ge⟩⟩ := s
  simp only at *
  simp (disch := omega) only [go_sem, ↓reduceIte]
  refine call_by r1 ?_
  simp (disch := omega) only [go_sem, ↓reduceIte]
  refine call_by r2 ?_
  simp (disch := omega) only [go_sem, ↓reduceIte]
  have fitN : ∀ i, i ≤ ns.length → ((ns.take i).map fun p => gt bn p.a).length = i := fun i hi => by simp; omega
  have fitE : ∀ i, i ≤ es.length → ((es.take i).map (pbEdge be ce ns)).length = i := fun i hi => by simp; omega
  refine bran_dec (fun c1 => ?_) (fun c1 => ?_)
  ·rw [if_pos (by omega)] at hE
   have hne : ¬ (er = 0) := by omega
   simp (disch := omega) only [go_sem, ↓reduceIte, c1]
   rw [if_neg hne, if_neg hne, hZ hne, hE]
   simp [g0, prs, ints, eds]
  ·simp (disch := omega) only [go_sem, ↓reduceIte, c1]
   refine bran_dec (fun c2 => ?_) (fun c2 => ?_)
   ·rw [if_pos (by omega)] at hE
    have hne : ¬ (er = 0) := by omega
    simp (disch := omega) only [go_sem, ↓reduceIte, c1, c2]
    rw [if_neg hne, if_neg hne, hZ hne, hE]
    simp [g0, prs, ints, eds]
   ·rw [if_neg (by omega)] at hE
    subst hE
    rw [if_pos rfl, if_pos rfl, hG rfl]
    simp (disch := omega) only [go_sem, ↓reduceIte, c1, c2]
    refine W_loop (fun i : Nat => ⟨[(1, D.pt 0 0), (2, D.pt 5 0), (5, D.pt 10 0), (45, D.sl 6 0 ns.length), (46, D.int IntKind.i64 ns.length), (47, D.int IntKind.i64 i)],
     [(0, Ent.box [D.lst 1 (ints bn), D.lst 3 (eds be), D.lst 1 (ints cn), D.lst 3 (eds ce), D.lst 1 (ints dn), D.lst 3 (eds de), D.lst 1 (ints fn), D.lst 1 (ints fe), D.lst 1 (ints gn), D.lst 1 (ints ge)]),
      (1, Ent.arr 2 []), (2, Ent.arr 2 []), (3, Ent.arr 1 []), (4, Ent.arr 3 []), (5, Ent.box [D.sl 1 0 0, D.sl 2 0 0, D.sl 3 0 0, D.sl 4 0 0]), (6, Ent.arr 2 (prs ns)), (7, Ent.arr 2 (prs es)),
      (8, Ent.arr 1 (ints ((ns.take i).map fun p => gt bn p.a))), (9, Ent.arr 3 []), (10, Ent.box [D.sl 6 0 ns.length, D.sl 7 0 es.length, D.sl 8 0 i, D.sl 9 0 0])], 11⟩) (fun i => i ≤ ns.length) (fun i => ns.length - i) 0 ?_ ?_ ?_
    ·simp (disch := omega) only [go_sem, ↓reduceIte]
     rfl
    ·simp
    ·intro i hi
     have e1 := fitN i hi
     simp (disch := omega) only [go_sem, ↓reduceIte, c_pullback_of_b12]
     refine bran_dec (fun c => ?_) (fun c => ?_)
     ·have hm := m1 _ (gt_mem (l := ns) (j := i) (by omega) (by omega))
      simp (disch := omega) only [go_sem, ↓reduceIte, e1]
      exact ⟨i + 1, by rw [take_gt (by omega)]; simp, by omega, by omega⟩
     ·obtain rfl : i = ns.length := by omega
      rw [List.take_length] at e1
      simp (disch := omega) only [go_sem, ↓reduceIte, e1]
      refine W_loop (fun j : Nat => ⟨[(1, D.pt 0 0), (2, D.pt 5 0), (5, D.pt 10 0), (67, D.sl 7 0 es.length), (68, D.int IntKind.i64 es.length), (69, D.int IntKind.i64 j)],
       [(0, Ent.box [D.lst 1 (ints bn), D.lst 3 (eds be), D.lst 1 (ints cn), D.lst 3 (eds ce), D.lst 1 (ints dn), D.lst 3 (eds de), D.lst 1 (ints fn), D.lst 1 (ints fe), D.lst 1 (ints gn), D.lst 1 (ints ge)]),
        (1, Ent.arr 2 []), (2, Ent.arr 2 []), (3, Ent.arr 1 []), (4, Ent.arr 3 []), (5, Ent.box [D.sl 1 0 0, D.sl 2 0 0, D.sl 3 0 0, D.sl 4 0 0]), (6, Ent.arr 2 (prs ns)), (7, Ent.arr 2 (prs es)),
        (8, Ent.arr 1 (ints (ns.map fun p => gt bn p.a))), (9, Ent.arr 3 (eds ((es.take j).map (pbEdge be ce ns)))), (10, Ent.box [D.sl 6 0 ns.length, D.sl 7 0 es.length, D.sl 8 0 ns.length, D.sl 9 0 j])], 11⟩) (fun j => j ≤ es.length) (fun j => es.length - j) 0 ?_ ?_ ?_
      ·simp (disch := omega) only [go_sem, ↓reduceIte]
       rfl
      ·simp
      ·intro j hj
       have e2 := fitE j hj
       simp (disch := omega) only [go_sem, ↓reduceIte, c_pullback_of_b19]
       refine bran_dec (fun c => ?_) (fun c => ?_)
       ·have hm := m2 _ (gt_mem (l := es) (j := j) (by omega) (by omega))
        have q1 := hx ns (gt be (gt es j).a).f (gt ce (gt es j).b).f (by unfold maxL; omega)
        have q2 := hx ns (gt be (gt es j).a).o (gt ce (gt es j).b).o (by unfold maxL; omega)
        simp (disch := omega) only [go_sem, ↓reduceIte, e2]
        refine call_by q1 ?_
        simp (disch := omega) only [go_sem, ↓reduceIte, e2]
        refine call_by q2 ?_
        simp (disch := omega) only [go_sem, ↓reduceIte, e2]
        exact ⟨j + 1, by rw [take_gt (by omega)]; simp [pbEdge], by omega, by omega⟩
       ·obtain rfl : j = es.length := by omega
        rw [List.take_length] at e2
        simp (disch := omega) only [go_sem, ↓reduceIte, e1, e2]
        try rfl
end
section
variable {P : Program} {F : String → Nat} {α : Type}
theorem pbN_len {s : Cs} (h : pbErr s = 0) : (pbN s).length ≤ 40 ∧ (pbE s).length ≤ 80 ∧ givenE s = 0 := by
 unfold pbErr at h
 split at h
 ·rename_i h1; exact absurd h h1
 ·rename_i h1
  split at h
  ·cases h
  ·rename_i h2
   exact ⟨by omega, by omega, by simpa using h1⟩
theorem w_pullback_Of (ho : K_pullback_of P F) (hs : K_pullback_sides P F) (s : Cs) : W P (c_pullback_Of F) (Done [.c 2 true 2, .c 3 true 2, .c 4 true 2, .t 5] [] (.tup [gA (pbG s), mA (pbP s), mA (pbQ s), .int .i64 (pbErr s)]) []) (init [csD s]) := by
 refine W_of ?_
 have ro := ho s
 have hl := @pbN_len s
 have hP : pbP s = if pbErr s = 0 then ⟨asA (pbN s), asA (pbE s)⟩ else m0 := rfl
 have hQ : pbQ s = if pbErr s = 0 then ⟨asB (pbN s), asB (pbE s)⟩ else m0 := rfl
 have hZ : pbErr s ≠ 0 → pbG s = g0 := fun h => by simp [pbG, h]
 generalize pbErr s = er at *
 generalize pbG s = gg at *
 generalize pbP s = pp at *
 generalize pbQ s = qq at *
 generalize pbN s = ns at *
 generalize pbE s = es at *
 simp only [csD] at ro
 simp (disch := omega) only [go_sem, ↓reduceIte, csD]
 refine call_by ro ?_
 obtain ⟨gn, ge⟩ := gg
 simp (disch := omega) only [go_sem, ↓reduceIte]
 refine bran_ndec (fun c => ?_) (fun c => ?_)
 ·rw [if_neg c] at hP hQ
  simp (disch := omega) only [go_sem, ↓reduceIte]
  rw [hP, hQ, hZ c]
  simp [gA, mA, g0, m0, ints, eds]
 ·subst c
  obtain ⟨l1, l2, _⟩ := hl rfl
  simp only [↓reduceIte] at hP hQ ⊢
  simp (disch := omega) only [go_sem, ↓reduceIte]
  refine call_by (hs ns (by omega)) ?_
  simp (disch := omega) only [go_sem, ↓reduceIte]
  refine call_by (hs es (by omega)) ?_
  simp (disch := omega) only [go_sem, ↓reduceIte]
  rw [hP, hQ]
  simp [gA, mA, asA, asB]
end
def meetI (l : List Pr) (h k : List Int) (n : Nat) : List Int := (List.range n).map fun i : Nat => idx (fun p => decide (p = ⟨gt h i, gt k i⟩)) l 0
def meetL (l : List Pr) (h k : List Int) : List Int := meetI l h k h.length
def meetOk (l : List Pr) (h k : List Int) : Bool := (meetL l h k).all fun x => decide (0 ≤ x)
def medErr (s : Cs) (x : G) (h k : Mo) : Int := if pbErr s ≠ 0 then pbErr s else if validM x s.b h ≠ 0 then validM x s.b h else validM x s.c k
def medM (s : Cs) (x : G) (h k : Mo) : Mo × Int := if medErr s x h k ≠ 0 then (m0, medErr s x h k) else
 if meetOk (pbN s) h.n k.n = true ∧ meetOk (pbE s) h.e k.e = true then (⟨meetL (pbN s) h.n k.n, meetL (pbE s) h.e k.e⟩, 0) else (m0, 11)
def Cs.sm (s : Cs) : Prop := s.f.sm ∧ s.g.sm
section
variable (P : Program) (F : String → Nat)
def K_pullback_meet : Prop := ∀ (l : List Pr) (h k : List Int), l.length ≤ maxL → h.length ≤ 10000 → k.length = h.length → FC P (F "pullback.meet") [.lst 2 (prs l), .lst 1 (ints h), .lst 1 (ints k)] (.tup [.arr 1 (ints (if meetOk l h k = true then meetL l h k else [])), .bool (meetOk l h k)]) []
def K_pullback_Mediate : Prop := ∀ (s : Cs) (x : G) (h k : Mo), FC P (F "pullback.Mediate") [csD s, gD x, mD h, mD k] (.tup [mA (medM s x h k).1, .int .i64 (medM s x h k).2]) []
end
section
variable {P : Program} {F : String → Nat} {α : Type}
theorem meetI_zero (l : List Pr) (h k : List Int) : meetI l h k 0 = [] := rfl
theorem meetI_succ (l : List Pr) (h k : List Int) (n : Nat) : meetI l h k (n + 1) = meetI l h k n ++ [idx (fun p => decide (p = ⟨gt h n, gt k n⟩)) l 0] := by simp [meetI, List.range_succ]
theorem meetI_len (l : List Pr) (h k : List Int) (n : Nat) : (meetI l h k n).length = n := by simp [meetI]
theorem meetI_take (l : List Pr) (h k : List Int) {n m : Nat} (hn : n ≤ m) : (meetI l h k m).take n = meetI l h k n := by
 unfold meetI
 rw [← List.map_take, List.take_range]
 congr 2
 omega
theorem w_pullback_meet (hx : K_slices_Index_apiPair P F) (l : List Pr) (h k : List Int) (hl : l.length ≤ maxL) (h1 : h.length ≤ 10000) (h2 : k.length = h.length) :
  W P (c_pullback_meet F) (Done [.t 6, .t 7] [] (.tup [.arr 1 (ints (if meetOk l h k = true then meetL l h k else [])), .bool (meetOk l h k)]) []) (init [.lst 2 (prs l), .lst 1 (ints h), .lst 1 (ints k)]) := by
 refine W_of ?_
 have hll := hl
 unfold maxL at hl
 simp (disch := omega) only [go_sem, ↓reduceIte]
 refine W_loop (fun i : Nat => ⟨[(0, .lst 2 (prs l)), (1, .lst 1 (ints h)), (2, .lst 1 (ints k)), (8, .sl 0 0 i), (12, .int .i64 h.length), (13, .int .i64 i)], [(0, .arr 1 (ints (meetI l h k i)))], 1⟩)
  (fun i => i ≤ h.length ∧ ∀ x ∈ meetI l h k i, 0 ≤ x) (fun i => h.length - i) 0 ?_ ?_ ?_
 ·simp (disch := omega) only [go_sem, ↓reduceIte, meetI_zero]
  rfl
 ·simp [meetI_zero]
 ·rintro i ⟨hi, ha⟩
  have e1 := meetI_len l h k i
  simp (disch := omega) only [go_sem, ↓reduceIte, c_pullback_meet_b10]
  refine bran_dec (fun c => ?_) (fun c => ?_)
  ·have q := hx l (gt h i) (gt k i) hll
   have hs := meetI_succ l h k i
   have ht := meetI_take l h k (n := i + 1) (m := h.length) (by omega)
   generalize idx (fun p => decide (p = ⟨gt h i, gt k i⟩)) l 0 = y at *
   simp (disch := omega) only [go_sem, ↓reduceIte, e1]
   refine call_by q ?_
   simp (disch := omega) only [go_sem, ↓reduceIte, e1]
   refine bran_dec (fun d => ?_) (fun d => ?_)
   ·have hno : meetOk l h k = false := by
     rw [← Bool.not_eq_true, meetOk, List.all_eq_true]
     intro hall
     have hm : y ∈ meetL l h k := by
      have : y ∈ (meetI l h k h.length).take (i + 1) := by rw [ht, hs]; simp
      exact List.mem_of_mem_take this
     have := hall y hm
     simp at this; omega
    simp (disch := omega) only [go_sem, ↓reduceIte, e1]
    rw [hno]
    simp [ints]
   ·simp (disch := omega) only [go_sem, ↓reduceIte, e1]
    exact ⟨i + 1, by simp [hs], ⟨by omega, fun x hx => by
     rw [hs] at hx
     rcases List.mem_append.1 hx with hx | hx
     ·exact ha x hx
     ·simp at hx; omega⟩, by omega⟩
  ·obtain rfl : i = h.length := by omega
   have hyes : meetOk l h k = true := by
    rw [meetOk, List.all_eq_true]
    intro x hx
    simpa using ha x hx
   simp (disch := omega) only [go_sem, ↓reduceIte, e1]
   rw [hyes]
   simp [meetL]
theorem w_pullback_Mediate (ho : K_pullback_of P F) (hv : K_morphism_Valid P F) (hm : K_pullback_meet P F) (s : Cs) (x : G) (h k : Mo) :
  W P (c_pullback_Mediate F) (Done [.c 8 true 2, .t 9] [] (.tup [mA (medM s x h k).1, .int .i64 (medM s x h k).2]) []) (init [csD s, gD x, mD h, mD k]) := by
 refine W_of ?_
 have ro := ho s
 have r1 := hv x s.b h
 have r2 := hv x s.c k
 have hl := @pbN_len s
 have hl1 := @validM_len x s.b h
 have hs1 := @validM_spec x s.b h
 have hs2 := @validM_spec x s.c k
 have hmd : medM s x h k = if medErr s x h k ≠ 0 then (m0, medErr s x h k) else
  if meetOk (pbN s) h.n k.n = true ∧ meetOk (pbE s) h.e k.e = true then (⟨meetL (pbN s) h.n k.n, meetL (pbE s) h.e k.e⟩, 0) else (m0, 11) := rfl
 have hE : medErr s x h k = if pbErr s ≠ 0 then pbErr s else if validM x s.b h ≠ 0 then validM x s.b h else validM x s.c k := rfl
 generalize medErr s x h k = er at *
 generalize medM s x h k = md at *
 generalize pbErr s = e0 at *
 generalize validM x s.b h = e1 at *
 generalize validM x s.c k = e2 at *
 generalize pbN s = ns at *
 generalize pbE s = es at *
 generalize pbG s = gg at *
 obtain ⟨⟨bn, be⟩, ⟨cn, ce⟩, ⟨dn, de⟩, ⟨fn, fe⟩, ⟨gn, ge⟩⟩ := s
 obtain ⟨xn, xe⟩ := x
 obtain ⟨hn, he⟩ := h
 obtain ⟨kn, ke⟩ := k
 obtain ⟨ggn, gge⟩ := gg
 simp only [csD, gD, mD] at ro r1 r2 ⊢
 simp (disch := omega) only [go_sem, ↓reduceIte]
 refine call_by ro ?_
 simp (disch := omega) only [go_sem, ↓reduceIte]
 refine bran_dec (fun c => ?_) (fun c => ?_)
 ·subst c
  rw [if_neg (by simp)] at hE
  obtain ⟨p1, p2, _⟩ := hl rfl
  rw [if_pos rfl, if_pos rfl] at *
  simp (disch := omega) only [go_sem, ↓reduceIte]
  refine call_by r1 ?_
  simp (disch := omega) only [go_sem, ↓reduceIte]
  refine bran_dec (fun c => ?_) (fun c => ?_)
  ·subst c
   rw [if_neg (by simp)] at hE
   subst hE
   obtain ⟨q1, q2, _⟩ := hl1 rfl
   obtain ⟨_, _, q3, q4, _⟩ := hs1 rfl
   simp (disch := omega) only [go_sem, ↓reduceIte]
   refine call_by r2 ?_
   simp (disch := omega) only [go_sem, ↓reduceIte]
   refine bran_ndec (fun c => ?_) (fun c => ?_)
   ·rw [if_pos c] at hmd
    subst hmd
    simp (disch := omega) only [go_sem, ↓reduceIte]
    simp [m0, mA, ints]
   ·subst c
    rw [if_neg (by simp)] at hmd
    obtain ⟨_, _, q5, q6, _⟩ := hs2 rfl
    simp only at q1 q2 q3 q4 q5 q6 hmd
    have t1 := hm ns hn kn (by unfold maxL; omega) (by omega) (by omega)
    have t2 := hm es he ke (by unfold maxL; omega) (by omega) (by omega)
    generalize meetOk ns hn kn = o1 at *
    generalize meetOk es he ke = o2 at *
    generalize meetL ns hn kn = l1 at *
    generalize meetL es he ke = l2 at *
    simp (disch := omega) only [go_sem, ↓reduceIte]
    refine call_by t1 ?_
    simp (disch := omega) only [go_sem, ↓reduceIte]
    refine call_by t2 ?_
    cases o1
    ·rw [if_neg (by simp)] at hmd
     subst hmd
     simp (disch := omega) only [go_sem, ↓reduceIte]
     simp [m0, mA, ints]
    ·cases o2
     ·rw [if_neg (by simp)] at hmd
      subst hmd
      simp (disch := omega) only [go_sem, ↓reduceIte]
      simp [m0, mA, ints]
     ·rw [if_pos (by simp)] at hmd
      subst hmd
      simp (disch := omega) only [go_sem, ↓reduceIte, mA]
      try simp
  ·rw [if_pos c] at hE
   subst hE
   rw [if_pos c] at hmd
   subst hmd
   simp (disch := omega) only [go_sem, ↓reduceIte, c]
   simp [m0, mA, ints]
 ·rw [if_pos c] at hE
  subst hE
  rw [if_pos c] at hmd
  subst hmd
  simp (disch := omega) only [go_sem, ↓reduceIte, c]
  simp [m0, mA, ints]
end
@[go_sem] def c_pullback_Check_r0 : LL := [qB 4 0,qB 5 1,qB 6 2,qB 7 3,qb 8 false]
@[go_sem] def c_pullback_Check_r1 (F : Fn) : LL := [qL 13 10 4,qL 14 2 5,qL 15 2 6,qL 16 2 7,qc 17 (F "pullback.Mediate") [.t 13,.t 14,.t 15,.t 16],qm 12 17,qx 18 12 0,qx 19 12 1,qa 9 [.nl 1,.nl 1],qs 2 9 18,qm 10 19]
@[go_sem] def c_pullback_Check_r2 : LL := [qm 20 10,qk .neq 21 20 0]
@[go_sem] def c_pullback_Check_r3 : LL := [qb 8 false]
@[go_sem] def c_pullback_Check_r4 (F : Fn) : LL := [qL 23 10 4,qc 24 (F "pullback.of") [.t 23],qm 22 24,qx 25 22 0,qx 26 22 1,qa 11 [.nl 2,.nl 2,.nl 1,.nl 3],qs 4 11 25,qm 10 26]
@[go_sem] def c_pullback_Check_r5 (F : Fn) : LL := [qm 27 10,qk .eql 28 27 0,qm 29 28,qg 29 true (qL 30 2 5),qg 29 true (qf 31 2 11),qg 29 true (qL 32 2 31),qg 29 true (qL 33 2 9),qg 29 true (qc 34 (F "morphism.Injective") [.t 30,.t 32,.t 33]),
 qP 35 29 34,qm 36 35,qg 36 true (qL 37 2 5),qg 36 true (qf 38 2 11),qg 36 true (qL 39 2 38),qg 36 true (qL 40 2 9),qg 36 true (qc 41 (F "morphism.Surjective") [.t 37,.t 39,.t 40]),qP 42 36 41,qm 8 42]
@[go_sem] def c_pullback_Check (F : Fn) : LC := (.seq (.reg c_pullback_Check_r0 [4,5,6,7]) (.seq (.reg (c_pullback_Check_r1 F) [4,5,9,10]) (.seq (.seq (.reg c_pullback_Check_r2 [4,5,9,21]) (.cond (.t 21) (.seq (.reg c_pullback_Check_r3 [8]) .ret) .skip)) (.seq (.reg (c_pullback_Check_r4 F) [5,9,10,11]) (.seq (.reg (c_pullback_Check_r5 F) [8]) .ret)))))
def h_pullback_Check : Hints := hOf [] (c_pullback_Check fun _ => 0)
def checkM (s : Cs) (a : G) (h k : Mo) : Bool := decide ((medM s a h k).2 = 0) && (injM a (pbG s) (medM s a h k).1 && surM a (pbG s) (medM s a h k).1)
section
variable (P : Program) (F : String → Nat)
def K_pullback_Check : Prop := ∀ (s : Cs) (x : G) (h k : Mo), FC P (F "pullback.Check") [csD s, gD x, mD h, mD k] (.bool (checkM s x h k)) []
end
section
variable {P : Program} {F : String → Nat} {α : Type}
end
section
variable (P : Program) (F : String → Nat)
end
section
variable {P : Program} {F : String → Nat} {α : Type}
theorem w_pullback_Check (hm : K_pullback_Mediate P F) (ho : K_pullback_of P F) (hi : K_morphism_Injective P F) (hj : K_morphism_Surjective P F) (s : Cs) (x : G) (h k : Mo) :
  W P (c_pullback_Check F) (Done [.t 8] [] (.bool (checkM s x h k)) []) (init [csD s, gD x, mD h, mD k]) := by
 refine W_of ?_
 have r1 := hm s x h k
 have r2 := ho s
 have hc : checkM s x h k = (decide ((medM s x h k).2 = 0) && (injM x (pbG s) (medM s x h k).1 && surM x (pbG s) (medM s x h k).1)) := rfl
 have hp : (medM s x h k).2 = 0 → pbErr s = 0 := by
  unfold medM
  split
  ·rename_i h1; intro h2; exact absurd h2 h1
  ·rename_i h1
   intro _
   have h1 := Decidable.not_not.1 h1
   unfold medErr at h1
   split at h1
   ·rename_i h2; exact absurd h1 h2
   ·rename_i h2; simpa using h2
 have r3 := hi x (pbG s) (medM s x h k).1
 have r4 := hj x (pbG s) (medM s x h k).1
 generalize injM x (pbG s) (medM s x h k).1 = b1 at *
 generalize surM x (pbG s) (medM s x h k).1 = b2 at *
 generalize checkM s x h k = cm at *
 generalize medM s x h k = md at *
 generalize pbErr s = e0 at *
 generalize pbG s = gg at *
 generalize pbN s = ns at *
 generalize pbE s = es at *
 obtain ⟨⟨mn, me⟩, er⟩ := md
 obtain ⟨ggn, gge⟩ := gg
 simp only [csD, gD, mD, mA] at *
 subst hc
 simp (disch := omega) only [go_sem, ↓reduceIte]
 refine call_by r1 ?_
 simp (disch := omega) only [go_sem, ↓reduceIte]
 refine bran_ndec (fun c => ?_) (fun c => ?_)
 ·simp (disch := omega) only [go_sem, ↓reduceIte, c]
  try simp
 ·subst c
  have hp := hp rfl
  subst hp
  simp (disch := omega) only [go_sem, ↓reduceIte]
  refine call_by r2 ?_
  simp (disch := omega) only [go_sem, ↓reduceIte]
  refine call_by r3 ?_
  cases b1
  ·simp (disch := omega) only [go_sem, ↓reduceIte]
   try simp
  ·simp (disch := omega) only [go_sem, ↓reduceIte]
   refine call_by r4 ?_
   simp (disch := omega) only [go_sem, ↓reduceIte]
   try simp
end
end Go.Am
