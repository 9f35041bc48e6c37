/- Images of graphs by numbers: what they are, and that they are morphisms. -/
/- Images of graphs by numbers: the reference's functions. -/
import Derived.Test.YtoeomfoohdheoaaSkZ
namespace Go.Am
open Go
set_option linter.unusedVariables false
set_option linter.unusedSimpArgs false
def codeL (l : List Int) : List Int := if l = [] then [0] else l
def mergeL (p : List Int) (a b : Int) : List Int := p.map fun k => if k = max (gt p a) (gt p b) then min (gt p a) (gt p b) else k
def keyI (c : List Int) (i : Nat) : Int := (gt c ((i : Int).tmod c.length)).tmod ((i : Int) + 1)
def part (g : G) (c : List Int) : Nat → List Int
  | 0 => nums 0 g.n.length
  | k + 1 => if keyI c (k + 1) < ((k + 1 : Nat) : Int) ∧ gt g.n (keyI c (k + 1)) = gt g.n ((k + 1 : Nat) : Int) then mergeL (part g c k) (keyI c (k + 1)) ((k + 1 : Nat) : Int) else part g c k
def quo (p : List Int) : Nat → List Int × Nat
  | 0 => ([], 0)
  | i + 1 => if gt p i = i then ((quo p i).1 ++ [((quo p i).2 : Int)], (quo p i).2 + 1) else ((quo p i).1 ++ [gt (quo p i).1 (gt p i)], (quo p i).2)
def outN (g : G) (q : List Int) (n : Nat) : Nat → List Int
  | 0 => List.replicate n 0
  | i + 1 => (outN g q n i).set (gt q i).toNat (gt g.n i)
def findE (oe : List E) (x : E) (c : List Int) (i : Nat) : Nat → Int
  | 0 => -1
  | k + 1 => if gt oe k = x ∧ (gt c (((i : Int) + k).tmod c.length)).tmod 2 = 0 then k else findE oe x c i k
def imgX (g : G) (q : List Int) (i : Nat) : E := ⟨(gt g.e i).t, gt q (gt g.e i).f, gt q (gt g.e i).o⟩
def imgE (g : G) (q c : List Int) : Nat → List E × List Int
  | 0 => ([], [])
  | i + 1 => if findE (imgE g q c i).1 (imgX g q i) c i (imgE g q c i).1.length < 0 then ((imgE g q c i).1 ++ [imgX g q i], (imgE g q c i).2 ++ [((imgE g q c i).1.length : Int)])
      else ((imgE g q c i).1, (imgE g q c i).2 ++ [findE (imgE g q c i).1 (imgX g q i) c i (imgE g q c i).1.length])
def imgP (g : G) (l : List Int) : List Int := part g (codeL l) (g.n.length - 1)
def imgQ (g : G) (l : List Int) : List Int := (quo (imgP g l) g.n.length).1
def imgC (g : G) (l : List Int) : Nat := (quo (imgP g l) g.n.length).2
def imG (g : G) (l : List Int) : G := ⟨outN g (imgQ g l) (imgC g l) g.n.length, (imgE g (imgQ g l) (codeL l) g.e.length).1⟩
def imMo (g : G) (l : List Int) : Mo := ⟨imgQ g l, (imgE g (imgQ g l) (codeL l) g.e.length).2⟩
section
theorem gt_appS {α : Type} [Inhabited α] {l : List α} {x : α} {i : Nat} (h : i < l.length) : gt (l ++ [x]) (i : Int) = gt l i := by
  rw [gt_nat (by simp; omega), gt_nat h, List.getElem_append_left h]
theorem gt_lastS {α : Type} [Inhabited α] {l : List α} {x : α} {i : Nat} (h : i = l.length) : gt (l ++ [x]) (i : Int) = x := by
  subst h
  rw [gt_nat (by simp)]; simp
theorem codeL_len (l : List Int) : 0 < (codeL l).length := by
  unfold codeL
  split
  · simp
  · rename_i h; exact List.length_pos_iff.2 h
theorem codeL_ok {l : List Int} (h : ∀ v ∈ l, Byte v) : ∀ v ∈ codeL l, Byte v := by
  unfold codeL
  split
  · intro v hv; simp at hv; subst hv; unfold Byte; omega
  · exact h
theorem key_bd {c : List Int} (hl : 0 < c.length) (hc : ∀ v ∈ c, Byte v) (i : Nat) : 0 ≤ keyI c i ∧ keyI c i ≤ i := by
  unfold keyI
  have h1 := tmod_bd (x := (i : Int)) (m := (c.length : Int)) (by omega) (by omega)
  have h2 := hc _ (gt_mem (l := c) h1.1 h1.2)
  have h3 := tmod_bd (x := gt c ((i : Int).tmod c.length)) (m := (i : Int) + 1) h2.1 (by omega)
  omega
/-- A partition into elements of the same type. -/
structure PV (g : G) (p : List Int) : Prop where
  l : p.length = g.n.length
  h : ∀ i : Nat, i < g.n.length → (0 ≤ gt p i ∧ gt p i ≤ i) ∧ gt p (gt p i) = gt p i ∧ gt g.n (gt p i) = gt g.n i
theorem merge_len (p : List Int) (a b : Int) : (mergeL p a b).length = p.length := by simp [mergeL]
theorem PV.merge {g : G} {p : List Int} (hp : PV g p) {a b : Nat} (ha : a < g.n.length) (hb : b < g.n.length) (he : gt g.n a = gt g.n b) : PV g (mergeL p a b) := by
  obtain ⟨hl, h⟩ := hp
  obtain ⟨a1, a2, a3⟩ := h a ha
  obtain ⟨b1, b2, b3⟩ := h b hb
  have hg : ∀ i : Nat, i < g.n.length → gt (mergeL p a b) i = if gt p i = max (gt p a) (gt p b) then min (gt p a) (gt p b) else gt p i := fun i hi => by
    unfold mergeL
    rw [gt_nat (by simp; omega), gt_nat (l := p) (i := i) (by omega)]
    simp
  have hlo : gt p (min (gt p a) (gt p b)) = min (gt p a) (gt p b) ∧ (0 ≤ min (gt p a) (gt p b) ∧ min (gt p a) (gt p b) < g.n.length) ∧ gt g.n (min (gt p a) (gt p b)) = gt g.n (max (gt p a) (gt p b)) := by
    by_cases c : gt p a ≤ gt p b
    · rw [Int.min_eq_left c, Int.max_eq_right c]
      exact ⟨a2, by omega, by rw [a3, b3, he]⟩
    · rw [Int.min_eq_right (by omega), Int.max_eq_left (by omega)]
      exact ⟨b2, by omega, by rw [a3, b3, he]⟩
  have hle : min (gt p a) (gt p b) ≤ max (gt p a) (gt p b) := by omega
  generalize min (gt p a) (gt p b) = lo at *
  generalize max (gt p a) (gt p b) = hi at *
  obtain ⟨l1, l2, l3⟩ := hlo
  obtain ⟨k, hk⟩ : ∃ k : Nat, lo = k := ⟨lo.toNat, by omega⟩
  refine ⟨by rw [merge_len, hl], fun i hi' => ?_⟩
  obtain ⟨c1, c2, c3⟩ := h i hi'
  rw [hg i hi']
  by_cases c : gt p i = hi
  · rw [if_pos c]
    refine ⟨by omega, ?_, by rw [l3, ← c, c3]⟩
    rw [hk, hg k (by omega), ← hk, l1]
    split <;> rfl
  · rw [if_neg c]
    refine ⟨c1, ?_, c3⟩
    obtain ⟨m, hm⟩ : ∃ m : Nat, gt p i = m := ⟨(gt p i).toNat, by omega⟩
    rw [hm, hg m (by omega), ← hm, c2, if_neg c]
theorem nums_PV (g : G) : PV g (nums 0 g.n.length) := ⟨by rw [nums_len], fun i hi => by
  rw [nums_gt hi]
  exact ⟨by omega, nums_gt hi, rfl⟩⟩
theorem part_PV {g : G} {c : List Int} (hl : 0 < c.length) (hc : ∀ v ∈ c, Byte v) : ∀ k : Nat, k ≤ g.n.length - 1 → PV g (part g c k)
  | 0, _ => nums_PV g
  | k + 1, hk => by
    have ih := part_PV (g := g) hl hc k (by omega)
    have hb := key_bd hl hc (k + 1)
    rw [part]
    split
    · rename_i h
      obtain ⟨m, hm⟩ : ∃ m : Nat, keyI c (k + 1) = m := ⟨(keyI c (k + 1)).toNat, by omega⟩
      rw [hm] at h hb ⊢
      exact ih.merge (by omega) (by omega) h.2
    · exact ih
/-- The classes' numbers. -/
structure QV (g : G) (n : Nat) (s : List Int × Nat) : Prop where
  l : s.1.length = n
  c : s.2 ≤ n
  b : ∀ i : Nat, i < n → 0 ≤ gt s.1 i ∧ gt s.1 i < s.2
  e : ∀ i j : Nat, i < n → j < n → gt s.1 i = gt s.1 j → gt g.n i = gt g.n j
theorem quo_QV {g : G} {p : List Int} (hp : PV g p) : ∀ n : Nat, n ≤ g.n.length → QV g n (quo p n)
  | 0, _ => ⟨rfl, Nat.le_refl _, fun i hi => by omega, fun i j hi => by omega⟩
  | n + 1, hn => by
    obtain ⟨h1, h2, h3, h4⟩ := quo_QV hp n (by omega)
    obtain ⟨p1, p2, p3⟩ := hp.h n (by omega)
    rw [quo]
    generalize quo p n = s at *
    obtain ⟨q, c⟩ := s
    simp only at h1 h2 h3 h4 ⊢
    split
    · refine ⟨by simp [h1], by omega, fun i hi => ?_, fun i j hi hj he => ?_⟩
      · by_cases x : i = n
        · subst x
          simp only
          rw [gt_lastS h1.symm]; omega
        · simp only
          rw [gt_appS (by omega)]
          have := h3 i (by omega)
          omega
      · simp only at he
        by_cases x : i = n
        · by_cases y : j = n
          · rw [x, y]
          · rw [x, gt_lastS h1.symm, gt_appS (by omega)] at he
            have := h3 j (by omega)
            omega
        · by_cases y : j = n
          · rw [y, gt_lastS h1.symm, gt_appS (by omega)] at he
            have := h3 i (by omega)
            omega
          · rw [gt_appS (by omega), gt_appS (by omega)] at he
            exact h4 i j (by omega) (by omega) he
    · rename_i hne
      obtain ⟨m, hm⟩ : ∃ m : Nat, gt p n = m := ⟨(gt p n).toNat, by omega⟩
      rw [hm] at p1 p3 hne ⊢
      have hmn : m < n := by omega
      refine ⟨by simp [h1], by simp only; omega, fun i hi => ?_, fun i j hi hj he => ?_⟩
      · by_cases x : i = n
        · subst x
          simp only
          rw [gt_lastS h1.symm]; exact h3 m hmn
        · simp only
          rw [gt_appS (by omega)]
          exact h3 i (by omega)
      · simp only at he
        by_cases x : i = n
        · by_cases y : j = n
          · rw [x, y]
          · rw [x, gt_lastS h1.symm, gt_appS (by omega)] at he
            rw [x, ← p3]
            exact h4 m j hmn (by omega) he
        · by_cases y : j = n
          · rw [y, gt_lastS h1.symm, gt_appS (by omega)] at he
            rw [y, ← p3]
            exact h4 i m (by omega) hmn he
          · rw [gt_appS (by omega), gt_appS (by omega)] at he
            exact h4 i j (by omega) (by omega) he
theorem outN_len (g : G) (q : List Int) (n : Nat) : ∀ i, (outN g q n i).length = n
  | 0 => by simp [outN]
  | i + 1 => by rw [outN, List.length_set, outN_len g q n i]
theorem gt_setH {l : List Int} {k i : Nat} {v : Int} (hi : i < l.length) : gt (l.set k v) i = if k = i then v else gt l i := by
  rw [gt_nat (by simpa using hi), gt_nat hi, List.getElem_set]
theorem outN_ok {g : G} {s : List Int × Nat} {n : Nat} (hs : QV g n s) : ∀ m : Nat, m ≤ n → ∀ i : Nat, i < m → gt (outN g s.1 s.2 m) (gt s.1 i) = gt g.n i
  | 0, _, i, hi => by omega
  | m + 1, hm, i, hi => by
    obtain ⟨b1, b2⟩ := hs.b i (by omega)
    obtain ⟨b3, b4⟩ := hs.b m (by omega)
    have hl := outN_len g s.1 s.2 m
    obtain ⟨k, hk⟩ : ∃ k : Nat, gt s.1 i = k := ⟨(gt s.1 i).toNat, by omega⟩
    rw [outN, hk, gt_setH (by omega)]
    by_cases x : (gt s.1 m).toNat = k
    · rw [if_pos x]
      exact hs.e m i (by omega) (by omega) (by omega)
    · rw [if_neg x, ← hk]
      refine outN_ok hs m (by omega) i ?_
      by_cases y : i = m
      · subst y; omega
      · omega
theorem outN_in {g : G} {q : List Int} {n : Nat} (h : ∀ x ∈ g.n, okN x = true) : ∀ m : Nat, m ≤ g.n.length → ∀ x ∈ outN g q n m, okN x = true
  | 0, _, x, hx => by
    simp only [outN, List.mem_replicate] at hx
    rw [hx.2]
    decide
  | m + 1, hm, x, hx => by
    rw [outN] at hx
    rcases List.mem_or_eq_of_mem_set hx with hx | hx
    · exact outN_in h m (by omega) x hx
    · rw [hx]; exact h _ (gt_mem (by omega) (by omega))
theorem find_ok {oe : List E} {x : E} {c : List Int} {i : Nat} : ∀ k : Nat, k ≤ oe.length → findE oe x c i k < 0 ∨ ((0 ≤ findE oe x c i k ∧ findE oe x c i k < oe.length) ∧ gt oe (findE oe x c i k) = x)
  | 0, _ => .inl (by simp [findE])
  | k + 1, hk => by
    rw [findE]
    split
    · rename_i h
      exact .inr ⟨by omega, h.1⟩
    · exact find_ok k (by omega)
/-- The edges' images. -/
structure EV (g : G) (q : List Int) (c : Nat) (n : Nat) (s : List E × List Int) : Prop where
  l : s.2.length = n
  m : s.1.length ≤ n
  f : ∀ x ∈ s.1, fitsE c x = true
  b : ∀ i : Nat, i < n → (0 ≤ gt s.2 i ∧ gt s.2 i < s.1.length) ∧ gt s.1 (gt s.2 i) = imgX g q i
theorem imgE_EV {g : G} {q c : List Int} {k : Nat} (hv : validG g = 0) (hq : ∀ i : Nat, i < g.n.length → 0 ≤ gt q i ∧ gt q i < k) : ∀ n : Nat, n ≤ g.e.length → EV g q k n (imgE g q c n)
  | 0, _ => ⟨rfl, Nat.le_refl _, fun x hx => by simp [imgE] at hx, fun i hi => by omega⟩
  | n + 1, hn => by
    obtain ⟨h1, h2, h3, h4⟩ := imgE_EV (c := c) hv hq n (by omega)
    have hf := find_ok (oe := (imgE g q c n).1) (x := imgX g q n) (c := c) (i := n) (imgE g q c n).1.length (Nat.le_refl _)
    obtain ⟨t1, t2, t3⟩ := edge_fits hv (i := n) (by omega)
    have hx : fitsE k (imgX g q n) = true := by
      obtain ⟨a, ha, ha2⟩ := gtI t2
      obtain ⟨b, hb, hb2⟩ := gtI t3
      unfold imgX
      rw [ha2, hb2]
      exact fits_mk t1 (hq a ha) (hq b hb)
    rw [imgE]
    generalize imgE g q c n = s at *
    generalize findE s.1 (imgX g q n) c n s.1.length = y at *
    generalize hxx : imgX g q n = x at *
    obtain ⟨oe, me⟩ := s
    simp only at h1 h2 h3 h4 hf ⊢
    split
    · refine ⟨by simp [h1], by simp; omega, fun z hz => ?_, fun i hi => ?_⟩
      · simp only [List.mem_append, List.mem_singleton] at hz
        rcases hz with hz | rfl
        · exact h3 z hz
        · exact hx
      · simp only [List.length_append, List.length_singleton]
        by_cases c : i = n
        · rw [gt_lastS (show i = me.length by omega), gt_lastS rfl]
          refine ⟨by omega, ?_⟩
          rw [c]; exact hxx.symm
        · obtain ⟨h5, h6⟩ := h4 i (by omega)
          rw [gt_appS (show i < me.length by omega)]
          obtain ⟨a, ha, ha2⟩ := gtI h5
          rw [ha2, gt_appS ha, ← ha2]
          exact ⟨by omega, h6⟩
    · rename_i hy
      rcases hf with hf | ⟨hf, hf2⟩
      · exact absurd hf hy
      · refine ⟨by simp [h1], by simp only; omega, h3, fun i hi => ?_⟩
        simp only
        by_cases c : i = n
        · rw [gt_lastS (show i = me.length by omega)]
          refine ⟨hf, ?_⟩
          rw [hf2]
          rw [c]; exact hxx.symm
        · rw [gt_appS (show i < me.length by omega)]
          exact h4 i (by omega)
theorem img_okM {g : G} {l : List Int} (hv : validG g = 0) (hl : ∀ v ∈ l, Byte v) : MOk g (imG g l) (imMo g l) := by
  have vs := valid_spec hv
  have hp : PV g (imgP g l) := part_PV (codeL_len l) (codeL_ok hl) _ (Nat.le_refl _)
  have hq : QV g g.n.length (quo (imgP g l) g.n.length) := quo_QV hp _ (Nat.le_refl _)
  have he : EV g (imgQ g l) (imgC g l) g.e.length (imgE g (imgQ g l) (codeL l) g.e.length) := imgE_EV hv hq.b _ (Nat.le_refl _)
  have ho := outN_ok hq _ (Nat.le_refl _)
  have hlo := outN_len g (imgQ g l) (imgC g l) g.n.length
  have hc : imgC g l ≤ g.n.length := hq.c
  have hm := he.m
  refine ⟨hv, valid_mk ?_ ?_ (fun y hy => ?_) (fun y hy => ?_), ?_, ?_, fun i hi => ?_, fun i hi => ?_⟩
  · simp only [imG]; omega
  · simp only [imG]; omega
  · exact outN_in vs.2.2.1 _ (Nat.le_refl _) y hy
  · have := he.f y hy
    simp only [imG]
    rw [hlo]
    exact this
  · exact hq.l
  · exact he.l
  · simp only [imG, imMo]
    rw [hlo]
    exact ⟨hq.b i hi, ho i hi⟩
  · simp only [imG, imMo]
    obtain ⟨h1, h2⟩ := he.b i hi
    refine ⟨h1, ?_⟩
    rw [h2]
    exact ⟨rfl, rfl, rfl⟩
theorem img_sz {g : G} {l : List Int} (hl : ∀ v ∈ l, Byte v) (hv : validG g = 0) : (imgQ g l).length = g.n.length ∧ (imG g l).n.length ≤ g.n.length ∧ (imG g l).e.length ≤ g.e.length := by
  have hp : PV g (imgP g l) := part_PV (codeL_len l) (codeL_ok hl) _ (Nat.le_refl _)
  have hq : QV g g.n.length (quo (imgP g l) g.n.length) := quo_QV hp _ (Nat.le_refl _)
  have he : EV g (imgQ g l) (imgC g l) g.e.length (imgE g (imgQ g l) (codeL l) g.e.length) := imgE_EV hv hq.b _ (Nat.le_refl _)
  refine ⟨hq.l, ?_, he.m⟩
  simp only [imG]
  rw [outN_len]
  exact hq.c
end
end Go.Am
namespace Go.Am
open Go
set_option linter.unusedVariables false
set_option linter.unusedSimpArgs false
attribute [local irreducible] W
/- r06.numbers -/
def c_r06_numbers_r0 (F : String → Nat) : List LI := [⟨some 2, .mov (.k (.nl 1)), none⟩]
def c_r06_numbers_r1 (F : String → Nat) : List LI := [⟨some 5, .buildSl 1 8 (.int .i64 (0)) 0 [], none⟩,
  ⟨some 3, .mov (.t 5), none⟩]
def c_r06_numbers_r2 (F : String → Nat) : List LI := [⟨some 4, .mov (.k (.int .i64 (0))), none⟩]
def c_r06_numbers_r3 (F : String → Nat) : List LI := [⟨some 6, .mov (.t 4), none⟩,
  ⟨some 7, .mov (.t 0), none⟩,
  ⟨some 8, .len (.t 7), none⟩,
  ⟨some 9, .bin .lss (.t 6) (.t 8), none⟩]
def c_r06_numbers_r4 (F : String → Nat) : List LI := [⟨some 12, .mov (.t 3), none⟩,
  ⟨some 13, .mov (.t 0), none⟩,
  ⟨some 14, .mov (.t 4), none⟩,
  ⟨some 15, .iad 1 (.t 13) (.t 14), none⟩,
  ⟨some 16, .load false 1 (.t 15), none⟩,
  ⟨some 17, .conv .i64 (.t 16), none⟩,
  ⟨some 18, .buildSl 1 8 (.int .i64 (0)) 1 [(0, .t 17)], none⟩,
  ⟨some 19, .app 1 8 (.t 12) (.t 18), none⟩,
  ⟨some 3, .mov (.t 19), none⟩]
def c_r06_numbers_r5 (F : String → Nat) : List LI := [⟨some 10, .mov (.t 4), none⟩,
  ⟨some 11, .bin .add (.t 10) (.k (.int .i64 (1))), none⟩,
  ⟨some 4, .mov (.t 11), none⟩]
def c_r06_numbers_b6 (F : String → Nat) : LC := (.seq (.seq (.reg (c_r06_numbers_r3 F) [0, 3, 4, 9]) (.cond (.t 9) .skip (.exit 0))) (.seq (.block 1 (.reg (c_r06_numbers_r4 F) [0, 3, 4])) (.reg (c_r06_numbers_r5 F) [0, 3, 4])))
def c_r06_numbers_r7 (F : String → Nat) : List LI := [⟨some 20, .mov (.t 3), none⟩,
  ⟨some 21, .len (.t 20), none⟩,
  ⟨some 22, .bin .eql (.t 21) (.k (.int .i64 (0))), none⟩]
def c_r06_numbers_r8 (F : String → Nat) : List LI := [⟨some 23, .buildSl 1 8 (.int .i64 (0)) 1 [(0, .k (.int .i64 (0)))], none⟩,
  ⟨some 3, .mov (.t 23), none⟩]
def c_r06_numbers_r9 (F : String → Nat) : List LI := [⟨some 24, .mov (.t 3), none⟩,
  ⟨some 2, .mov (.t 24), none⟩]
def c_r06_numbers (F : String → Nat) : LC := (.seq (.reg (c_r06_numbers_r0 F) [0]) (.seq (.reg (c_r06_numbers_r1 F) [0, 3]) (.seq (.seq (.reg (c_r06_numbers_r2 F) [0, 3, 4]) (.block 0 (.loop [0, 3, 4] (c_r06_numbers_b6 F)))) (.seq (.seq (.reg (c_r06_numbers_r7 F) [3, 22]) (.cond (.t 22) (.reg (c_r06_numbers_r8 F) [3]) .skip)) (.seq (.reg (c_r06_numbers_r9 F) [2]) .ret)))))
def h_r06_numbers : Hints := ⟨[], fun _ => [], tab [(0, [0]), (1, [0, 3]), (2, [0, 3, 4]), (3, [0, 3, 4, 9]), (4, [0, 3, 4]), (5, [0, 3, 4]), (6, [3, 22]), (7, [3]), (8, [2])], tab [(3, [0, 3, 4])]⟩

/- r02.Merge -/
def c_r02_Merge_r0 (F : String → Nat) : List LI := [⟨some 6, .mov (.k (.nl 1)), none⟩]
def c_r02_Merge_r1 (F : String → Nat) : List LI := [⟨some 12, .mov (.t 0), none⟩,
  ⟨some 13, .mov (.t 1), none⟩,
  ⟨some 14, .iad 1 (.t 12) (.t 13), none⟩,
  ⟨some 15, .load false 1 (.t 14), none⟩,
  ⟨some 16, .mov (.t 0), none⟩,
  ⟨some 17, .mov (.t 2), none⟩,
  ⟨some 18, .iad 1 (.t 16) (.t 17), none⟩,
  ⟨some 19, .load false 1 (.t 18), none⟩,
  ⟨some 20, .mn [.t 15, .t 19], none⟩,
  ⟨some 21, .mov (.t 0), none⟩,
  ⟨some 22, .mov (.t 1), none⟩,
  ⟨some 23, .iad 1 (.t 21) (.t 22), none⟩,
  ⟨some 24, .load false 1 (.t 23), none⟩,
  ⟨some 25, .mov (.t 0), none⟩,
  ⟨some 26, .mov (.t 2), none⟩,
  ⟨some 27, .iad 1 (.t 25) (.t 26), none⟩,
  ⟨some 28, .load false 1 (.t 27), none⟩,
  ⟨some 29, .mx [.t 24, .t 28], none⟩,
  ⟨some 7, .mov (.t 20), none⟩,
  ⟨some 8, .mov (.t 29), none⟩]
def c_r02_Merge_r2 (F : String → Nat) : List LI := [⟨some 9, .mov (.k (.nl 1)), none⟩]
def c_r02_Merge_r3 (F : String → Nat) : List LI := [⟨some 10, .mov (.k (.int .i64 (0))), none⟩]
def c_r02_Merge_r4 (F : String → Nat) : List LI := [⟨some 30, .mov (.t 10), none⟩,
  ⟨some 31, .mov (.t 0), none⟩,
  ⟨some 32, .len (.t 31), none⟩,
  ⟨some 33, .bin .lss (.t 30) (.t 32), none⟩]
def c_r02_Merge_r5 (F : String → Nat) : List LI := [⟨some 36, .mov (.t 0), none⟩,
  ⟨some 37, .mov (.t 10), none⟩,
  ⟨some 38, .iad 1 (.t 36) (.t 37), none⟩,
  ⟨some 39, .load false 1 (.t 38), none⟩,
  ⟨some 11, .mov (.t 39), none⟩]
def c_r02_Merge_r6 (F : String → Nat) : List LI := [⟨some 40, .mov (.t 11), none⟩,
  ⟨some 41, .mov (.t 8), none⟩,
  ⟨some 42, .bin .eql (.t 40) (.t 41), none⟩]
def c_r02_Merge_r7 (F : String → Nat) : List LI := [⟨some 43, .mov (.t 7), none⟩,
  ⟨some 11, .mov (.t 43), none⟩]
def c_r02_Merge_r8 (F : String → Nat) : List LI := [⟨some 44, .mov (.t 9), none⟩,
  ⟨some 45, .mov (.t 11), none⟩,
  ⟨some 46, .buildSl 1 8 (.int .i64 (0)) 1 [(0, .t 45)], none⟩,
  ⟨some 47, .app 1 8 (.t 44) (.t 46), none⟩,
  ⟨some 9, .mov (.t 47), none⟩]
def c_r02_Merge_r9 (F : String → Nat) : List LI := [⟨some 34, .mov (.t 10), none⟩,
  ⟨some 35, .bin .add (.t 34) (.k (.int .i64 (1))), none⟩,
  ⟨some 10, .mov (.t 35), none⟩]
def c_r02_Merge_b10 (F : String → Nat) : LC := (.seq (.seq (.reg (c_r02_Merge_r4 F) [0, 7, 8, 9, 10, 33]) (.cond (.t 33) .skip (.exit 0))) (.seq (.block 1 (.seq (.reg (c_r02_Merge_r5 F) [0, 7, 8, 9, 10, 11]) (.seq (.seq (.reg (c_r02_Merge_r6 F) [0, 7, 8, 9, 10, 11, 42]) (.cond (.t 42) (.reg (c_r02_Merge_r7 F) [0, 7, 8, 9, 10, 11]) .skip)) (.reg (c_r02_Merge_r8 F) [0, 7, 8, 9, 10])))) (.reg (c_r02_Merge_r9 F) [0, 7, 8, 9, 10])))
def c_r02_Merge_r11 (F : String → Nat) : List LI := [⟨some 48, .mov (.t 9), none⟩,
  ⟨some 6, .mov (.t 48), none⟩]
def c_r02_Merge (F : String → Nat) : LC := (.seq (.reg (c_r02_Merge_r0 F) [0, 1, 2]) (.seq (.dreg [] (c_r02_Merge_r1 F) [0, 7, 8]) (.seq (.reg (c_r02_Merge_r2 F) [0, 7, 8, 9]) (.seq (.seq (.reg (c_r02_Merge_r3 F) [0, 7, 8, 9, 10]) (.block 0 (.loop [0, 7, 8, 9, 10] (c_r02_Merge_b10 F)))) (.seq (.reg (c_r02_Merge_r11 F) [6]) .ret)))))
def h_r02_Merge : Hints := ⟨[], fun _ => [], tab [(0, [0, 1, 2]), (1, [0, 7, 8]), (2, [0, 7, 8, 9]), (3, [0, 7, 8, 9, 10]), (4, [0, 7, 8, 9, 10, 33]), (5, [0, 7, 8, 9, 10]), (6, [0, 7, 8, 9, 10, 11]), (7, [0, 7, 8, 9, 10, 11, 42]), (8, [0, 7, 8, 9, 10, 11]), (9, [0, 7, 8, 9, 10]), (10, [6])], tab [(4, [0, 7, 8, 9, 10])]⟩

/- r02.Valid -/
def c_r02_Valid_r0 (F : String → Nat) : List LI := [⟨some 2, .mov (.k (.bool false)), none⟩]
def c_r02_Valid_r1 (F : String → Nat) : List LI := [⟨some 4, .mov (.t 0), none⟩,
  ⟨some 5, .len (.t 4), none⟩,
  ⟨some 6, .bin .gtr (.t 5) (.k (.int .i64 (80))), none⟩]
def c_r02_Valid_r2 (F : String → Nat) : List LI := [⟨some 2, .mov (.k (.bool false)), none⟩]
def c_r02_Valid_r3 (F : String → Nat) : List LI := [⟨some 3, .mov (.k (.int .i64 (0))), none⟩]
def c_r02_Valid_r4 (F : String → Nat) : List LI := [⟨some 7, .mov (.t 3), none⟩,
  ⟨some 8, .mov (.t 0), none⟩,
  ⟨some 9, .len (.t 8), none⟩,
  ⟨some 10, .bin .lss (.t 7) (.t 9), none⟩]
def c_r02_Valid_r5 (F : String → Nat) : List LI := [⟨some 13, .mov (.t 0), none⟩,
  ⟨some 14, .mov (.t 3), none⟩,
  ⟨some 15, .iad 1 (.t 13) (.t 14), none⟩,
  ⟨some 16, .load false 1 (.t 15), none⟩,
  ⟨some 17, .bin .lss (.t 16) (.k (.int .i64 (0))), none⟩,
  ⟨some 18, .mov (.t 17), none⟩,
  ⟨some 19, .mov (.t 0), some (18, false)⟩,
  ⟨some 20, .mov (.t 3), some (18, false)⟩,
  ⟨some 21, .iad 1 (.t 19) (.t 20), some (18, false)⟩,
  ⟨some 22, .load false 1 (.t 21), some (18, false)⟩,
  ⟨some 23, .mov (.t 3), some (18, false)⟩,
  ⟨some 24, .bin .gtr (.t 22) (.t 23), some (18, false)⟩,
  ⟨some 25, .pick (.t 18) (.k (.bool true)) (.t 24), none⟩,
  ⟨some 26, .mov (.t 25), none⟩,
  ⟨some 27, .mov (.t 0), some (26, false)⟩,
  ⟨some 28, .mov (.t 0), some (26, false)⟩,
  ⟨some 29, .mov (.t 3), some (26, false)⟩,
  ⟨some 30, .iad 1 (.t 28) (.t 29), some (26, false)⟩,
  ⟨some 31, .load false 1 (.t 30), some (26, false)⟩,
  ⟨some 32, .iad 1 (.t 27) (.t 31), some (26, false)⟩,
  ⟨some 33, .load false 1 (.t 32), some (26, false)⟩,
  ⟨some 34, .mov (.t 0), some (26, false)⟩,
  ⟨some 35, .mov (.t 3), some (26, false)⟩,
  ⟨some 36, .iad 1 (.t 34) (.t 35), some (26, false)⟩,
  ⟨some 37, .load false 1 (.t 36), some (26, false)⟩,
  ⟨some 38, .bin .neq (.t 33) (.t 37), some (26, false)⟩,
  ⟨some 39, .pick (.t 26) (.k (.bool true)) (.t 38), none⟩]
def c_r02_Valid_r6 (F : String → Nat) : List LI := [⟨some 2, .mov (.k (.bool false)), none⟩]
def c_r02_Valid_r7 (F : String → Nat) : List LI := [⟨some 11, .mov (.t 3), none⟩,
  ⟨some 12, .bin .add (.t 11) (.k (.int .i64 (1))), none⟩,
  ⟨some 3, .mov (.t 12), none⟩]
def c_r02_Valid_b8 (F : String → Nat) : LC := (.seq (.seq (.reg (c_r02_Valid_r4 F) [0, 3, 10]) (.cond (.t 10) .skip (.exit 0))) (.seq (.block 1 (.seq (.dreg [] (c_r02_Valid_r5 F) [0, 3, 39]) (.cond (.t 39) (.seq (.reg (c_r02_Valid_r6 F) [2]) .ret) .skip))) (.reg (c_r02_Valid_r7 F) [0, 3])))
def c_r02_Valid_r9 (F : String → Nat) : List LI := [⟨some 2, .mov (.k (.bool true)), none⟩]
def c_r02_Valid (F : String → Nat) : LC := (.seq (.reg (c_r02_Valid_r0 F) [0]) (.seq (.seq (.reg (c_r02_Valid_r1 F) [0, 6]) (.cond (.t 6) (.seq (.reg (c_r02_Valid_r2 F) [2]) .ret) .skip)) (.seq (.seq (.reg (c_r02_Valid_r3 F) [0, 3]) (.block 0 (.loop [0, 3] (c_r02_Valid_b8 F)))) (.seq (.reg (c_r02_Valid_r9 F) [2]) .ret))))
def h_r02_Valid : Hints := ⟨[], fun _ => [], tab [(0, [0]), (1, [0, 6]), (2, [2]), (3, [0, 3]), (4, [0, 3, 10]), (5, [0, 3]), (6, [0, 3, 39]), (7, [2]), (8, [2])], tab [(4, [0, 3])]⟩

/- r02.one -/
def c_r02_one_r0 (F : String → Nat) : List LI := [⟨some 2, .mov (.k (.int .i64 (0))), none⟩]
def c_r02_one_r1 (F : String → Nat) : List LI := [⟨some 3, .mov (.t 0), none⟩,
  ⟨some 4, .len (.t 3), none⟩,
  ⟨some 5, .bin .gtr (.t 4) (.k (.int .i64 (80))), none⟩]
def c_r02_one_r2 (F : String → Nat) : List LI := [⟨some 2, .mov (.k (.int .i64 (3))), none⟩]
def c_r02_one_r3 (F : String → Nat) : List LI := [⟨some 6, .mov (.t 0), none⟩,
  ⟨some 7, .call (F "r02.Valid") [.t 6] [], none⟩,
  ⟨some 8, .not (.t 7), none⟩]
def c_r02_one_r4 (F : String → Nat) : List LI := [⟨some 2, .mov (.k (.int .i64 (1))), none⟩]
def c_r02_one_r5 (F : String → Nat) : List LI := [⟨some 2, .mov (.k (.int .i64 (0))), none⟩]
def c_r02_one (F : String → Nat) : LC := (.seq (.reg (c_r02_one_r0 F) [0]) (.seq (.seq (.reg (c_r02_one_r1 F) [0, 5]) (.cond (.t 5) (.seq (.reg (c_r02_one_r2 F) [2]) .ret) .skip)) (.seq (.seq (.reg (c_r02_one_r3 F) [8]) (.cond (.t 8) (.seq (.reg (c_r02_one_r4 F) [2]) .ret) .skip)) (.seq (.reg (c_r02_one_r5 F) [2]) .ret))))
def h_r02_one : Hints := ⟨[], fun _ => [], tab [(0, [0]), (1, [0, 5]), (2, [2]), (3, [8]), (4, [2]), (5, [2])], tab []⟩

/- r02.Quotient -/
def c_r02_Quotient_r0 (F : String → Nat) : List LI := [⟨some 2, .mov (.k (.nl 1)), none⟩,
  ⟨some 3, .mov (.k (.int .i64 (0))), none⟩,
  ⟨some 4, .mov (.k (.int .i64 (0))), none⟩]
def c_r02_Quotient_r1 (F : String → Nat) : List LI := [⟨some 9, .mov (.t 0), none⟩,
  ⟨some 10, .call (F "r02.one") [.t 9] [], none⟩,
  ⟨some 5, .mov (.t 10), none⟩]
def c_r02_Quotient_r2 (F : String → Nat) : List LI := [⟨some 11, .mov (.t 5), none⟩,
  ⟨some 12, .bin .neq (.t 11) (.k (.int .i64 (0))), none⟩]
def c_r02_Quotient_r3 (F : String → Nat) : List LI := [⟨some 13, .mov (.t 5), none⟩,
  ⟨some 2, .mov (.k (.nl 1)), none⟩,
  ⟨some 3, .mov (.k (.int .i64 (0))), none⟩,
  ⟨some 4, .mov (.t 13), none⟩]
def c_r02_Quotient_r4 (F : String → Nat) : List LI := [⟨some 6, .mov (.k (.nl 1)), none⟩]
def c_r02_Quotient_r5 (F : String → Nat) : List LI := [⟨some 7, .mov (.k (.int .i64 (0))), none⟩]
def c_r02_Quotient_r6 (F : String → Nat) : List LI := [⟨some 8, .mov (.k (.int .i64 (0))), none⟩]
def c_r02_Quotient_r7 (F : String → Nat) : List LI := [⟨some 14, .mov (.t 8), none⟩,
  ⟨some 15, .mov (.t 0), none⟩,
  ⟨some 16, .len (.t 15), none⟩,
  ⟨some 17, .bin .lss (.t 14) (.t 16), none⟩]
def c_r02_Quotient_r8 (F : String → Nat) : List LI := [⟨some 20, .mov (.t 0), none⟩,
  ⟨some 21, .mov (.t 8), none⟩,
  ⟨some 22, .iad 1 (.t 20) (.t 21), none⟩,
  ⟨some 23, .load false 1 (.t 22), none⟩,
  ⟨some 24, .mov (.t 8), none⟩,
  ⟨some 25, .bin .eql (.t 23) (.t 24), none⟩]
def c_r02_Quotient_r9 (F : String → Nat) : List LI := [⟨some 26, .mov (.t 6), none⟩,
  ⟨some 27, .mov (.t 7), none⟩,
  ⟨some 28, .buildSl 1 8 (.int .i64 (0)) 1 [(0, .t 27)], none⟩,
  ⟨some 29, .app 1 8 (.t 26) (.t 28), none⟩,
  ⟨some 6, .mov (.t 29), none⟩]
def c_r02_Quotient_r10 (F : String → Nat) : List LI := [⟨some 30, .mov (.t 7), none⟩,
  ⟨some 31, .bin .add (.t 30) (.k (.int .i64 (1))), none⟩,
  ⟨some 7, .mov (.t 31), none⟩]
def c_r02_Quotient_r11 (F : String → Nat) : List LI := [⟨some 32, .mov (.t 6), none⟩,
  ⟨some 33, .mov (.t 6), none⟩,
  ⟨some 34, .mov (.t 0), none⟩,
  ⟨some 35, .mov (.t 8), none⟩,
  ⟨some 36, .iad 1 (.t 34) (.t 35), none⟩,
  ⟨some 37, .load false 1 (.t 36), none⟩,
  ⟨some 38, .iad 1 (.t 33) (.t 37), none⟩,
  ⟨some 39, .load false 1 (.t 38), none⟩,
  ⟨some 40, .buildSl 1 8 (.int .i64 (0)) 1 [(0, .t 39)], none⟩,
  ⟨some 41, .app 1 8 (.t 32) (.t 40), none⟩,
  ⟨some 6, .mov (.t 41), none⟩]
def c_r02_Quotient_r12 (F : String → Nat) : List LI := [⟨some 18, .mov (.t 8), none⟩,
  ⟨some 19, .bin .add (.t 18) (.k (.int .i64 (1))), none⟩,
  ⟨some 8, .mov (.t 19), none⟩]
def c_r02_Quotient_b13 (F : String → Nat) : LC := (.seq (.seq (.reg (c_r02_Quotient_r7 F) [0, 6, 7, 8, 17]) (.cond (.t 17) .skip (.exit 0))) (.seq (.block 1 (.seq (.reg (c_r02_Quotient_r8 F) [0, 6, 7, 8, 25]) (.cond (.t 25) (.seq (.reg (c_r02_Quotient_r9 F) [0, 6, 7, 8]) (.reg (c_r02_Quotient_r10 F) [0, 6, 7, 8])) (.reg (c_r02_Quotient_r11 F) [0, 6, 7, 8])))) (.reg (c_r02_Quotient_r12 F) [0, 6, 7, 8])))
def c_r02_Quotient_r14 (F : String → Nat) : List LI := [⟨some 42, .mov (.t 6), none⟩,
  ⟨some 43, .mov (.t 7), none⟩,
  ⟨some 2, .mov (.t 42), none⟩,
  ⟨some 3, .mov (.t 43), none⟩,
  ⟨some 4, .mov (.k (.int .i64 (0))), none⟩]
def c_r02_Quotient (F : String → Nat) : LC := (.seq (.reg (c_r02_Quotient_r0 F) [0]) (.seq (.seq (.reg (c_r02_Quotient_r1 F) [0, 5]) (.seq (.reg (c_r02_Quotient_r2 F) [0, 5, 12]) (.cond (.t 12) (.seq (.reg (c_r02_Quotient_r3 F) [2, 3, 4]) .ret) .skip))) (.seq (.reg (c_r02_Quotient_r4 F) [0, 6]) (.seq (.reg (c_r02_Quotient_r5 F) [0, 6, 7]) (.seq (.seq (.reg (c_r02_Quotient_r6 F) [0, 6, 7, 8]) (.block 0 (.loop [0, 6, 7, 8] (c_r02_Quotient_b13 F)))) (.seq (.reg (c_r02_Quotient_r14 F) [2, 3, 4]) .ret))))))
def h_r02_Quotient : Hints := ⟨[], fun _ => [], tab [(0, [0]), (1, [0, 5]), (2, [0, 5, 12]), (3, [2, 3, 4]), (4, [0, 6]), (5, [0, 6, 7]), (6, [0, 6, 7, 8]), (7, [0, 6, 7, 8, 17]), (8, [0, 6, 7, 8]), (9, [0, 6, 7, 8, 25]), (10, [0, 6, 7, 8]), (11, [0, 6, 7, 8]), (12, [0, 6, 7, 8]), (13, [2, 3, 4])], tab [(7, [0, 6, 7, 8])]⟩

attribute [go_sem] c_r06_numbers_r0 c_r06_numbers_r1 c_r06_numbers_r2 c_r06_numbers_r3 c_r06_numbers_r4 c_r06_numbers_r5 c_r06_numbers_r7 c_r06_numbers_r8 c_r06_numbers_r9 c_r06_numbers c_r02_Merge_r0 c_r02_Merge_r1 c_r02_Merge_r2 c_r02_Merge_r3 c_r02_Merge_r4 c_r02_Merge_r5 c_r02_Merge_r6 c_r02_Merge_r7 c_r02_Merge_r8 c_r02_Merge_r9 c_r02_Merge_r11 c_r02_Merge c_r02_Valid_r0 c_r02_Valid_r1 c_r02_Valid_r2 c_r02_Valid_r3 c_r02_Valid_r4 c_r02_Valid_r5 c_r02_Valid_r6 c_r02_Valid_r7 c_r02_Valid_r9 c_r02_Valid c_r02_one_r0 c_r02_one_r1 c_r02_one_r2 c_r02_one_r3 c_r02_one_r4 c_r02_one_r5 c_r02_one c_r02_Quotient_r0 c_r02_Quotient_r1 c_r02_Quotient_r2 c_r02_Quotient_r3 c_r02_Quotient_r4 c_r02_Quotient_r5 c_r02_Quotient_r6 c_r02_Quotient_r7 c_r02_Quotient_r8 c_r02_Quotient_r9 c_r02_Quotient_r10 c_r02_Quotient_r11 c_r02_Quotient_r12 c_r02_Quotient_r14 c_r02_Quotient
structure Pv (p : List Int) : Prop where
  l : p.length ≤ 80
  h : ∀ i : Nat, i < p.length → (0 ≤ gt p i ∧ gt p i ≤ i) ∧ gt p (gt p i) = gt p i
section
variable (P : Program) (F : String → Nat)
def K_r06_numbers : Prop := ∀ l : List Int, l.length ≤ 2000000 → (∀ v ∈ l, Byte v) → FC P (F "r06.numbers") [.lst 1 (u8s l)] (.arr 1 (ints (codeL l))) []
def K_r02_Merge : Prop := ∀ (p : List Int) (a b : Nat), p.length ≤ 1000 → a < p.length → b < p.length → FC P (F "r02.Merge") [.lst 1 (ints p), .int .i64 a, .int .i64 b] (.arr 1 (ints (mergeL p a b))) []
def K_r02_Valid : Prop := ∀ p : List Int, Pv p → FC P (F "r02.Valid") [.lst 1 (ints p)] (.bool true) []
def K_r02_one : Prop := ∀ p : List Int, Pv p → FC P (F "r02.one") [.lst 1 (ints p)] (.int .i64 0) []
def K_r02_Quotient : Prop := ∀ p : List Int, Pv p → FC P (F "r02.Quotient") [.lst 1 (ints p)] (.tup [.arr 1 (ints (quo p p.length).1), .int .i64 (quo p p.length).2, .int .i64 0]) []
end
section
variable {P : Program} {F : String → Nat} {α : Type}
theorem w_r06_numbers (l : List Int) (hl : l.length ≤ 2000000) (hb : ∀ v ∈ l, Byte v) : W P (c_r06_numbers F) (Done [.t 2] [] (.arr 1 (ints (codeL l))) []) (init [.lst 1 (u8s l)]) := by
  refine W_of ?_
  simp (config := { maxSteps := 1000000 }) (disch := first | omega | (simp only [go_sem]; omega)) only [go_sem, ↓reduceIte]
  refine W_loop (fun i : Nat => ⟨[(0, .lst 1 (u8s l)), (3, .sl 0 0 i), (4, .int .i64 i)], [(0, .arr 1 (ints (l.take i)))], 1⟩) (fun i => i ≤ l.length) (fun i => l.length - i) 0 ?_ ?_ ?_
  · simp (config := { maxSteps := 1000000 }) (disch := first | omega | (simp only [go_sem]; omega)) only [go_sem, ↓reduceIte, ints_nil]
    rfl
  · simp
  · intro i hi
    have e1 : (l.take i).length = i := by simp; omega
    simp (config := { maxSteps := 1000000 }) (disch := first | omega | (simp only [go_sem]; omega)) only [go_sem, ↓reduceIte, c_r06_numbers_b6]
    refine bran_dec (fun c => ?_) (fun c => ?_)
    · have hv := hb _ (gt_mem (l := l) (j := i) (by omega) (by omega))
      have w1 : IntKind.i64.wrap (gt l i) = gt l i := wrap_i64 (by have := hv.1; omega) (by have := hv.2; omega)
      simp (config := { maxSteps := 1000000 }) (disch := first | omega | (simp only [go_sem]; omega)) only [go_sem, ↓reduceIte, e1, w1]
      exact ⟨i + 1, by rw [take_gt (by omega)]; simp, by omega, by omega⟩
    · obtain rfl : i = l.length := by omega
      unfold codeL
      by_cases h0 : l = []
      · subst h0
        simp (config := { maxSteps := 1000000 }) (disch := first | omega | (simp only [go_sem]; omega)) only [go_sem, ↓reduceIte]
        refine bran_dec (fun _ => ?_) (fun h => absurd rfl h)
        simp (config := { maxSteps := 1000000 }) (disch := first | omega | (simp only [go_sem]; omega)) only [go_sem, ↓reduceIte]
        rfl
      · have h1 := List.length_pos_iff.2 h0
        rw [if_neg h0]
        have g0 : decide ((l.length : Int) = 0) = false := decide_eq_false (by omega)
        simp (config := { maxSteps := 1000000 }) (disch := first | omega | (simp only [go_sem]; omega)) only [go_sem, ↓reduceIte, e1, g0]
        try simp
theorem w_r02_Merge (p : List Int) (a b : Nat) (hl : p.length ≤ 1000) (ha : a < p.length) (hb : b < p.length) : W P (c_r02_Merge F) (Done [.t 6] [] (.arr 1 (ints (mergeL p a b))) []) (init [.lst 1 (ints p), .int .i64 a, .int .i64 b]) := by
  refine W_of ?_
  have ht : ∀ i : Nat, i < p.length → mergeL (p.take (i + 1)) (0 : Int) 0 = mergeL (p.take (i + 1)) 0 0 := fun i hi => rfl
  have hE : mergeL p a b = p.map fun k => if k = max (gt p a) (gt p b) then min (gt p a) (gt p b) else k := rfl
  have hlo : min (gt p a) (gt p b) = if gt p b < gt p a then gt p b else gt p a := by rw [Int.min_def]; split <;> split <;> omega
  have hhi : max (gt p a) (gt p b) = if gt p a < gt p b then gt p b else gt p a := by rw [Int.max_def]; split <;> split <;> omega
  rw [hE, hlo, hhi]
  clear hE ht hlo hhi
  simp (config := { maxSteps := 1000000 }) (disch := first | omega | (simp only [go_sem]; omega)) only [go_sem, ↓reduceIte]
  generalize (if gt p (b : Int) < gt p (a : Int) then gt p (b : Int) else gt p (a : Int)) = lo
  generalize (if gt p (a : Int) < gt p (b : Int) then gt p (b : Int) else gt p (a : Int)) = hi
  refine W_loop (fun i : Nat => ⟨[(0, .lst 1 (ints p)), (7, .int .i64 lo), (8, .int .i64 hi), (9, .sl 0 0 i), (10, .int .i64 i)], [(0, .arr 1 (ints ((p.take i).map fun k => if k = hi then lo else k)))], 1⟩) (fun i => i ≤ p.length) (fun i => p.length - i) 0 ?_ ?_ ?_
  · simp (config := { maxSteps := 1000000 }) (disch := first | omega | (simp only [go_sem]; omega)) only [go_sem, ↓reduceIte, ints_nil]
    rfl
  · simp
  · intro i hi'
    have e1 : ((p.take i).map fun k => if k = hi then lo else k).length = i := by simp; omega
    simp (config := { maxSteps := 1000000 }) (disch := first | omega | (simp only [go_sem]; omega)) only [go_sem, ↓reduceIte, c_r02_Merge_b10]
    refine bran_dec (fun c => ?_) (fun c => ?_)
    · simp (config := { maxSteps := 1000000 }) (disch := first | omega | (simp only [go_sem]; omega)) only [go_sem, ↓reduceIte]
      refine bran_dec (fun d => ?_) (fun d => ?_)
      · simp (config := { maxSteps := 1000000 }) (disch := first | omega | (simp only [go_sem]; omega)) only [go_sem, ↓reduceIte, e1]
        exact ⟨i + 1, by rw [take_gt (by omega)]; simp [d], by omega, by omega⟩
      · simp (config := { maxSteps := 1000000 }) (disch := first | omega | (simp only [go_sem]; omega)) only [go_sem, ↓reduceIte, e1]
        exact ⟨i + 1, by rw [take_gt (by omega)]; simp [d], by omega, by omega⟩
    · obtain rfl : i = p.length := by omega
      rw [List.take_length] at e1
      simp (config := { maxSteps := 1000000 }) (disch := first | omega | (simp only [go_sem]; omega)) only [go_sem, ↓reduceIte, e1]
theorem w_r02_Valid (p : List Int) (hp : Pv p) : W P (c_r02_Valid F) (Done [.t 2] [] (.bool true) []) (init [.lst 1 (ints p)]) := by
  refine W_of ?_
  obtain ⟨hl, h⟩ := hp
  have g0 : decide ((80 : Int) < p.length) = false := decide_eq_false (by omega)
  simp (config := { maxSteps := 1000000 }) (disch := first | omega | (simp only [go_sem]; omega)) only [go_sem, ↓reduceIte, g0]
  refine W_loop (fun i : Nat => ⟨[(0, .lst 1 (ints p)), (3, .int .i64 i)], [], 0⟩) (fun i => i ≤ p.length) (fun i => p.length - i) 0 ?_ ?_ ?_
  · simp (config := { maxSteps := 1000000 }) (disch := first | omega | (simp only [go_sem]; omega)) only [go_sem, ↓reduceIte]
    rfl
  · simp
  · intro i hi
    by_cases c : i < p.length
    · obtain ⟨⟨h1, h2⟩, h3⟩ := h i c
      have g1 : decide ((i : Int) < p.length) = true := decide_eq_true (by omega)
      have g2 : decide (gt p i < 0) = false := decide_eq_false (by omega)
      have g3 : decide ((i : Int) < gt p i) = false := decide_eq_false (by omega)
      have g4 : decide (gt p (gt p i) = gt p i) = true := decide_eq_true h3
      simp (config := { maxSteps := 1000000 }) (disch := first | omega | (simp only [go_sem]; omega)) only [go_sem, ↓reduceIte, c_r02_Valid_b8, g1, g2, g3, g4]
      exact ⟨i + 1, by simp, by omega, by omega⟩
    · have g1 : decide ((i : Int) < p.length) = false := decide_eq_false (by omega)
      simp (config := { maxSteps := 1000000 }) (disch := first | omega | (simp only [go_sem]; omega)) only [go_sem, ↓reduceIte, c_r02_Valid_b8, g1]
theorem w_r02_one (hv : K_r02_Valid P F) (p : List Int) (hp : Pv p) : W P (c_r02_one F) (Done [.t 2] [] (.int .i64 0) []) (init [.lst 1 (ints p)]) := by
  refine W_of ?_
  have r := hv p hp
  obtain ⟨hl, h⟩ := hp
  have g0 : decide ((80 : Int) < p.length) = false := decide_eq_false (by omega)
  simp (config := { maxSteps := 1000000 }) (disch := first | omega | (simp only [go_sem]; omega)) only [go_sem, ↓reduceIte, g0]
  refine call_by r ?_
  simp (config := { maxSteps := 1000000 }) (disch := first | omega | (simp only [go_sem]; omega)) only [go_sem, ↓reduceIte]
theorem w_r02_Quotient (ho : K_r02_one P F) (p : List Int) (hp : Pv p) : W P (c_r02_Quotient F) (Done [.t 2, .t 3, .t 4] [] (.tup [.arr 1 (ints (quo p p.length).1), .int .i64 (quo p p.length).2, .int .i64 0]) []) (init [.lst 1 (ints p)]) := by
  refine W_of ?_
  have r := ho p hp
  obtain ⟨hl, h⟩ := hp
  have ql : ∀ i : Nat, (quo p i).1.length = i ∧ (quo p i).2 ≤ i := fun i => by
    induction i with
    | zero => simp [quo]
    | succ i ih =>
      rw [quo]
      split <;> simp [ih.1] <;> omega
  simp (config := { maxSteps := 1000000 }) (disch := first | omega | (simp only [go_sem]; omega)) only [go_sem, ↓reduceIte]
  refine call_by r ?_
  simp (config := { maxSteps := 1000000 }) (disch := first | omega | (simp only [go_sem]; omega)) only [go_sem, ↓reduceIte]
  refine W_loop (fun i : Nat => ⟨[(0, .lst 1 (ints p)), (6, .sl 0 0 i), (7, .int .i64 (quo p i).2), (8, .int .i64 i)], [(0, .arr 1 (ints (quo p i).1))], 1⟩) (fun i => i ≤ p.length) (fun i => p.length - i) 0 ?_ ?_ ?_
  · simp (config := { maxSteps := 1000000 }) (disch := first | omega | (simp only [go_sem]; omega)) only [go_sem, ↓reduceIte, ints_nil, quo]
    rfl
  · simp
  · intro i hi
    obtain ⟨e1, e2⟩ := ql i
    have hs : quo p (i + 1) = if gt p i = i then ((quo p i).1 ++ [((quo p i).2 : Int)], (quo p i).2 + 1) else ((quo p i).1 ++ [gt (quo p i).1 (gt p i)], (quo p i).2) := rfl
    simp (config := { maxSteps := 1000000 }) (disch := first | omega | (simp only [go_sem]; omega)) only [go_sem, ↓reduceIte, c_r02_Quotient_b13]
    refine bran_dec (fun c => ?_) (fun c => ?_)
    · obtain ⟨⟨h1, h2⟩, h3⟩ := h i (by omega)
      simp (config := { maxSteps := 1000000 }) (disch := first | omega | (simp only [go_sem]; omega)) only [go_sem, ↓reduceIte]
      refine bran_dec (fun d => ?_) (fun d => ?_)
      · rw [if_pos d] at hs
        simp (config := { maxSteps := 1000000 }) (disch := first | omega | (simp only [go_sem]; omega)) only [go_sem, ↓reduceIte, e1]
        exact ⟨i + 1, by simp [hs], by omega, by omega⟩
      · rw [if_neg d] at hs
        simp (config := { maxSteps := 1000000 }) (disch := first | omega | (simp only [go_sem]; omega)) only [go_sem, ↓reduceIte, e1]
        exact ⟨i + 1, by simp [hs], by omega, by omega⟩
    · obtain rfl : i = p.length := by omega
      simp (config := { maxSteps := 1000000 }) (disch := first | omega | (simp only [go_sem]; omega)) only [go_sem, ↓reduceIte, e1]
end
end Go.Am
