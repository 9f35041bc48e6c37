/- What a standard pullback is. -/
import Derived.Test.YtkllpeebnabdiaaSkX
namespace Go.Am
open Go
set_option linter.unusedVariables false
set_option linter.unusedSimpArgs false
section
theorem gt_cons {α : Type} [Inhabited α] (a : α) (l : List α) (i : Nat) : gt (a :: l) ((i + 1 : Nat) : Int) = gt l i := by simp [gt]
theorem gt_cons0 {α : Type} [Inhabited α] (a : α) (l : List α) : gt (a :: l) ((0 : Nat) : Int) = a := by simp [gt]
theorem nodeE_mk {bn : List Int} : ∀ {ms as : List Int}, ms.length = as.length → (∀ i : Nat, i < ms.length → (0 ≤ gt ms i ∧ gt ms i < bn.length) ∧ gt bn (gt ms i) = gt as i) → nodeE bn ms as = 0
  | [], as, _, _ => rfl
  | k :: ms, [], hl, _ => by simp at hl
  | k :: ms, t :: as, hl, h => by
    have h0 := h 0 (by simp)
    rw [gt_cons0, gt_cons0] at h0
    rw [nodeE, if_pos h0.1, if_pos h0.2]
    exact nodeE_mk (by simpa using hl) fun i hi => by have := h (i + 1) (by simpa using hi); rwa [gt_cons, gt_cons] at this
theorem edgeE_mk {be : List E} {mn : List Int} : ∀ {ms : List Int} {as : List E}, ms.length = as.length → (∀ i : Nat, i < ms.length →
    (0 ≤ gt ms i ∧ gt ms i < be.length) ∧ (gt as i).t = (gt be (gt ms i)).t ∧ gt mn (gt as i).f = (gt be (gt ms i)).f ∧ gt mn (gt as i).o = (gt be (gt ms i)).o) → edgeE be mn ms as = 0
  | [], as, _, _ => by cases as <;> rfl
  | k :: ms, [], hl, _ => by simp at hl
  | k :: ms, x :: as, hl, h => by
    have h0 := h 0 (by simp)
    rw [gt_cons0, gt_cons0] at h0
    rw [edgeE, if_pos h0.1, if_pos h0.2.1, if_pos h0.2.2]
    exact edgeE_mk (by simpa using hl) fun i hi => by have := h (i + 1) (by simpa using hi); rwa [gt_cons, gt_cons] at this
/-- A morphism is right. -/
structure MOk (a b : G) (m : Mo) : Prop where
  va : validG a = 0
  vb : validG b = 0
  ln : m.n.length = a.n.length
  le : m.e.length = a.e.length
  nd : ∀ i : Nat, i < a.n.length → (0 ≤ gt m.n i ∧ gt m.n i < b.n.length) ∧ gt b.n (gt m.n i) = gt a.n i
  ed : ∀ i : Nat, i < a.e.length → (0 ≤ gt m.e i ∧ gt m.e i < b.e.length) ∧ (gt a.e i).t = (gt b.e (gt m.e i)).t ∧ gt m.n (gt a.e i).f = (gt b.e (gt m.e i)).f ∧ gt m.n (gt a.e i).o = (gt b.e (gt m.e i)).o
theorem mok {a b : G} {m : Mo} : validM a b m = 0 ↔ MOk a b m := by
  constructor
  · intro h
    obtain ⟨h1, h2, h3, h4, h5, h6⟩ := validM_spec h
    exact ⟨h1, h2, h3, h4, fun i hi => nodeE_all h5 h3 i (by omega), fun i hi => edgeE_all h6 h4 i (by omega)⟩
  · intro h
    unfold validM
    rw [if_neg (by simp [h.va]), if_neg (by simp [h.vb]), if_neg (by have := h.ln; have := h.le; omega), if_neg (by
      rw [nodeE_mk h.ln fun i hi => h.nd i (by have := h.ln; omega)]; simp)]
    exact edgeE_mk h.le fun i hi => h.ed i (by have := h.le; omega)
/-- A graph is right. -/
theorem valid_mk {g : G} (h1 : g.n.length ≤ 40) (h2 : g.e.length ≤ 80) (h3 : ∀ x, x ∈ g.n → okN x = true) (h4 : ∀ x, x ∈ g.e → fitsE g.n.length x = true) : validG g = 0 := by
  unfold validG
  rw [if_neg (by omega), if_pos]
  simp only [Bool.and_eq_true, List.all_eq_true]
  exact ⟨h3, h4⟩
theorem idx_spec {l : List Pr} {q : Pr} (h : q ∈ l) : (0 ≤ idx (fun p => decide (p = q)) l 0 ∧ idx (fun p => decide (p = q)) l 0 < l.length) ∧ gt l (idx (fun p => decide (p = q)) l 0) = q := by
  have h0 := idx_mem.2 h
  obtain ⟨k, h1, h2, h3, _⟩ := idx_some (fun p => decide (p = q)) l 0 (by omega)
  rw [h1]
  refine ⟨by omega, ?_⟩
  simpa using h3
theorem gt_inj {α : Type} [Inhabited α] {l : List α} (hn : l.Nodup) {i j : Nat} (hi : i < l.length) (hj : j < l.length) (h : gt l i = gt l j) : i = j := by
  rw [gt_nat hi, gt_nat hj] at h
  exact (List.getElem_inj hn).1 h
theorem idx_own {l : List Pr} (hn : l.Nodup) {i : Nat} (hi : i < l.length) : idx (fun p => decide (p = gt l i)) l 0 = i := by
  obtain ⟨⟨h1, h2⟩, h3⟩ := idx_spec (gt_mem (l := l) (j := i) (by omega) (by omega))
  generalize idx (fun p => decide (p = gt l i)) l 0 = y at *
  have : gt l ((y.toNat : Nat) : Int) = gt l i := by rw [Int.toNat_of_nonneg h1]; exact h3
  have := gt_inj hn (by omega) hi this
  omega
theorem nodup_flatMap_range {α : Type} {f : Nat → List α} : ∀ n, (∀ i, i < n → (f i).Nodup) → (∀ i j, i < j → j < n → ∀ x ∈ f i, x ∉ f j) → ((List.range n).flatMap f).Nodup
  | 0, _, _ => by simp
  | n + 1, h1, h2 => by
    rw [List.range_succ, List.flatMap_append, List.nodup_append]
    refine ⟨nodup_flatMap_range n (fun i hi => h1 i (by omega)) fun i j hij hj => h2 i j hij (by omega), by simpa using h1 n (by omega), ?_⟩
    intro a ha b hb hab
    subst hab
    simp only [List.flatMap_cons, List.flatMap_nil, List.append_nil] at hb
    obtain ⟨i, hi, hai⟩ := List.mem_flatMap.1 ha
    exact h2 i n (by simpa using hi) (by omega) a hai hb
theorem rowP_nodup (f g : List Int) (i k : Nat) : (rowP f g i k).Nodup := by
  unfold rowP List.Nodup
  rw [List.pairwise_map]
  exact ((List.nodup_range (n := k)).filter _).imp fun h e => by simp at e; omega
theorem pairsL_nodup (f g : List Int) : (pairsL f g).Nodup := by
  unfold pairsL pairsI
  refine nodup_flatMap_range _ (fun i _ => rowP_nodup f g i _) fun i j hij _ x hx hy => ?_
  unfold rowP at hx hy
  obtain ⟨k, _, rfl⟩ := List.mem_map.1 hx
  obtain ⟨k', _, h⟩ := List.mem_map.1 hy
  simp at h; omega
theorem gt_map {α β : Type} [Inhabited α] [Inhabited β] {l : List α} {f : α → β} {i : Nat} (h : i < l.length) : gt (l.map f) i = f (gt l i) := by
  rw [gt_nat (by simpa using h), gt_nat h]; simp
theorem gtI {α : Type} [Inhabited α] {l : List α} {y : Int} (h : 0 ≤ y ∧ y < l.length) : ∃ i : Nat, i < l.length ∧ y = (i : Int) := ⟨y.toNat, by omega, by omega⟩
/-- The standard pullback's graph and morphisms are right. -/
structure PB (s : Cs) : Prop where
  f : MOk s.b s.d s.f
  g : MOk s.c s.d s.g
  p : MOk (pbG0 s) s.b ⟨asA (pbN s), asA (pbE s)⟩
  q : MOk (pbG0 s) s.c ⟨asB (pbN s), asB (pbE s)⟩
theorem pbN_in {s : Cs} (hf : MOk s.b s.d s.f) (hg : MOk s.c s.d s.g) {a b : Int} (ha : 0 ≤ a ∧ a < s.b.n.length) (hb : 0 ≤ b ∧ b < s.c.n.length) : (⟨a, b⟩ : Pr) ∈ pbN s ↔ gt s.f.n a = gt s.g.n b := by
  unfold pbN
  exact pairsL_in (by rw [hf.ln]; exact ha) (by rw [hg.ln]; exact hb)
theorem pbE_in {s : Cs} (hf : MOk s.b s.d s.f) (hg : MOk s.c s.d s.g) {a b : Int} (ha : 0 ≤ a ∧ a < s.b.e.length) (hb : 0 ≤ b ∧ b < s.c.e.length) : (⟨a, b⟩ : Pr) ∈ pbE s ↔ gt s.f.e a = gt s.g.e b := by
  unfold pbE
  exact pairsL_in (by rw [hf.le]; exact ha) (by rw [hg.le]; exact hb)
theorem pbN_bd {s : Cs} (hf : MOk s.b s.d s.f) (hg : MOk s.c s.d s.g) {p : Pr} (h : p ∈ pbN s) : (0 ≤ p.a ∧ p.a < s.b.n.length) ∧ (0 ≤ p.b ∧ p.b < s.c.n.length) ∧ gt s.f.n p.a = gt s.g.n p.b := by
  have hb := pairsL_bd h
  rw [hf.ln, hg.ln] at hb
  exact ⟨hb.1, hb.2, (pbN_in hf hg hb.1 hb.2).1 h⟩
theorem pbE_bd {s : Cs} (hf : MOk s.b s.d s.f) (hg : MOk s.c s.d s.g) {p : Pr} (h : p ∈ pbE s) : (0 ≤ p.a ∧ p.a < s.b.e.length) ∧ (0 ≤ p.b ∧ p.b < s.c.e.length) ∧ gt s.f.e p.a = gt s.g.e p.b := by
  have hb := pairsL_bd h
  rw [hf.le, hg.le] at hb
  exact ⟨hb.1, hb.2, (pbE_in hf hg hb.1 hb.2).1 h⟩
theorem edge_fits {g : G} (h : validG g = 0) {i : Int} (hi : 0 ≤ i ∧ i < g.e.length) : (0 ≤ (gt g.e i).t ∧ (gt g.e i).t ≤ 99) ∧ (0 ≤ (gt g.e i).f ∧ (gt g.e i).f < g.n.length) ∧ (0 ≤ (gt g.e i).o ∧ (gt g.e i).o < g.n.length) :=
  fits_spec ((valid_spec h).2.2.2 _ (gt_mem hi.1 hi.2))
theorem pb_ends {s : Cs} (hf : MOk s.b s.d s.f) (hg : MOk s.c s.d s.g) {p : Pr} (h : p ∈ pbE s) : (⟨(gt s.b.e p.a).f, (gt s.c.e p.b).f⟩ : Pr) ∈ pbN s ∧ (⟨(gt s.b.e p.a).o, (gt s.c.e p.b).o⟩ : Pr) ∈ pbN s ∧ (gt s.b.e p.a).t = (gt s.c.e p.b).t := by
  obtain ⟨ha, hb, he⟩ := pbE_bd hf hg h
  obtain ⟨_, b1, b2⟩ := edge_fits hf.va ha
  obtain ⟨_, c1, c2⟩ := edge_fits hg.va hb
  obtain ⟨i, hi, hi2⟩ := gtI ha
  obtain ⟨k, hk, hk2⟩ := gtI hb
  obtain ⟨_, f1, f2, f3⟩ := hf.ed i hi
  obtain ⟨_, g1, g2, g3⟩ := hg.ed k hk
  rw [← hi2] at f1 f2 f3
  rw [← hk2] at g1 g2 g3
  refine ⟨(pbN_in hf hg b1 c1).2 ?_, (pbN_in hf hg b2 c2).2 ?_, ?_⟩
  · rw [f2, g2, he]
  · rw [f3, g3, he]
  · rw [f1, g1, he]
theorem pb_of {s : Cs} (h : pbErr s = 0) : PB s := by
  obtain ⟨l1, l2, hg0⟩ := pbN_len h
  obtain ⟨v1, v2⟩ := givenE_spec hg0
  have hf := mok.1 v1
  have hg := mok.1 v2
  have vb := valid_spec hf.va
  have hnl : (pbG0 s).n.length = (pbN s).length := by simp [pbG0]
  have hel : (pbG0 s).e.length = (pbE s).length := by simp [pbG0]
  have hedge : ∀ i : Nat, i < (pbE s).length → gt (pbG0 s).e i = pbEdge s.b.e s.c.e (pbN s) (gt (pbE s) i) := fun i hi => gt_map hi
  have hA : ∀ (l : List Pr) (i : Nat), i < l.length → gt (asA l) i = (gt l i).a := fun l i hi => gt_map hi
  have hB : ∀ (l : List Pr) (i : Nat), i < l.length → gt (asB l) i = (gt l i).b := fun l i hi => gt_map hi
  have va : validG (pbG0 s) = 0 := by
    refine valid_mk (by omega) (by omega) (fun x hx => ?_) (fun x hx => ?_)
    · simp only [pbG0, List.mem_map] at hx
      obtain ⟨p, hp, rfl⟩ := hx
      have := pbN_bd hf hg hp
      exact vb.2.2.1 _ (gt_mem this.1.1 this.1.2)
    · simp only [pbG0, List.mem_map] at hx
      obtain ⟨p, hp, rfl⟩ := hx
      obtain ⟨ha, hb, _⟩ := pbE_bd hf hg hp
      obtain ⟨e1, e2, _⟩ := pb_ends hf hg hp
      have t1 := edge_fits hf.va ha
      have i1 := idx_spec e1
      have i2 := idx_spec e2
      rw [hnl]
      exact fits_mk t1.1 i1.1 i2.1
  have hend : ∀ i : Nat, i < (pbE s).length → (gt (pbN s) (gt (pbG0 s).e i).f = ⟨(gt s.b.e (gt (pbE s) i).a).f, (gt s.c.e (gt (pbE s) i).b).f⟩ ∧ 0 ≤ (gt (pbG0 s).e i).f ∧ (gt (pbG0 s).e i).f < (pbN s).length) ∧
      gt (pbN s) (gt (pbG0 s).e i).o = ⟨(gt s.b.e (gt (pbE s) i).a).o, (gt s.c.e (gt (pbE s) i).b).o⟩ ∧ 0 ≤ (gt (pbG0 s).e i).o ∧ (gt (pbG0 s).e i).o < (pbN s).length := fun i hi => by
    obtain ⟨e1, e2, _⟩ := pb_ends hf hg (gt_mem (l := pbE s) (j := i) (by omega) (by omega))
    have i1 := idx_spec e1
    have i2 := idx_spec e2
    rw [hedge i hi]
    exact ⟨⟨i1.2, i1.1⟩, ⟨i2.2, i2.1⟩⟩
  refine ⟨hf, hg, ⟨va, hf.va, by simp [asA, hnl], by simp [asA, hel], fun i hi => ?_, fun i hi => ?_⟩, ⟨va, hg.va, by simp [asB, hnl], by simp [asB, hel], fun i hi => ?_, fun i hi => ?_⟩⟩
  · rw [hnl] at hi
    have := pbN_bd hf hg (gt_mem (l := pbN s) (j := i) (by omega) (by omega))
    simp only
    rw [hA _ i hi]
    have e : gt (pbG0 s).n i = gt s.b.n (gt (pbN s) i).a := gt_map hi
    exact ⟨this.1, e.symm⟩
  · rw [hel] at hi
    have hm := gt_mem (l := pbE s) (j := i) (by omega) (by omega)
    have hb := pbE_bd hf hg hm
    obtain ⟨⟨n1, n2⟩, n3, n4⟩ := hend i hi
    simp only
    rw [hA _ i hi]
    refine ⟨hb.1, by rw [hedge i hi]; rfl, ?_, ?_⟩
    · obtain ⟨j, hj, hj2⟩ := gtI n2
      rw [hj2] at n1 ⊢
      rw [hA _ j hj, n1]
    · obtain ⟨j, hj, hj2⟩ := gtI n4
      rw [hj2] at n3 ⊢
      rw [hA _ j hj, n3]
  · rw [hnl] at hi
    have hb := pbN_bd hf hg (gt_mem (l := pbN s) (j := i) (by omega) (by omega))
    simp only
    rw [hB _ i hi]
    refine ⟨hb.2.1, ?_⟩
    have e : gt (pbG0 s).n i = gt s.b.n (gt (pbN s) i).a := gt_map hi
    rw [e]
    obtain ⟨k, hk, hk2⟩ := gtI hb.2.1
    obtain ⟨j, hj, hj2⟩ := gtI hb.1
    have := hb.2.2
    rw [hk2, hj2] at *
    rw [← (hg.nd k hk).2, ← (hf.nd j hj).2, this]
  · rw [hel] at hi
    have hm := gt_mem (l := pbE s) (j := i) (by omega) (by omega)
    have hb := pbE_bd hf hg hm
    obtain ⟨_, _, ht⟩ := pb_ends hf hg hm
    obtain ⟨⟨n1, n2⟩, n3, n4⟩ := hend i hi
    simp only
    rw [hB _ i hi]
    refine ⟨hb.2.1, by rw [← ht, hedge i hi]; rfl, ?_, ?_⟩
    · obtain ⟨j, hj, hj2⟩ := gtI n2
      rw [hj2] at n1 ⊢
      rw [hB _ j hj, n1]
    · obtain ⟨j, hj, hj2⟩ := gtI n4
      rw [hj2] at n3 ⊢
      rw [hB _ j hj, n3]
/-- The identity's lists. -/
theorem meet_own {l : List Pr} (hn : l.Nodup) : meetL l (asA l) (asB l) = nums 0 l.length := by
  have hA : (asA l).length = l.length := by simp [asA]
  refine list_ext_gt (by rw [meetL, meetI_len, nums_len, hA]) fun i hi => ?_
  rw [meetL, meetI_len, hA] at hi
  have e1 : gt (meetL l (asA l) (asB l)) i = idx (fun p => decide (p = ⟨gt (asA l) i, gt (asB l) i⟩)) l 0 := by
    unfold meetL meetI
    rw [gt_nat (by simp [hA]; exact hi)]
    simp
  have e2 : gt (nums 0 l.length) i = i := by
    unfold nums
    rw [gt_nat (by simp; exact hi)]
    simp
  have e3 : (⟨gt (asA l) i, gt (asB l) i⟩ : Pr) = gt l i := by
    have h1 : gt (asA l) i = (gt l i).a := gt_map hi
    have h2 : gt (asB l) i = (gt l i).b := gt_map hi
    rw [h1, h2]
  rw [e1, e2, e3, idx_own hn hi]
theorem nums_gt {n i : Nat} (hi : i < n) : gt (nums 0 n) i = i := by
  unfold nums
  rw [gt_nat (by simp; exact hi)]
  simp
theorem nums_mem {n : Nat} {x : Int} : x ∈ nums 0 n ↔ 0 ≤ x ∧ x < n := by
  unfold nums
  simp only [List.mem_map, List.mem_range]
  constructor
  · rintro ⟨k, hk, rfl⟩; omega
  · rintro ⟨h1, h2⟩; exact ⟨x.toNat, by omega, by omega⟩
theorem nums_nodup (n : Nat) : (nums 0 n).Nodup := by
  unfold nums List.Nodup
  rw [List.pairwise_map]
  exact (List.nodup_range (n := n)).imp fun h => by omega
def idM (g : G) : Mo := ⟨nums 0 g.n.length, nums 0 g.e.length⟩
theorem idM_ok {g : G} (h : validG g = 0) : MOk g g (idM g) := by
  refine ⟨h, h, by simp [idM, nums_len], by simp [idM, nums_len], fun i hi => ?_, fun i hi => ?_⟩
  · simp only [idM]
    rw [nums_gt hi]
    exact ⟨by omega, rfl⟩
  · simp only [idM]
    rw [nums_gt hi]
    obtain ⟨_, h1, h2⟩ := edge_fits h (i := i) (by omega)
    obtain ⟨j, hj, hj2⟩ := gtI h1
    obtain ⟨k, hk, hk2⟩ := gtI h2
    refine ⟨by omega, rfl, ?_, ?_⟩
    · rw [hj2, nums_gt hj]
    · rw [hk2, nums_gt hk]
theorem idM_inj {g : G} (h : validG g = 0) : injM g g (idM g) = true := by
  unfold injM
  rw [mok.2 (idM_ok h)]
  simp [distinct, idM, nums_nodup]
theorem covers_nums (n : Nat) : covers (nums 0 n) n = true := by
  unfold covers
  rw [List.all_eq_true]
  intro k hk
  simp only [decide_eq_true_eq, nums_mem]
  simp at hk
  omega
theorem idM_sur {g : G} (h : validG g = 0) : surM g g (idM g) = true := by
  unfold surM
  rw [mok.2 (idM_ok h)]
  simp [idM, covers_nums]
theorem med_own {s : Cs} (h : pbErr s = 0) : medM s (pbG0 s) ⟨asA (pbN s), asA (pbE s)⟩ ⟨asB (pbN s), asB (pbE s)⟩ = (idM (pbG0 s), 0) := by
  have pb := pb_of h
  have hE : medErr s (pbG0 s) ⟨asA (pbN s), asA (pbE s)⟩ ⟨asB (pbN s), asB (pbE s)⟩ = 0 := by
    unfold medErr
    rw [if_neg (by simp [h]), if_neg (by rw [mok.2 pb.p]; simp)]
    exact mok.2 pb.q
  have m1 := meet_own (pairsL_nodup s.f.n s.g.n)
  have m2 := meet_own (pairsL_nodup s.f.e s.g.e)
  change meetL (pbN s) (asA (pbN s)) (asB (pbN s)) = _ at m1
  change meetL (pbE s) (asA (pbE s)) (asB (pbE s)) = _ at m2
  unfold medM
  rw [if_neg (by simp [hE])]
  simp only
  have ok : ∀ l : List Pr, meetL l (asA l) (asB l) = nums 0 l.length → meetOk l (asA l) (asB l) = true := fun l hl => by
    unfold meetOk
    rw [hl, List.all_eq_true]
    intro x hx
    have := nums_mem.1 hx
    simpa using this.1
  rw [if_pos ⟨ok _ m1, ok _ m2⟩, m1, m2]
  simp [idM, pbG0, pbN, pbE]
theorem check_own {s : Cs} (h : pbErr s = 0) : checkM s (pbG s) (pbP s) (pbQ s) = true := by
  have e1 : pbG s = pbG0 s := by simp [pbG, h]
  have e2 : pbP s = ⟨asA (pbN s), asA (pbE s)⟩ := by simp [pbP, h]
  have e3 : pbQ s = ⟨asB (pbN s), asB (pbE s)⟩ := by simp [pbQ, h]
  have va := (pb_of h).p.va
  unfold checkM
  rw [e1, e2, e3, med_own h]
  simp [idM_inj va, idM_sur va]
end
end Go.Am
