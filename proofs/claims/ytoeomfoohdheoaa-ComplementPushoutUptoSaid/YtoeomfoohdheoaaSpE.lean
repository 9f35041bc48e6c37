/- Repair of parts: plain facts. -/
import Derived.Test.YtoeomfoohdheoaaSpD
namespace Go.Am
open Go
set_option linter.unusedVariables false
set_option linter.unusedSimpArgs false
def flP (l : List Pr) : Nat → List Int
  | 0 => []
  | i + 1 => flP l i ++ [(gt l i).a, (gt l i).b]
def atE (mn : List Int) (e : E) (n : Nat) : List Int := sel (fun i : Nat => decide (gt mn i = e.f) || decide (gt mn i = e.o)) n
def dnL (g : G) (mn da : List Int) : Nat → List Int
  | 0 => []
  | i + 1 => dnL g mn da i ++ atE mn (gt g.e (gt da i)) mn.length
def edL (l : G) (es : List Int) : Nat → List Int
  | 0 => []
  | i + 1 => edL l es i ++ [(gt l.e (gt es i)).f, (gt l.e (gt es i)).o]
def rpN (x : Cx) : List Int := (x.k.n ++ flP (idL x.m.n x.k.n) (idL x.m.n x.k.n).length) ++ dnL x.g x.m.n (cxDan x) (cxDan x).length
def rpE (x : Cx) : List Int := x.k.e ++ flP (idL x.m.e x.k.e) (idL x.m.e x.k.e).length
def nextP (x : Cx) : Mo := closeP x.l (rpN x) (rpE x)
def Cx.wk (x : Cx) (k : Mo) : Cx := ⟨x.l, x.g, k, x.m⟩
def repGo : Nat → Cx → Mo
  | 0, x => x.k
  | n + 1, x => if nextP x = x.k then x.k else repGo n (x.wk (nextP x))
def repR (x : Cx) : Mo × Int := if cxE x ≠ 0 then (m0, cxE x) else (repGo 121 x, 0)
def rpM (k : Mo) : Nat := (40 - k.n.length) + (80 - k.e.length)
section
theorem flP_len (l : List Pr) : ∀ i, (flP l i).length = 2 * i
  | 0 => rfl
  | i + 1 => by rw [flP, List.length_append, flP_len l i]; simp; omega
theorem flP_mem {l : List Pr} {x : Int} : ∀ {n : Nat}, n ≤ l.length → (x ∈ flP l n ↔ ∃ i : Nat, i < n ∧ ((gt l i).a = x ∨ (gt l i).b = x))
  | 0, _ => by simp [flP]
  | n + 1, h => by
    rw [flP, List.mem_append, flP_mem (by omega)]
    simp only [List.mem_cons, List.not_mem_nil, or_false]
    constructor
    · rintro (⟨i, h1, h2⟩ | h2)
      · exact ⟨i, by omega, h2⟩
      · exact ⟨n, by omega, h2.imp Eq.symm Eq.symm⟩
    · rintro ⟨i, h1, h2⟩
      by_cases e : i = n
      · subst e; exact .inr (h2.imp Eq.symm Eq.symm)
      · exact .inl ⟨i, by omega, h2⟩
theorem flP_memL {l : List Pr} {x : Int} : x ∈ flP l l.length ↔ ∃ p ∈ l, p.a = x ∨ p.b = x := by
  rw [flP_mem (Nat.le_refl _)]
  constructor
  · rintro ⟨i, h1, h2⟩; exact ⟨_, gt_mem (by omega) (by omega), h2⟩
  · rintro ⟨p, hp, h⟩
    obtain ⟨i, h1, rfl⟩ := mem_gt hp
    exact ⟨i, h1, h⟩
theorem edL_len (l : G) (es : List Int) : ∀ i, (edL l es i).length = 2 * i
  | 0 => rfl
  | i + 1 => by rw [edL, List.length_append, edL_len l es i]; simp; omega
theorem edL_mem {l : G} {es : List Int} {x : Int} : ∀ {n : Nat}, n ≤ es.length → (x ∈ edL l es n ↔ ∃ i : Nat, i < n ∧ ((gt l.e (gt es i)).f = x ∨ (gt l.e (gt es i)).o = x))
  | 0, _ => by simp [edL]
  | n + 1, h => by
    rw [edL, List.mem_append, edL_mem (by omega)]
    simp only [List.mem_cons, List.not_mem_nil, or_false]
    constructor
    · rintro (⟨i, h1, h2⟩ | h2)
      · exact ⟨i, by omega, h2⟩
      · exact ⟨n, by omega, h2.imp Eq.symm Eq.symm⟩
    · rintro ⟨i, h1, h2⟩
      by_cases e : i = n
      · subst e; exact .inr (h2.imp Eq.symm Eq.symm)
      · exact .inl ⟨i, by omega, h2⟩
theorem edL_ends {l : G} {es : List Int} {x : Int} : x ∈ edL l es es.length ↔ x ∈ endsL l es := by
  rw [edL_mem (Nat.le_refl _), ends_mem]
  constructor
  · rintro ⟨i, h1, h2⟩; exact ⟨_, gt_mem (by omega) (by omega), h2⟩
  · rintro ⟨p, hp, h⟩
    obtain ⟨i, h1, rfl⟩ := mem_gt hp
    exact ⟨i, h1, h⟩
theorem atE_len (mn : List Int) (e : E) (n : Nat) : (atE mn e n).length ≤ n := sel_len _ _
theorem dnL_len (g : G) (mn da : List Int) : ∀ i, (dnL g mn da i).length ≤ i * mn.length
  | 0 => by simp [dnL]
  | i + 1 => by
    rw [dnL, List.length_append]
    have := dnL_len g mn da i
    have := atE_len mn (gt g.e (gt da i)) mn.length
    have e : (i + 1) * mn.length = i * mn.length + mn.length := by rw [Nat.add_mul]; omega
    omega
theorem dnL_mem {g : G} {mn da : List Int} {x : Int} : ∀ {n : Nat}, x ∈ dnL g mn da n ↔ ∃ (i k : Nat), i < n ∧ k < mn.length ∧ (gt mn k = (gt g.e (gt da i)).f ∨ gt mn k = (gt g.e (gt da i)).o) ∧ x = k
  | 0 => by simp [dnL]
  | n + 1 => by
    rw [dnL, List.mem_append, dnL_mem]
    unfold atE
    rw [sel_mem]
    simp only [Bool.or_eq_true, decide_eq_true_eq]
    constructor
    · rintro (⟨i, k, h1, h2⟩ | ⟨k, h1, h2, h3⟩)
      · exact ⟨i, k, by omega, h2⟩
      · exact ⟨n, k, by omega, h1, h2, h3⟩
    · rintro ⟨i, k, h1, h2, h3, h4⟩
      by_cases e : i = n
      · subst e; exact .inr ⟨k, h2, h3, h4⟩
      · exact .inl ⟨i, k, by omega, h2, h3, h4⟩
theorem idR_mem {im kn : List Int} {i : Nat} {p : Pr} : ∀ {n : Nat}, p ∈ idR im kn i n ↔ ∃ k : Nat, i < k ∧ k < n ∧ idP im kn i k = true ∧ p = ⟨i, k⟩
  | 0 => by simp [idR]
  | n + 1 => by
    rw [idR]
    have ih := idR_mem (im := im) (kn := kn) (i := i) (p := p) (n := n)
    split
    · rename_i h
      rw [List.mem_append, ih, List.mem_singleton]
      constructor
      · rintro (⟨k, h1, h2, h3⟩ | rfl)
        · exact ⟨k, h1, by omega, h3⟩
        · exact ⟨n, h.1, by omega, h.2, rfl⟩
      · rintro ⟨k, h1, h2, h3, h4⟩
        by_cases e : k = n
        · subst e; exact .inr h4
        · exact .inl ⟨k, h1, by omega, h3, h4⟩
    · rename_i h
      rw [ih]
      constructor
      · rintro ⟨k, h1, h2, h3⟩; exact ⟨k, h1, by omega, h3⟩
      · rintro ⟨k, h1, h2, h3, h4⟩
        by_cases e : k = n
        · subst e; exact absurd ⟨h1, h3⟩ h
        · exact ⟨k, h1, by omega, h3, h4⟩
theorem idA_mem {im kn : List Int} {p : Pr} : ∀ {n : Nat}, p ∈ idA im kn n ↔ ∃ i k : Nat, i < n ∧ i < k ∧ k < im.length ∧ idP im kn i k = true ∧ p = ⟨i, k⟩
  | 0 => by simp [idA]
  | n + 1 => by
    rw [idA, List.mem_append, idA_mem, idR_mem]
    constructor
    · rintro (⟨i, k, h1, h2⟩ | ⟨k, h1, h2⟩)
      · exact ⟨i, k, by omega, h2⟩
      · exact ⟨n, k, by omega, h1, h2⟩
    · rintro ⟨i, k, h1, h2, h3⟩
      by_cases e : i = n
      · subst e; exact .inr ⟨k, h2, h3⟩
      · exact .inl ⟨i, k, by omega, h2, h3⟩
theorem idL_mem {im kn : List Int} {p : Pr} : p ∈ idL im kn ↔ ∃ i k : Nat, i < k ∧ k < im.length ∧ idP im kn i k = true ∧ p = ⟨i, k⟩ := by
  unfold idL
  rw [idA_mem]
  constructor
  · rintro ⟨i, k, _, h⟩; exact ⟨i, k, h⟩
  · rintro ⟨i, k, h1, h2, h3⟩; exact ⟨i, k, by omega, h1, h2, h3⟩
theorem danL_mem {x : Cx} {d : Int} : d ∈ cxDan x ↔ ∃ k : Nat, k < x.g.e.length ∧ danE x.g (goneL x.m.n x.k.n) x.m.e k = true ∧ d = k := sel_mem
section
variable {x : Cx}
theorem rpN_in (he : cxE x = 0) : ∀ v ∈ rpN x, 0 ≤ v ∧ v < x.l.n.length := fun v hv => by
  obtain ⟨hm, hk⟩ := cx_len he
  have l1 := hm.ln
  unfold rpN at hv
  rw [List.mem_append, List.mem_append] at hv
  rcases hv with (hv | hv) | hv
  · exact hk.n.b v hv
  · obtain ⟨p, hp, h⟩ := flP_memL.1 hv
    obtain ⟨i, k, h1, h2, _, rfl⟩ := idL_mem.1 hp
    simp only at h
    omega
  · obtain ⟨i, k, _, h2, _, rfl⟩ := dnL_mem.1 hv
    omega
theorem rpE_in (he : cxE x = 0) : ∀ v ∈ rpE x, 0 ≤ v ∧ v < x.l.e.length := fun v hv => by
  obtain ⟨hm, hk⟩ := cx_len he
  have l1 := hm.le
  unfold rpE at hv
  rw [List.mem_append] at hv
  rcases hv with hv | hv
  · exact hk.e.b v hv
  · obtain ⟨p, hp, h⟩ := flP_memL.1 hv
    obtain ⟨i, k, h1, h2, _, rfl⟩ := idL_mem.1 hp
    simp only at h
    omega
theorem next_ok (he : cxE x = 0) : cxE (x.wk (nextP x)) = 0 := by
  obtain ⟨hm, hk⟩ := cx_len he
  unfold cxE Cx.wk
  rw [if_neg (by simp [mok.2 hm])]
  exact validP_ok.2 (closeP_ok hm.va)
theorem next_sub (he : cxE x = 0) : (∀ v ∈ x.k.n, v ∈ (nextP x).n) ∧ ∀ v ∈ x.k.e, v ∈ (nextP x).e := by
  obtain ⟨hm, hk⟩ := cx_len he
  constructor
  · intro v hv
    obtain ⟨k, hk', rfl⟩ := gtI (hk.n.b v hv)
    refine sel_memN.2 ⟨hk', ?_⟩
    simp only [Bool.or_eq_true, decide_eq_true_eq, rpN, List.mem_append]
    exact .inl (.inl (.inl hv))
  · intro v hv
    obtain ⟨k, hk', rfl⟩ := gtI (hk.e.b v hv)
    refine sel_memN.2 ⟨hk', ?_⟩
    simp only [decide_eq_true_eq, rpE, List.mem_append]
    exact .inl hv
theorem next_len (he : cxE x = 0) : x.k.n.length ≤ (nextP x).n.length ∧ x.k.e.length ≤ (nextP x).e.length ∧ ((nextP x).n.length = x.k.n.length ∧ (nextP x).e.length = x.k.e.length ↔ nextP x = x.k) := by
  obtain ⟨hm, hk⟩ := cx_len he
  obtain ⟨h1, h2⟩ := next_sub he
  have a := asc_sub hk.n.p (sel_pair _ _) h1
  have b := asc_sub hk.e.p (sel_pair _ _) h2
  refine ⟨a.1, b.1, fun h => ?_, fun h => by rw [h]; exact ⟨rfl, rfl⟩⟩
  exact (mo_extP (a.2 h.1.symm) (b.2 h.2.symm)).symm
theorem next_m (he : cxE x = 0) (h : nextP x ≠ x.k) : rpM (nextP x) < rpM x.k := by
  obtain ⟨h1, h2, h3⟩ := next_len he
  have q := (cx_len (next_ok he)).2.len
  have hne : ¬ ((nextP x).n.length = x.k.n.length ∧ (nextP x).e.length = x.k.e.length) := fun e => h (h3.1 e)
  simp only [Cx.wk] at q
  unfold rpM
  omega
theorem next_imgs (he : cxE x = 0) : imgs (rpN x ++ edL x.l (rpE x) (rpE x).length) = (nextP x).n ∧ imgs (rpE x) = (nextP x).e := by
  obtain ⟨hm, hk⟩ := cx_len he
  constructor
  · refine asc_ext (imgs_lt _) (sel_pair _ _) fun v => ?_
    rw [imgs_mem, List.mem_append, edL_ends]
    rw [show (nextP x).n = sel (fun k : Nat => decide ((k : Int) ∈ rpN x) || decide ((k : Int) ∈ endsL x.l (rpE x))) x.l.n.length from rfl, sel_mem]
    simp only [Bool.or_eq_true, decide_eq_true_eq]
    constructor
    · intro h
      have hb : 0 ≤ v ∧ v < x.l.n.length := by
        rcases h with h | h
        · exact rpN_in he v h
        · obtain ⟨e, h1, h2⟩ := ends_mem.1 h
          have h3 := rpE_in he e h1
          obtain ⟨_, t2, t3⟩ := edge_fits hm.va (i := e) h3
          rcases h2 with r | r <;> rw [← r] <;> assumption
      obtain ⟨k, hk', rfl⟩ := gtI hb
      exact ⟨k, hk', h, rfl⟩
    · rintro ⟨k, _, h, rfl⟩; exact h
  · refine asc_ext (imgs_lt _) (sel_pair _ _) fun v => ?_
    rw [imgs_mem, show (nextP x).e = sel (fun k : Nat => decide ((k : Int) ∈ rpE x)) x.l.e.length from rfl, sel_mem]
    simp only [decide_eq_true_eq]
    constructor
    · intro h
      obtain ⟨k, hk', rfl⟩ := gtI (rpE_in he v h)
      exact ⟨k, hk', h, rfl⟩
    · rintro ⟨k, _, h, rfl⟩; exact h
end
end
end Go.Am
