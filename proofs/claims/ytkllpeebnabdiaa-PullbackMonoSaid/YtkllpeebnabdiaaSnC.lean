/- Cospans of drafts: Made, few; the law about exchanged cospans. -/
import Derived.Test.YtkllpeebnabdiaaSnB
namespace Go.Am
open Go
set_option linter.unusedVariables false
set_option linter.unusedSimpArgs false
attribute [local irreducible] W
/- r11.Made -/
def c_r11_Made_r0 (F : String → Nat) : List LI := [⟨some 1, .bx (.t 0), none⟩,
  ⟨some 2, .alloc [.nl 1, .nl 3, .nl 1, .nl 3, .nl 1, .nl 3, .nl 1, .nl 1, .nl 1, .nl 1], none⟩]
def c_r11_Made_r1 (F : String → Nat) : List LI := [⟨some 4, .fad 0 (.t 1), none⟩,
  ⟨some 5, .load true 2 (.t 4), none⟩,
  ⟨some 6, .call (F "r05.Made") [.t 5] [], none⟩,
  ⟨some 7, .build [.nl 1, .nl 3, .nl 1, .nl 3, .nl 1, .nl 3, .nl 1, .nl 1, .nl 1, .nl 1] [(4, 2, .t 6)], none⟩,
  ⟨some 3, .alloc [.nl 1, .nl 3, .nl 1, .nl 3, .nl 1, .nl 3, .nl 1, .nl 1, .nl 1, .nl 1], none⟩,
  ⟨none, .store 10 (.t 3) (.t 7), none⟩]
def c_r11_Made_r2 (F : String → Nat) : List LI := [⟨some 9, .fad 4 (.t 3), none⟩,
  ⟨some 10, .load true 2 (.t 9), none⟩,
  ⟨some 11, .fad 2 (.t 1), none⟩,
  ⟨some 12, .load true 2 (.t 11), none⟩,
  ⟨some 13, .call (F "r11.Over") [.t 10, .t 12] [], none⟩,
  ⟨some 8, .mov (.t 13), none⟩,
  ⟨some 14, .ext (.t 8) 0, none⟩,
  ⟨some 15, .ext (.t 8) 1, none⟩,
  ⟨some 16, .fad 0 (.t 3), none⟩,
  ⟨none, .store 2 (.t 16) (.t 14), none⟩,
  ⟨some 17, .fad 6 (.t 3), none⟩,
  ⟨none, .store 2 (.t 17) (.t 15), none⟩]
def c_r11_Made_r3 (F : String → Nat) : List LI := [⟨some 19, .fad 4 (.t 3), none⟩,
  ⟨some 20, .load true 2 (.t 19), none⟩,
  ⟨some 21, .fad 4 (.t 1), none⟩,
  ⟨some 22, .load true 2 (.t 21), none⟩,
  ⟨some 23, .call (F "r11.Over") [.t 20, .t 22] [], none⟩,
  ⟨some 18, .mov (.t 23), none⟩,
  ⟨some 24, .ext (.t 18) 0, none⟩,
  ⟨some 25, .ext (.t 18) 1, none⟩,
  ⟨some 26, .fad 2 (.t 3), none⟩,
  ⟨none, .store 2 (.t 26) (.t 24), none⟩,
  ⟨some 27, .fad 8 (.t 3), none⟩,
  ⟨none, .store 2 (.t 27) (.t 25), none⟩]
def c_r11_Made_r4 (F : String → Nat) : List LI := [⟨some 28, .load true 10 (.t 3), none⟩,
  ⟨none, .store 10 (.t 2) (.t 28), none⟩]
def c_r11_Made (F : String → Nat) : LC := (.seq (.reg (c_r11_Made_r0 F) [1, 2]) (.seq (.reg (c_r11_Made_r1 F) [1, 2, 3]) (.seq (.reg (c_r11_Made_r2 F) [1, 2, 3]) (.seq (.reg (c_r11_Made_r3 F) [2, 3]) (.seq (.reg (c_r11_Made_r4 F) [2]) .ret)))))
def h_r11_Made : Hints := ⟨[], fun _ => [], tab [(0, [1, 2]), (1, [1, 2, 3]), (2, [1, 2, 3]), (3, [2, 3]), (4, [2])], tab []⟩

/- l11.few -/
def c_l11_few_r0 (F : String → Nat) : List LI := [⟨some 1, .bx (.t 0), none⟩,
  ⟨some 2, .mov (.k (.bool false)), none⟩]
def c_l11_few_r1 (F : String → Nat) : List LI := [⟨some 3, .fad 0 (.t 1), none⟩,
  ⟨some 4, .fad 0 (.t 3), none⟩,
  ⟨some 5, .load false 1 (.t 4), none⟩,
  ⟨some 6, .len (.t 5), none⟩,
  ⟨some 7, .bin .leq (.t 6) (.k (.int .i64 (4))), none⟩,
  ⟨some 8, .mov (.t 7), none⟩,
  ⟨some 9, .fad 0 (.t 1), some (8, true)⟩,
  ⟨some 10, .fad 1 (.t 9), some (8, true)⟩,
  ⟨some 11, .load false 1 (.t 10), some (8, true)⟩,
  ⟨some 12, .len (.t 11), some (8, true)⟩,
  ⟨some 13, .bin .leq (.t 12) (.k (.int .i64 (4))), some (8, true)⟩,
  ⟨some 14, .pick (.t 8) (.t 13) (.k (.bool false)), none⟩,
  ⟨some 15, .mov (.t 14), none⟩,
  ⟨some 16, .fad 2 (.t 1), some (15, true)⟩,
  ⟨some 17, .fad 0 (.t 16), some (15, true)⟩,
  ⟨some 18, .load false 1 (.t 17), some (15, true)⟩,
  ⟨some 19, .len (.t 18), some (15, true)⟩,
  ⟨some 20, .bin .leq (.t 19) (.k (.int .i64 (4))), some (15, true)⟩,
  ⟨some 21, .pick (.t 15) (.t 20) (.k (.bool false)), none⟩,
  ⟨some 22, .mov (.t 21), none⟩,
  ⟨some 23, .fad 2 (.t 1), some (22, true)⟩,
  ⟨some 24, .fad 1 (.t 23), some (22, true)⟩,
  ⟨some 25, .load false 1 (.t 24), some (22, true)⟩,
  ⟨some 26, .len (.t 25), some (22, true)⟩,
  ⟨some 27, .bin .leq (.t 26) (.k (.int .i64 (4))), some (22, true)⟩,
  ⟨some 28, .pick (.t 22) (.t 27) (.k (.bool false)), none⟩,
  ⟨some 29, .mov (.t 28), none⟩,
  ⟨some 30, .fad 4 (.t 1), some (29, true)⟩,
  ⟨some 31, .fad 0 (.t 30), some (29, true)⟩,
  ⟨some 32, .load false 1 (.t 31), some (29, true)⟩,
  ⟨some 33, .len (.t 32), some (29, true)⟩,
  ⟨some 34, .bin .leq (.t 33) (.k (.int .i64 (4))), some (29, true)⟩,
  ⟨some 35, .pick (.t 29) (.t 34) (.k (.bool false)), none⟩,
  ⟨some 36, .mov (.t 35), none⟩,
  ⟨some 37, .fad 4 (.t 1), some (36, true)⟩,
  ⟨some 38, .fad 1 (.t 37), some (36, true)⟩,
  ⟨some 39, .load false 1 (.t 38), some (36, true)⟩,
  ⟨some 40, .len (.t 39), some (36, true)⟩,
  ⟨some 41, .bin .leq (.t 40) (.k (.int .i64 (4))), some (36, true)⟩,
  ⟨some 42, .pick (.t 36) (.t 41) (.k (.bool false)), none⟩,
  ⟨some 2, .mov (.t 42), none⟩]
def c_l11_few (F : String → Nat) : LC := (.seq (.reg (c_l11_few_r0 F) [1]) (.seq (.reg (c_l11_few_r1 F) [2]) .ret))
def h_l11_few : Hints := ⟨[], fun _ => [], tab [(0, [1]), (1, [2])], tab []⟩

/- l11.PullbackExchanged -/
def c_l11_PullbackExchanged_r0 (F : String → Nat) : List LI := [⟨some 1, .bx (.t 0), none⟩,
  ⟨some 2, .mov (.k (.bool false)), none⟩]
def c_l11_PullbackExchanged_r1 (F : String → Nat) : List LI := [⟨some 8, .call (F "l11.awake") [] [], none⟩,
  ⟨some 9, .not (.t 8), none⟩,
  ⟨some 10, .mov (.t 9), none⟩,
  ⟨some 11, .load true 6 (.t 1), some (10, false)⟩,
  ⟨some 12, .call (F "l11.few") [.t 11] [], some (10, false)⟩,
  ⟨some 13, .not (.t 12), some (10, false)⟩,
  ⟨some 14, .pick (.t 10) (.k (.bool true)) (.t 13), none⟩]
def c_l11_PullbackExchanged_r2 (F : String → Nat) : List LI := [⟨some 15, .call (F "l11.awake") [] [], none⟩,
  ⟨some 2, .mov (.t 15), none⟩]
def c_l11_PullbackExchanged_r3 (F : String → Nat) : List LI := [⟨some 16, .load true 6 (.t 1), none⟩,
  ⟨some 17, .call (F "r11.Made") [.t 16] [], none⟩,
  ⟨some 3, .alloc [.nl 1, .nl 3, .nl 1, .nl 3, .nl 1, .nl 3, .nl 1, .nl 1, .nl 1, .nl 1], none⟩,
  ⟨none, .store 10 (.t 3) (.t 17), none⟩]
def c_l11_PullbackExchanged_r4 (F : String → Nat) : List LI := [⟨some 19, .fad 2 (.t 3), none⟩,
  ⟨some 20, .load true 2 (.t 19), none⟩,
  ⟨some 21, .fad 0 (.t 3), none⟩,
  ⟨some 22, .load true 2 (.t 21), none⟩,
  ⟨some 23, .fad 4 (.t 3), none⟩,
  ⟨some 24, .load true 2 (.t 23), none⟩,
  ⟨some 25, .fad 8 (.t 3), none⟩,
  ⟨some 26, .load true 2 (.t 25), none⟩,
  ⟨some 27, .fad 6 (.t 3), none⟩,
  ⟨some 28, .load true 2 (.t 27), none⟩,
  ⟨some 29, .build [.nl 1, .nl 3, .nl 1, .nl 3, .nl 1, .nl 3, .nl 1, .nl 1, .nl 1, .nl 1] [(0, 2, .t 20), (2, 2, .t 22), (4, 2, .t 24), (6, 2, .t 26), (8, 2, .t 28)], none⟩,
  ⟨some 30, .call (F "pullback.Of") [.t 29] [], none⟩,
  ⟨some 18, .mov (.t 30), none⟩,
  ⟨some 31, .ext (.t 18) 0, none⟩,
  ⟨some 32, .ext (.t 18) 1, none⟩,
  ⟨some 33, .ext (.t 18) 2, none⟩,
  ⟨some 34, .ext (.t 18) 3, none⟩,
  ⟨some 4, .alloc [.nl 1, .nl 3], none⟩,
  ⟨some 5, .alloc [.nl 1, .nl 1], none⟩,
  ⟨some 6, .alloc [.nl 1, .nl 1], none⟩,
  ⟨none, .store 2 (.t 4) (.t 31), none⟩,
  ⟨none, .store 2 (.t 5) (.t 32), none⟩,
  ⟨none, .store 2 (.t 6) (.t 33), none⟩,
  ⟨some 7, .mov (.t 34), none⟩]
def c_l11_PullbackExchanged_r5 (F : String → Nat) : List LI := [⟨some 35, .mov (.t 7), none⟩,
  ⟨some 36, .bin .eql (.t 35) (.k (.int .i64 (0))), none⟩,
  ⟨some 37, .mov (.t 36), none⟩,
  ⟨some 38, .load true 10 (.t 3), some (37, true)⟩,
  ⟨some 39, .load true 2 (.t 4), some (37, true)⟩,
  ⟨some 40, .load true 2 (.t 6), some (37, true)⟩,
  ⟨some 41, .load true 2 (.t 5), some (37, true)⟩,
  ⟨some 42, .call (F "pullback.Check") [.t 38, .t 39, .t 40, .t 41] [], some (37, true)⟩,
  ⟨some 43, .pick (.t 37) (.t 42) (.k (.bool false)), none⟩,
  ⟨some 2, .mov (.t 43), none⟩]
def c_l11_PullbackExchanged (F : String → Nat) : LC := (.seq (.reg (c_l11_PullbackExchanged_r0 F) [1]) (.seq (.seq (.reg (c_l11_PullbackExchanged_r1 F) [1, 14]) (.cond (.t 14) (.seq (.reg (c_l11_PullbackExchanged_r2 F) [2]) .ret) .skip)) (.seq (.reg (c_l11_PullbackExchanged_r3 F) [3]) (.seq (.reg (c_l11_PullbackExchanged_r4 F) [3, 4, 5, 6, 7]) (.seq (.reg (c_l11_PullbackExchanged_r5 F) [2]) .ret)))))
def h_l11_PullbackExchanged : Hints := ⟨[], fun _ => [], tab [(0, [1]), (1, [1, 14]), (2, [2]), (3, [3]), (4, [3, 4, 5, 6, 7]), (5, [2])], tab []⟩

attribute [go_sem] c_r11_Made_r0 c_r11_Made_r1 c_r11_Made_r2 c_r11_Made_r3 c_r11_Made_r4 c_r11_Made c_l11_few_r0 c_l11_few_r1 c_l11_few c_l11_PullbackExchanged_r0 c_l11_PullbackExchanged_r1 c_l11_PullbackExchanged_r2 c_l11_PullbackExchanged_r3 c_l11_PullbackExchanged_r4 c_l11_PullbackExchanged_r5 c_l11_PullbackExchanged
/-- A draft of a cospan. -/
structure Dt where
  d : Dr
  b : Dr
  c : Dr
def Dt.ok (x : Dt) : Prop := (x.d.ok ∧ x.b.ok ∧ x.c.ok) ∧ (x.d.n.length ≤ maxL ∧ x.d.e.length ≤ maxL) ∧ (x.b.n.length ≤ maxL ∧ x.b.e.length ≤ maxL) ∧ x.c.n.length ≤ maxL ∧ x.c.e.length ≤ maxL
def drL (x : Dr) : List D := [.lst 1 (u8s x.n), .lst 3 (trs x.e)]
def dtD (x : Dt) : D := .agg [.lst 1 (u8s x.d.n), .lst 3 (trs x.d.e), .lst 1 (u8s x.b.n), .lst 3 (trs x.b.e), .lst 1 (u8s x.c.n), .lst 3 (trs x.c.e)]
def csA (s : Cs) : D := .agg [.arr 1 (ints s.b.n), .arr 3 (eds s.b.e), .arr 1 (ints s.c.n), .arr 3 (eds s.c.e), .arr 1 (ints s.d.n), .arr 3 (eds s.d.e), .arr 1 (ints s.f.n), .arr 1 (ints s.f.e), .arr 1 (ints s.g.n), .arr 1 (ints s.g.e)]
def madeC (x : Dt) : Cs := ⟨overG (madeG x.d) x.b, overG (madeG x.d) x.c, madeG x.d, overM (madeG x.d) x.b, overM (madeG x.d) x.c⟩
def fewD (x : Dt) : Bool := decide ((x.d.n.length ≤ 4 ∧ x.d.e.length ≤ 4) ∧ (x.b.n.length ≤ 4 ∧ x.b.e.length ≤ 4) ∧ x.c.n.length ≤ 4 ∧ x.c.e.length ≤ 4)
section
variable (P : Program) (F : String → Nat)
def K_r11_Made : Prop := ∀ x : Dt, x.ok → FC P (F "r11.Made") [dtD x] (csA (madeC x)) []
def K_l11_few : Prop := ∀ x : Dt, x.ok → FC P (F "l11.few") [dtD x] (.bool (fewD x)) []
def K_l11_PullbackExchanged : Prop := ∀ x : Dt, x.ok → FC P (F "l11.PullbackExchanged") [dtD x] (.bool true) []
end
section
variable {P : Program} {F : String → Nat} {α : Type}
theorem ovL_mem {l : List Int} {n y : Int} (h : y ∈ ovL l n) : (0 ≤ y ∧ y < l.length) ∧ gt l y = n := by
  unfold ovL sel at h
  obtain ⟨k, hk, rfl⟩ := List.mem_map.1 h
  obtain ⟨h1, h2⟩ := List.mem_filter.1 hk
  simp at h1
  exact ⟨by omega, by simpa using h2⟩
theorem ovN_mem {d : G} {x : Dr} (hx : x.ok) {y : Int} (h : y ∈ ovN d x) : 0 ≤ y ∧ y < d.n.length := by
  unfold ovN at h
  split at h
  · simp at h
  · rename_i hc
    obtain ⟨v, hv, rfl⟩ := List.mem_map.1 h
    exact tmod_bd (hx.1 v (List.mem_of_mem_take hv)).1 (Int.natCast_pos.2 (Nat.pos_of_ne_zero hc))
theorem ovN_len (d : G) (x : Dr) : (ovN d x).length ≤ 8 ∧ (ovN d x).length ≤ x.n.length := by
  unfold ovN
  split
  · simp
  · simp; omega
/-- The edges over edges. -/
def OvI (d : G) (ns : List Int) (s : List E × List Int) : Prop := s.1.length = s.2.length ∧ ∀ i : Nat, i < s.2.length → (0 ≤ gt s.2 i ∧ gt s.2 i < d.e.length) ∧ (gt s.1 i).t = (gt d.e (gt s.2 i)).t ∧
  ((0 ≤ (gt s.1 i).f ∧ (gt s.1 i).f < ns.length) ∧ gt ns (gt s.1 i).f = (gt d.e (gt s.2 i)).f) ∧ (0 ≤ (gt s.1 i).o ∧ (gt s.1 i).o < ns.length) ∧ gt ns (gt s.1 i).o = (gt d.e (gt s.2 i)).o
theorem gt_app' {α : Type} [Inhabited α] {l : List α} {x : α} {i : Nat} (h : i < l.length) : gt (l ++ [x]) (i : Int) = gt l i := by
  rw [gt_nat (by simp; omega), gt_nat h, List.getElem_append_left h]
theorem gt_last' {α : Type} [Inhabited α] {l : List α} {x : α} {i : Nat} (h : i = l.length) : gt (l ++ [x]) (i : Int) = x := by
  subst h
  rw [gt_nat (by simp)]; simp
theorem ovS_ok {d : G} {ns : List Int} {s : List E × List Int} {t : E} (h : OvI d ns s) (ht : Byte t.t ∧ Byte t.f ∧ Byte t.o) (hd : 0 < d.e.length) : OvI d ns (ovS d ns s t) := by
  unfold ovS
  have hk := tmod_bd (x := t.t) (m := (d.e.length : Int)) ht.1.1 (by omega)
  generalize t.t.tmod (d.e.length : Int) = k at *
  split
  · exact h
  · rename_i hc
    have hf := tmod_bd (x := t.f) (m := ((ovL ns (gt d.e k).f).length : Int)) ht.2.1.1 (by omega)
    have ho := tmod_bd (x := t.o) (m := ((ovL ns (gt d.e k).o).length : Int)) ht.2.2.1 (by omega)
    have m1 := ovL_mem (gt_mem hf.1 hf.2)
    have m2 := ovL_mem (gt_mem ho.1 ho.2)
    generalize gt (ovL ns (gt d.e k).f) (t.f.tmod ((ovL ns (gt d.e k).f).length : Int)) = a at *
    generalize gt (ovL ns (gt d.e k).o) (t.o.tmod ((ovL ns (gt d.e k).o).length : Int)) = b at *
    obtain ⟨es, ms⟩ := s
    obtain ⟨h1, h2⟩ := h
    simp only at h1 h2 ⊢
    refine ⟨by simp [h1], fun i hi => ?_⟩
    simp only [List.length_append, List.length_singleton] at hi
    simp only
    by_cases c : i < ms.length
    · rw [gt_app' c, gt_app' (by omega)]
      exact h2 i c
    · rw [gt_last' (show i = ms.length by omega), gt_last' (show i = es.length by omega)]
      exact ⟨hk, rfl, m1, m2⟩
theorem ovE_ok {d : G} {ns : List Int} (hd : 0 < d.e.length) : ∀ {l : List E} {s : List E × List Int}, (∀ t ∈ l, Byte t.t ∧ Byte t.f ∧ Byte t.o) → OvI d ns s → OvI d ns (l.foldl (ovS d ns) s)
  | [], s, _, h => h
  | t :: l, s, ht, h => by
    rw [List.foldl_cons]
    exact ovE_ok hd (fun u hu => ht u (by simp [hu])) (ovS_ok h (ht t (by simp)) hd)
theorem overE_ok {d : G} {x : Dr} (hx : x.ok) : OvI d (ovN d x) (overE d x) := by
  have h0 : OvI d (ovN d x) ([], []) := ⟨rfl, fun i hi => by simp at hi⟩
  unfold overE
  split
  · exact h0
  · exact ovE_ok (by omega) (fun t ht => hx.2 t (List.mem_of_mem_take ht)) h0
theorem ovE_len {d : G} {ns : List Int} : ∀ {l : List E} {s : List E × List Int}, (l.foldl (ovS d ns) s).1.length ≤ s.1.length + l.length
  | [], s => by simp
  | t :: l, s => by
    have := ovE_len (d := d) (ns := ns) (l := l) (s := ovS d ns s t)
    have h2 : (ovS d ns s t).1.length ≤ s.1.length + 1 := by
      unfold ovS
      split
      · omega
      · simp
    simp only [List.foldl_cons, List.length_cons]
    omega
theorem overE_len (d : G) (x : Dr) : (overE d x).1.length ≤ 10 ∧ (overE d x).1.length ≤ x.e.length := by
  unfold overE
  split
  · simp
  · have := ovE_len (d := d) (ns := ovN d x) (l := x.e.take 10) (s := ([], []))
    simp only [ovE]
    simp at this
    omega
theorem over_ok {d : G} {x : Dr} (vd : validG d = 0) (hx : x.ok) : MOk (overG d x) d (overM d x) := by
  obtain ⟨h1, h2⟩ := overE_ok (d := d) hx
  obtain ⟨l1, _⟩ := ovN_len d x
  obtain ⟨l2, _⟩ := overE_len d x
  have vs := valid_spec vd
  refine ⟨valid_mk ?_ ?_ (fun y hy => ?_) (fun y hy => ?_), vd, ?_, ?_, fun i hi => ?_, fun i hi => ?_⟩
  · simp only [overG, List.length_map]; omega
  · simp only [overG]; omega
  · simp only [overG, List.mem_map] at hy
    obtain ⟨v, hv, rfl⟩ := hy
    have := ovN_mem hx hv
    exact vs.2.2.1 _ (gt_mem this.1 this.2)
  · simp only [overG] at hy ⊢
    obtain ⟨i, hi, rfl⟩ := mem_gt hy
    obtain ⟨a1, a2, a3, a4⟩ := h2 i (by omega)
    have := edge_fits vd a1
    simp only [List.length_map]
    exact fits_mk (by rw [a2]; exact this.1) a3.1 a4.1
  · simp [overG, overM]
  · simp [overG, overM, h1]
  · simp only [overG, overM, List.length_map] at hi ⊢
    exact ⟨ovN_mem hx (gt_mem (by omega) (by omega)), (gt_map hi).symm⟩
  · simp only [overG, overM] at hi ⊢
    obtain ⟨a1, a2, a3, a4⟩ := h2 i (by omega)
    exact ⟨a1, a2, a3.2, a4.2⟩
theorem pairsL_le {f g : List Int} (hf : f.length ≤ 4) (hg : g.length ≤ 4) : (pairsL f g).length ≤ 16 := by
  have h := pairsI_len f g f.length
  have : f.length * g.length ≤ 4 * 4 := Nat.mul_le_mul hf hg
  unfold pairsL
  omega
theorem madeG_len (x : Dr) : (madeG x).n.length ≤ x.n.length ∧ (madeG x).e.length ≤ x.e.length := by
  unfold madeG madeN
  simp only
  constructor
  · simp; omega
  · split
    · simp
    · simp; omega
/-- What a small draft makes. -/
structure Mad (s : Cs) : Prop where
  f : MOk s.b s.d s.f
  g : MOk s.c s.d s.g
  l1 : s.b.n.length ≤ 4
  l2 : s.b.e.length ≤ 4
  l3 : s.c.n.length ≤ 4
  l4 : s.c.e.length ≤ 4
  l5 : s.d.n.length ≤ 4
  l6 : s.d.e.length ≤ 4
theorem made_ok {x : Dt} (hx : x.ok) (hf : fewD x = true) : Mad (madeC x) := by
  unfold fewD at hf
  simp only [decide_eq_true_eq] at hf
  have vd := madeG_valid hx.1.1
  have a1 := madeG_len x.d
  have a2 := ovN_len (madeG x.d) x.b
  have a3 := ovN_len (madeG x.d) x.c
  have a4 := overE_len (madeG x.d) x.b
  have a5 := overE_len (madeG x.d) x.c
  refine ⟨over_ok vd hx.1.2.1, over_ok vd hx.1.2.2, ?_, ?_, ?_, ?_, ?_, ?_⟩ <;> simp only [madeC, overG, List.length_map] <;> omega
theorem Mad.err {s : Cs} (h : Mad s) : pbErr s = 0 := by
  have g0 : givenE s = 0 := by
    unfold givenE
    rw [if_neg (by rw [mok.2 h.f]; simp)]
    exact mok.2 h.g
  have a1 := h.f.ln
  have a2 := h.f.le
  have a3 := h.g.ln
  have a4 := h.g.le
  have := h.l1
  have := h.l2
  have := h.l3
  have := h.l4
  have b1 := pairsL_le (f := s.f.n) (g := s.g.n) (by omega) (by omega)
  have b2 := pairsL_le (f := s.f.e) (g := s.g.e) (by omega) (by omega)
  unfold pbErr
  rw [if_neg (by simp [g0]), if_neg]
  unfold pbN pbE
  omega
theorem Mad.sw {s : Cs} (h : Mad s) : Mad s.sw := ⟨h.g, h.f, h.l3, h.l4, h.l1, h.l2, h.l5, h.l6⟩
theorem w_r11_Made (hm : K_r05_Made P F) (ho : K_r11_Over P F) (x : Dt) (hx : x.ok) : W P (c_r11_Made F) (Done [.c 2 true 10] [] (csA (madeC x)) []) (init [dtD x]) := by
  refine W_of ?_
  have r1 := hm x.d hx.1.1 hx.2.1.1 hx.2.1.2
  have vd := madeG_valid hx.1.1
  have r2 := ho (madeG x.d) x.b vd hx.1.2.1 hx.2.2.1.1 hx.2.2.1.2
  have r3 := ho (madeG x.d) x.c vd hx.1.2.2 hx.2.2.2.1 hx.2.2.2.2
  unfold madeC
  generalize overG (madeG x.d) x.b = q1 at *
  generalize overG (madeG x.d) x.c = q2 at *
  generalize overM (madeG x.d) x.b = q3 at *
  generalize overM (madeG x.d) x.c = q4 at *
  generalize madeG x.d = q5 at *
  simp only [drD, gD, gA, mA, csA, dtD] at *
  simp (config := { maxSteps := 1000000 }) (disch := first | omega | (simp only [go_sem]; omega)) only [go_sem, ↓reduceIte]
  refine call_by r1 ?_
  simp (config := { maxSteps := 1000000 }) (disch := first | omega | (simp only [go_sem]; omega)) only [go_sem, ↓reduceIte]
  refine call_by r2 ?_
  simp (config := { maxSteps := 1000000 }) (disch := first | omega | (simp only [go_sem]; omega)) only [go_sem, ↓reduceIte]
  refine call_by r3 ?_
  simp (config := { maxSteps := 1000000 }) (disch := first | omega | (simp only [go_sem]; omega)) only [go_sem, ↓reduceIte]
  try rfl
set_option maxRecDepth 100000 in
theorem w_l11_few (x : Dt) (hx : x.ok) : W P (c_l11_few F) (Done [.t 2] [] (.bool (fewD x)) []) (init [dtD x]) := by
  refine W_of ?_
  obtain ⟨_, l1, l2, l3⟩ := hx
  unfold fewD
  obtain ⟨⟨dn, de⟩, ⟨bn, be⟩, cn, ce⟩ := x
  unfold maxL at *
  simp only [dtD] at *
  by_cases c0 : dn.length ≤ 4
  · have e0 : decide ((dn.length : Int) ≤ 4) = true := decide_eq_true (by omega)
    by_cases c1 : de.length ≤ 4
    · have e1 : decide ((de.length : Int) ≤ 4) = true := decide_eq_true (by omega)
      by_cases c2 : bn.length ≤ 4
      · have e2 : decide ((bn.length : Int) ≤ 4) = true := decide_eq_true (by omega)
        by_cases c3 : be.length ≤ 4
        · have e3 : decide ((be.length : Int) ≤ 4) = true := decide_eq_true (by omega)
          by_cases c4 : cn.length ≤ 4
          · have e4 : decide ((cn.length : Int) ≤ 4) = true := decide_eq_true (by omega)
            by_cases c5 : ce.length ≤ 4
            · have e5 : decide ((ce.length : Int) ≤ 4) = true := decide_eq_true (by omega)
              simp (config := { maxSteps := 1000000 }) (disch := first | omega | (simp only [go_sem]; omega)) only [go_sem, ↓reduceIte, e0, e1, e2, e3, e4, e5]
              simp [c0, c1, c2, c3, c4, c5]
            · have e5 : decide ((ce.length : Int) ≤ 4) = false := decide_eq_false (by omega)
              simp (config := { maxSteps := 1000000 }) (disch := first | omega | (simp only [go_sem]; omega)) only [go_sem, ↓reduceIte, e0, e1, e2, e3, e4, e5]
              simp [c5]
          · have e4 : decide ((cn.length : Int) ≤ 4) = false := decide_eq_false (by omega)
            simp (config := { maxSteps := 1000000 }) (disch := first | omega | (simp only [go_sem]; omega)) only [go_sem, ↓reduceIte, e0, e1, e2, e3, e4]
            simp [c4]
        · have e3 : decide ((be.length : Int) ≤ 4) = false := decide_eq_false (by omega)
          simp (config := { maxSteps := 1000000 }) (disch := first | omega | (simp only [go_sem]; omega)) only [go_sem, ↓reduceIte, e0, e1, e2, e3]
          simp [c3]
      · have e2 : decide ((bn.length : Int) ≤ 4) = false := decide_eq_false (by omega)
        simp (config := { maxSteps := 1000000 }) (disch := first | omega | (simp only [go_sem]; omega)) only [go_sem, ↓reduceIte, e0, e1, e2]
        simp [c2]
    · have e1 : decide ((de.length : Int) ≤ 4) = false := decide_eq_false (by omega)
      simp (config := { maxSteps := 1000000 }) (disch := first | omega | (simp only [go_sem]; omega)) only [go_sem, ↓reduceIte, e0, e1]
      simp [c1]
  · have e0 : decide ((dn.length : Int) ≤ 4) = false := decide_eq_false (by omega)
    simp (config := { maxSteps := 1000000 }) (disch := first | omega | (simp only [go_sem]; omega)) only [go_sem, ↓reduceIte, e0]
    simp [c0]
theorem w_l11_PullbackExchanged (hw : K_l11_awake P F) (hf : K_l11_few P F) (hm : K_r11_Made P F) (ho : K_pullback_Of P F) (hc : K_pullback_Check P F) (x : Dt) (hx : x.ok) : W P (c_l11_PullbackExchanged F) (Done [.t 2] [] (.bool true) []) (init [dtD x]) := by
  refine W_of ?_
  have f1 := hf x hx
  have r1 := hm x hx
  have hmad := @made_ok x hx
  generalize fewD x = fw at *
  generalize madeC x = s at *
  have r2 := ho s.sw
  have r3 := hc s (pbG s.sw) (pbQ s.sw) (pbP s.sw)
  have hE : fw = true → pbErr s.sw = 0 ∧ checkM s (pbG s.sw) (pbQ s.sw) (pbP s.sw) = true := fun h => ⟨(hmad h).sw.err, check_sw (hmad h).err (hmad h).sw.err⟩
  generalize checkM s (pbG s.sw) (pbQ s.sw) (pbP s.sw) = ck at *
  generalize pbG s.sw = gg at *
  generalize pbP s.sw = pp at *
  generalize pbQ s.sw = qq at *
  generalize pbErr s.sw = er at *
  obtain ⟨⟨bn, be⟩, ⟨cn, ce⟩, ⟨dn, de⟩, ⟨fn, fe⟩, ⟨gn, ge⟩⟩ := s
  obtain ⟨⟨xn, xe⟩, ⟨yn, ye⟩, ⟨zn, ze⟩⟩ := x
  simp only [Cs.sw, csA, csD, gD, gA, mD, mA, dtD] at *
  simp (config := { maxSteps := 1000000 }) (disch := first | omega | (simp only [go_sem]; omega)) only [go_sem, ↓reduceIte]
  refine call_by hw ?_
  simp (config := { maxSteps := 1000000 }) (disch := first | omega | (simp only [go_sem]; omega)) only [go_sem, ↓reduceIte]
  refine call_by f1 ?_
  cases fw
  · simp (config := { maxSteps := 1000000 }) (disch := first | omega | (simp only [go_sem]; omega)) only [go_sem, ↓reduceIte]
    refine call_by hw ?_
    simp (config := { maxSteps := 1000000 }) (disch := first | omega | (simp only [go_sem]; omega)) only [go_sem, ↓reduceIte]
  · obtain ⟨e1, e2⟩ := hE rfl
    subst e1 e2
    simp (config := { maxSteps := 1000000 }) (disch := first | omega | (simp only [go_sem]; omega)) only [go_sem, ↓reduceIte]
    refine call_by r1 ?_
    simp (config := { maxSteps := 1000000 }) (disch := first | omega | (simp only [go_sem]; omega)) only [go_sem, ↓reduceIte]
    refine call_by r2 ?_
    simp (config := { maxSteps := 1000000 }) (disch := first | omega | (simp only [go_sem]; omega)) only [go_sem, ↓reduceIte]
    refine call_by r3 ?_
    simp (config := { maxSteps := 1000000 }) (disch := first | omega | (simp only [go_sem]; omega)) only [go_sem, ↓reduceIte]
    try simp
theorem rd_dl {ds : List D} (h : HasShs [shU8s, .slc 3 3 shTr] ds) : ∃ g : Dr, ds = drL g ∧ g.ok ∧ g.n.length ≤ maxL ∧ g.e.length ≤ maxL := by
  have h' : ∃ a b, ds = a :: b ∧ HasEl shU8s a ∧ HasShs [.slc 3 3 shTr] b := by simpa only [shU8s, HasShs] using h
  obtain ⟨a, _, rfl, h1, h'⟩ := h'
  obtain ⟨l, rfl, hl, hl2⟩ := rd_u8s h1
  simp only [HasShs, HasEl] at h'
  obtain ⟨_, _, rfl, ⟨xs, rfl, hb, h3⟩, rfl⟩ := h'
  obtain ⟨es, rfl, he⟩ := rd_trl h3
  refine ⟨⟨l, es⟩, rfl, ⟨hl, he⟩, hl2, ?_⟩
  rw [trs_length] at hb
  unfold reachBytes at hb
  simp only [maxL]
  omega
def shDt : Sh := .cat [shDr, shDr, shDr]
theorem rd_dt {x : D} (h : HasEl shDt x) : ∃ d : Dt, x = dtD d ∧ d.ok := by
  simp only [shDt, HasEl] at h
  obtain ⟨ds, rfl, h⟩ := h
  obtain ⟨_, _, rfl, h1, h⟩ := hasShs_cat h
  obtain ⟨_, _, rfl, h2, h⟩ := hasShs_cat h
  obtain ⟨_, _, rfl, h3, h⟩ := hasShs_cat h
  obtain rfl := hasShs_nil h
  obtain ⟨a, rfl, a1, a2, a3⟩ := rd_dl h1
  obtain ⟨b, rfl, b1, b2, b3⟩ := rd_dl h2
  obtain ⟨c, rfl, c1, c2, c3⟩ := rd_dl h3
  exact ⟨⟨a, b, c⟩, rfl, ⟨a1, b1, c1⟩, ⟨a2, a3⟩, ⟨b2, b3⟩, c2, c3⟩
theorem x_l11_PullbackExchanged (h : K_l11_PullbackExchanged P F) (args : List D) (ha : HasEls [shDt] args) : FC P (F "l11.PullbackExchanged") args (.bool true) [] := by
  simp only [HasEls] at ha
  obtain ⟨_, _, rfl, h1, rfl⟩ := ha
  obtain ⟨s, rfl, k1⟩ := rd_dt h1
  exact h s k1
end
end Go.Am
