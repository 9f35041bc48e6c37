/- The law: an equalizer contains an image exactly if both morphisms are the same after it. -/
import Derived.Test.YtkllpeebnabdiaaSnF
namespace Go.Am
open Go
set_option linter.unusedVariables false
set_option linter.unusedSimpArgs false
attribute [local irreducible] W
/- r07.In -/
def c_r07_In_r0 (F : String → Nat) : List LI := [⟨some 2, .bx (.t 0), none⟩,
  ⟨some 3, .bx (.t 1), none⟩,
  ⟨some 4, .mov (.k (.bool false)), none⟩]
def c_r07_In_r1 (F : String → Nat) : List LI := [⟨some 5, .fad 0 (.t 2), none⟩,
  ⟨some 6, .load false 1 (.t 5), none⟩,
  ⟨some 7, .fad 0 (.t 3), none⟩,
  ⟨some 8, .load false 1 (.t 7), none⟩,
  ⟨some 9, .call (F "r07.into") [.t 6, .t 8] [], none⟩,
  ⟨some 10, .len (.t 9), none⟩,
  ⟨some 11, .fad 0 (.t 2), none⟩,
  ⟨some 12, .load false 1 (.t 11), none⟩,
  ⟨some 13, .len (.t 12), none⟩,
  ⟨some 14, .bin .eql (.t 10) (.t 13), none⟩,
  ⟨some 15, .mov (.t 14), none⟩,
  ⟨some 16, .fad 1 (.t 2), some (15, true)⟩,
  ⟨some 17, .load false 1 (.t 16), some (15, true)⟩,
  ⟨some 18, .fad 1 (.t 3), some (15, true)⟩,
  ⟨some 19, .load false 1 (.t 18), some (15, true)⟩,
  ⟨some 20, .call (F "r07.into") [.t 17, .t 19] [], some (15, true)⟩,
  ⟨some 21, .len (.t 20), some (15, true)⟩,
  ⟨some 22, .fad 1 (.t 2), some (15, true)⟩,
  ⟨some 23, .load false 1 (.t 22), some (15, true)⟩,
  ⟨some 24, .len (.t 23), some (15, true)⟩,
  ⟨some 25, .bin .eql (.t 21) (.t 24), some (15, true)⟩,
  ⟨some 26, .pick (.t 15) (.t 25) (.k (.bool false)), none⟩,
  ⟨some 4, .mov (.t 26), none⟩]
def c_r07_In (F : String → Nat) : LC := (.seq (.reg (c_r07_In_r0 F) [2, 3]) (.seq (.dreg [(4, none, [], true), (7, (some 64), [4], false), (15, none, [], true), (18, (some 133119), [15], false)] (c_r07_In_r1 F) [4]) .ret))
def h_r07_In : Hints := ⟨[], fun _ => [], tab [(0, [2, 3]), (1, [4])], tab []⟩

/- l11.PullbackMono -/
def c_l11_PullbackMono_r0 (F : String → Nat) : List LI := [⟨some 2, .bx (.t 0), none⟩,
  ⟨some 3, .bx (.t 1), none⟩,
  ⟨some 4, .mov (.k (.bool false)), none⟩]
def c_l11_PullbackMono_r1 (F : String → Nat) : List LI := [⟨some 16, .call (F "l11.awake") [] [], none⟩,
  ⟨some 17, .not (.t 16), none⟩,
  ⟨some 18, .mov (.t 17), none⟩,
  ⟨some 19, .load true 6 (.t 2), some (18, false)⟩,
  ⟨some 20, .call (F "l11.few") [.t 19] [], some (18, false)⟩,
  ⟨some 21, .not (.t 20), some (18, false)⟩,
  ⟨some 22, .pick (.t 18) (.k (.bool true)) (.t 21), none⟩,
  ⟨some 23, .mov (.t 22), none⟩,
  ⟨some 24, .fad 0 (.t 3), some (23, false)⟩,
  ⟨some 25, .load false 1 (.t 24), some (23, false)⟩,
  ⟨some 26, .len (.t 25), some (23, false)⟩,
  ⟨some 27, .bin .gtr (.t 26) (.k (.int .i64 (4))), some (23, false)⟩,
  ⟨some 28, .pick (.t 23) (.k (.bool true)) (.t 27), none⟩,
  ⟨some 29, .mov (.t 28), none⟩,
  ⟨some 30, .fad 1 (.t 3), some (29, false)⟩,
  ⟨some 31, .load false 1 (.t 30), some (29, false)⟩,
  ⟨some 32, .len (.t 31), some (29, false)⟩,
  ⟨some 33, .bin .gtr (.t 32) (.k (.int .i64 (4))), some (29, false)⟩,
  ⟨some 34, .pick (.t 29) (.k (.bool true)) (.t 33), none⟩]
def c_l11_PullbackMono_r2 (F : String → Nat) : List LI := [⟨some 35, .call (F "l11.awake") [] [], none⟩,
  ⟨some 4, .mov (.t 35), none⟩]
def c_l11_PullbackMono_r3 (F : String → Nat) : List LI := [⟨some 36, .load true 6 (.t 2), none⟩,
  ⟨some 37, .call (F "r11.Made") [.t 36] [], none⟩,
  ⟨some 5, .alloc [.nl 1, .nl 3, .nl 1, .nl 3, .nl 1, .nl 3, .nl 1, .nl 1, .nl 1, .nl 1], none⟩,
  ⟨none, .store 10 (.t 5) (.t 37), none⟩]
def c_l11_PullbackMono_r4 (F : String → Nat) : List LI := [⟨some 38, .fad 0 (.t 5), none⟩,
  ⟨some 39, .load true 2 (.t 38), none⟩,
  ⟨some 40, .fad 6 (.t 5), none⟩,
  ⟨some 41, .load true 2 (.t 40), none⟩,
  ⟨some 42, .fad 2 (.t 5), none⟩,
  ⟨none, .store 2 (.t 42) (.t 39), none⟩,
  ⟨some 43, .fad 8 (.t 5), none⟩,
  ⟨none, .store 2 (.t 43) (.t 41), none⟩]
def c_l11_PullbackMono_r5 (F : String → Nat) : List LI := [⟨some 45, .load true 10 (.t 5), none⟩,
  ⟨some 46, .call (F "r11.Of") [.t 45] [], none⟩,
  ⟨some 44, .mov (.t 46), none⟩,
  ⟨some 47, .ext (.t 44) 0, none⟩,
  ⟨some 48, .ext (.t 44) 1, none⟩,
  ⟨some 49, .ext (.t 44) 2, none⟩,
  ⟨some 50, .ext (.t 44) 3, none⟩,
  ⟨some 6, .alloc [.nl 1, .nl 3], none⟩,
  ⟨some 7, .alloc [.nl 1, .nl 1], none⟩,
  ⟨some 8, .alloc [.nl 1, .nl 1], none⟩,
  ⟨none, .store 2 (.t 6) (.t 47), none⟩,
  ⟨none, .store 2 (.t 7) (.t 48), none⟩,
  ⟨none, .store 2 (.t 8) (.t 49), none⟩,
  ⟨some 9, .mov (.t 50), none⟩]
def c_l11_PullbackMono_r6 (F : String → Nat) : List LI := [⟨some 51, .mov (.t 9), none⟩,
  ⟨some 52, .bin .neq (.t 51) (.k (.int .i64 (0))), none⟩]
def c_l11_PullbackMono_r7 (F : String → Nat) : List LI := [⟨some 4, .mov (.k (.bool true)), none⟩]
def c_l11_PullbackMono_r8 (F : String → Nat) : List LI := [⟨some 54, .load true 2 (.t 6), none⟩,
  ⟨some 55, .load true 2 (.t 3), none⟩,
  ⟨some 56, .call (F "r11.Over") [.t 54, .t 55] [], none⟩,
  ⟨some 53, .mov (.t 56), none⟩,
  ⟨some 57, .ext (.t 53) 0, none⟩,
  ⟨some 58, .ext (.t 53) 1, none⟩,
  ⟨some 10, .alloc [.nl 1, .nl 3], none⟩,
  ⟨some 11, .alloc [.nl 1, .nl 1], none⟩,
  ⟨none, .store 2 (.t 10) (.t 57), none⟩,
  ⟨none, .store 2 (.t 11) (.t 58), none⟩]
def c_l11_PullbackMono_r9 (F : String → Nat) : List LI := [⟨some 60, .load true 2 (.t 6), none⟩,
  ⟨some 61, .fad 0 (.t 5), none⟩,
  ⟨some 62, .load true 2 (.t 61), none⟩,
  ⟨some 63, .load true 2 (.t 7), none⟩,
  ⟨some 64, .load true 2 (.t 8), none⟩,
  ⟨some 65, .call (F "pullback.Equalizer") [.t 60, .t 62, .t 63, .t 64] [], none⟩,
  ⟨some 59, .mov (.t 65), none⟩,
  ⟨some 66, .ext (.t 59) 0, none⟩,
  ⟨some 67, .ext (.t 59) 1, none⟩,
  ⟨some 12, .alloc [.nl 1, .nl 1], none⟩,
  ⟨none, .store 2 (.t 12) (.t 66), none⟩,
  ⟨some 13, .mov (.t 67), none⟩]
def c_l11_PullbackMono_r10 (F : String → Nat) : List LI := [⟨some 69, .load true 2 (.t 10), none⟩,
  ⟨some 70, .load true 2 (.t 6), none⟩,
  ⟨some 71, .load true 2 (.t 11), none⟩,
  ⟨some 72, .call (F "r07.Image") [.t 69, .t 70, .t 71] [], none⟩,
  ⟨some 68, .mov (.t 72), none⟩,
  ⟨some 73, .ext (.t 68) 0, none⟩,
  ⟨some 74, .ext (.t 68) 1, none⟩,
  ⟨some 14, .alloc [.nl 1, .nl 1], none⟩,
  ⟨none, .store 2 (.t 14) (.t 73), none⟩,
  ⟨some 15, .mov (.t 74), none⟩]
def c_l11_PullbackMono_r11 (F : String → Nat) : List LI := [⟨some 75, .mov (.t 13), none⟩,
  ⟨some 76, .bin .neq (.t 75) (.k (.int .i64 (0))), none⟩,
  ⟨some 77, .mov (.t 76), none⟩,
  ⟨some 78, .mov (.t 15), some (77, false)⟩,
  ⟨some 79, .bin .neq (.t 78) (.k (.int .i64 (0))), some (77, false)⟩,
  ⟨some 80, .pick (.t 77) (.k (.bool true)) (.t 79), none⟩]
def c_l11_PullbackMono_r12 (F : String → Nat) : List LI := [⟨some 4, .mov (.k (.bool false)), none⟩]
def c_l11_PullbackMono_r13 (F : String → Nat) : List LI := [⟨some 81, .load true 2 (.t 14), none⟩,
  ⟨some 82, .load true 2 (.t 12), none⟩,
  ⟨some 83, .call (F "r07.In") [.t 81, .t 82] [], none⟩,
  ⟨some 84, .load true 2 (.t 11), none⟩,
  ⟨some 85, .load true 2 (.t 7), none⟩,
  ⟨some 86, .call (F "r06.Then") [.t 84, .t 85] [], none⟩,
  ⟨some 87, .load true 2 (.t 11), none⟩,
  ⟨some 88, .load true 2 (.t 8), none⟩,
  ⟨some 89, .call (F "r06.Then") [.t 87, .t 88] [], none⟩,
  ⟨some 90, .call (F "r06.Same") [.t 86, .t 89] [], none⟩,
  ⟨some 91, .eqB false (.t 83) (.t 90), none⟩,
  ⟨some 4, .mov (.t 91), none⟩]
def c_l11_PullbackMono (F : String → Nat) : LC := (.seq (.reg (c_l11_PullbackMono_r0 F) [2, 3]) (.seq (.seq (.reg (c_l11_PullbackMono_r1 F) [2, 3, 34]) (.cond (.t 34) (.seq (.reg (c_l11_PullbackMono_r2 F) [4]) .ret) .skip)) (.seq (.reg (c_l11_PullbackMono_r3 F) [3, 5]) (.seq (.reg (c_l11_PullbackMono_r4 F) [3, 5]) (.seq (.reg (c_l11_PullbackMono_r5 F) [3, 5, 6, 7, 8, 9]) (.seq (.seq (.reg (c_l11_PullbackMono_r6 F) [3, 5, 6, 7, 8, 52]) (.cond (.t 52) (.seq (.reg (c_l11_PullbackMono_r7 F) [4]) .ret) .skip)) (.seq (.reg (c_l11_PullbackMono_r8 F) [5, 6, 7, 8, 10, 11]) (.seq (.reg (c_l11_PullbackMono_r9 F) [6, 7, 8, 10, 11, 12, 13]) (.seq (.reg (c_l11_PullbackMono_r10 F) [7, 8, 11, 12, 13, 14, 15]) (.seq (.seq (.reg (c_l11_PullbackMono_r11 F) [7, 8, 11, 12, 14, 80]) (.cond (.t 80) (.seq (.reg (c_l11_PullbackMono_r12 F) [4]) .ret) .skip)) (.seq (.dreg [(2, none, [], true), (3, (some 0), [2], false), (4, (some 0), [2], false), (5, none, [], true), (6, (some 0), [2, 5], false), (7, (some 0), [2, 5], false)] (c_l11_PullbackMono_r13 F) [4]) .ret)))))))))))
def h_l11_PullbackMono : Hints := ⟨[], fun _ => [], tab [(0, [2, 3]), (1, [2, 3, 34]), (2, [4]), (3, [3, 5]), (4, [3, 5]), (5, [3, 5, 6, 7, 8, 9]), (6, [3, 5, 6, 7, 8, 52]), (7, [4]), (8, [5, 6, 7, 8, 10, 11]), (9, [6, 7, 8, 10, 11, 12, 13]), (10, [7, 8, 11, 12, 13, 14, 15]), (11, [7, 8, 11, 12, 14, 80]), (12, [4]), (13, [4])], tab []⟩

attribute [go_sem] c_r07_In_r0 c_r07_In_r1 c_r07_In c_l11_PullbackMono_r0 c_l11_PullbackMono_r1 c_l11_PullbackMono_r2 c_l11_PullbackMono_r3 c_l11_PullbackMono_r4 c_l11_PullbackMono_r5 c_l11_PullbackMono_r6 c_l11_PullbackMono_r7 c_l11_PullbackMono_r8 c_l11_PullbackMono_r9 c_l11_PullbackMono_r10 c_l11_PullbackMono_r11 c_l11_PullbackMono_r12 c_l11_PullbackMono_r13 c_l11_PullbackMono
def inB (l p : List Int) : Bool := decide (∀ x ∈ l, x ∈ p)
def inM (p q : Mo) : Bool := inB p.n q.n && inB p.e q.e
section
variable (P : Program) (F : String → Nat)
def K_r07_In : Prop := ∀ p q : Mo, p.n.length ≤ 10000 → p.e.length ≤ 10000 → q.n.length ≤ maxL → q.e.length ≤ maxL → FC P (F "r07.In") [mD p, mD q] (.bool (inM p q)) []
def K_l11_PullbackMono : Prop := ∀ (x : Dt) (y : Dr), x.ok → y.ok → y.n.length ≤ maxL → y.e.length ≤ maxL → FC P (F "l11.PullbackMono") [dtD x, drD y] (.bool true) []
end
section
variable {P : Program} {F : String → Nat} {α : Type}
theorem sel_full {p : Nat → Bool} : ∀ n, (sel p n).length = n ↔ ∀ k : Nat, k < n → p k = true
  | 0 => by simp [sel_zero]
  | n + 1 => by
    have ih := sel_full (p := p) n
    have hl := sel_len p n
    rw [sel_succ]
    constructor
    · intro h k hk
      split at h
      · rename_i hp
        simp only [List.length_append, List.length_singleton] at h
        by_cases c : k = n
        · rw [c]; exact hp
        · exact ih.1 (by omega) k (by omega)
      · omega
    · intro h
      rw [if_pos (h n (by omega))]
      simp [ih.2 fun k hk => h k (by omega)]
theorem into_full (l p : List Int) : decide (((intoL l p).length : Int) = l.length) = inB l p := by
  unfold inB
  rw [decide_eq_decide, Int.natCast_inj, intoL, sel_full]
  constructor
  · intro h x hx
    obtain ⟨k, hk, rfl⟩ := mem_gt hx
    simpa using h k hk
  · intro h k hk
    simpa using h _ (gt_mem (l := l) (j := k) (by omega) (by omega))
theorem into_len (l p : List Int) : (intoL l p).length ≤ l.length := sel_len _ _
theorem w_r07_In (hi : K_r07_into P F) (p q : Mo) (l1 : p.n.length ≤ 10000) (l2 : p.e.length ≤ 10000) (l3 : q.n.length ≤ maxL) (l4 : q.e.length ≤ maxL) : W P (c_r07_In F) (Done [.t 4] [] (.bool (inM p q)) []) (init [mD p, mD q]) := by
  refine W_of ?_
  have r1 := hi p.n q.n l1 l3
  have r2 := hi p.e q.e l2 l4
  have f1 := into_full p.n q.n
  have f2 := into_full p.e q.e
  have n1 := into_len p.n q.n
  have n2 := into_len p.e q.e
  unfold inM
  generalize inB p.n q.n = b1 at *
  generalize inB p.e q.e = b2 at *
  generalize intoL p.n q.n = t1 at *
  generalize intoL p.e q.e = t2 at *
  obtain ⟨pn, pe⟩ := p
  obtain ⟨qn, qe⟩ := q
  simp only [mD] at *
  simp (config := { maxSteps := 1000000 }) (disch := first | omega | (simp only [go_sem]; omega)) only [go_sem, ↓reduceIte]
  refine call_by r1 ?_
  cases b1
  · simp (config := { maxSteps := 1000000 }) (disch := first | omega | (simp only [go_sem]; omega)) only [go_sem, ↓reduceIte, f1]
    try simp
  · simp (config := { maxSteps := 1000000 }) (disch := first | omega | (simp only [go_sem]; omega)) only [go_sem, ↓reduceIte, f1]
    refine call_by r2 ?_
    simp (config := { maxSteps := 1000000 }) (disch := first | omega | (simp only [go_sem]; omega)) only [go_sem, ↓reduceIte, f1, f2]
    try simp
theorem agree_mem {f g : List Int} {y : Int} : y ∈ agreeL f g ↔ (0 ≤ y ∧ y < f.length) ∧ gt f y = gt g y := by
  unfold agreeL
  rw [sel_mem]
  constructor
  · rintro ⟨k, h1, h2, rfl⟩; exact ⟨by omega, by simpa [eqAt] using h2⟩
  · rintro ⟨h, h2⟩
    obtain ⟨k, rfl⟩ : ∃ k : Nat, y = k := ⟨y.toNat, by omega⟩
    exact ⟨k, by omega, by simpa [eqAt] using h2, rfl⟩
theorem mono_one {u p q : List Int} {n : Nat} (hu : ∀ x ∈ u, 0 ≤ x ∧ x < n) (hp : p.length = n) : inB (imgN u n) (agreeL p q) = decide (thr u p = thr u q) := by
  unfold inB
  rw [decide_eq_decide]
  constructor
  · intro h
    refine list_ext_gt (by simp only [thr_len]) fun i hi => ?_
    rw [thr_len] at hi
    have hm := gt_mem (l := u) (j := i) (by omega) (by omega)
    rw [thr_gt hi, thr_gt hi]
    exact (agree_mem.1 (h _ (img_mem.2 ⟨hu _ hm, hm⟩))).2
  · intro h y hy
    obtain ⟨hb, hy⟩ := img_mem.1 hy
    obtain ⟨i, hi, rfl⟩ := mem_gt hy
    refine agree_mem.2 ⟨by omega, ?_⟩
    rw [← thr_gt (b := p) hi, ← thr_gt (b := q) hi, h]
theorem mono_law {a b g : G} {u p q : Mo} (hp : MOk a b p) (hq : MOk a b q) (hu : MOk g a u) : (eqM a b p q).2 = 0 ∧ inM (imM a u) (eqM a b p q).1 = decide (thenM u p = thenM u q) := by
  have he : eqM a b p q = (⟨agreeL p.n q.n, agreeL p.e q.e⟩, 0) := by
    unfold eqM
    rw [if_neg (by rw [mok.2 hp]; simp), if_neg (by rw [mok.2 hq]; simp)]
  rw [he]
  refine ⟨rfl, ?_⟩
  have hb := validM_bd (mok.2 hu)
  unfold inM imM
  simp only
  rw [mono_one hb.1 hp.ln, mono_one hb.2 hp.le]
  simp only [thenM, Mo.mk.injEq]
  rw [Bool.decide_and]
def Cs.dup (s : Cs) : Cs := ⟨s.b, s.b, s.d, s.f, s.f⟩
theorem Mad.dup {s : Cs} (h : Mad s) : Mad s.dup := ⟨h.f, h.f, h.l1, h.l2, h.l1, h.l2, h.l5, h.l6⟩
set_option maxRecDepth 100000 in
set_option maxHeartbeats 4000000 in
theorem w_l11_PullbackMono (hw : K_l11_awake P F) (hf : K_l11_few P F) (hm : K_r11_Made P F) (ho : K_r11_Of P F) (hov : K_r11_Over P F) (heq : K_pullback_Equalizer P F) (him : K_r07_Image P F) (hin : K_r07_In P F) (ht : K_r06_Then P F) (hs : K_r06_Same P F) (x : Dt) (y : Dr) (hx : x.ok) (hy : y.ok) (ly1 : y.n.length ≤ maxL) (ly2 : y.e.length ≤ maxL) :
    W P (c_l11_PullbackMono F) (Done [.t 4] [] (.bool true) []) (init [dtD x, drD y]) := by
  refine W_of ?_
  have f1 := hf x hx
  have r1 := hm x hx
  have hmad := @made_ok x hx
  generalize fewD x = fw at *
  generalize madeC x = s at *
  have yok := hy
  cases fw with
  | false =>
    obtain ⟨⟨xn, xe⟩, ⟨zn, ze⟩, ⟨vn, ve⟩⟩ := x
    obtain ⟨yn, ye⟩ := y
    simp only [dtD, drD] at *
    simp (config := { maxSteps := 1000000 }) (disch := first | omega | (simp only [go_sem]; omega)) only [go_sem, ↓reduceIte]
    refine call_by hw ?_
    simp (config := { maxSteps := 1000000 }) (disch := first | omega | (simp only [go_sem]; omega)) only [go_sem, ↓reduceIte]
    refine call_by f1 ?_
    simp (config := { maxSteps := 1000000 }) (disch := first | omega | (simp only [go_sem]; omega)) only [go_sem, ↓reduceIte]
    refine call_by hw ?_
    simp (config := { maxSteps := 1000000 }) (disch := first | omega | (simp only [go_sem]; omega)) only [go_sem, ↓reduceIte]
  | true =>
    have hmad := (hmad rfl).dup
    have e0 := hmad.err
    have pb := pb_of e0
    have va := pb.p.va
    have hu := over_ok va hy
    have r2 := ho s.dup
    have e1 : pbG s.dup = pbG0 s.dup := by simp [pbG, e0]
    have e2 : pbP s.dup = ⟨asA (pbN s.dup), asA (pbE s.dup)⟩ := by simp [pbP, e0]
    have e3 : pbQ s.dup = ⟨asB (pbN s.dup), asB (pbE s.dup)⟩ := by simp [pbQ, e0]
    rw [e1, e2, e3, e0] at r2
    have r4 := hov (pbG0 s.dup) y va hy ly1 ly2
    have hp : MOk (pbG0 s.dup) s.b ⟨asA (pbN s.dup), asA (pbE s.dup)⟩ := pb.p
    have hq : MOk (pbG0 s.dup) s.b ⟨asB (pbN s.dup), asB (pbE s.dup)⟩ := pb.q
    have r5 := heq (pbG0 s.dup) s.b ⟨asA (pbN s.dup), asA (pbE s.dup)⟩ ⟨asB (pbN s.dup), asB (pbE s.dup)⟩
    obtain ⟨m1, m2⟩ := mono_law hp hq hu
    have r6 := him (overG (pbG0 s.dup) y) (pbG0 s.dup) (overM (pbG0 s.dup) y) (mok.2 hu)
    have gl := valid_spec va
    have n1 : (imM (pbG0 s.dup) (overM (pbG0 s.dup) y)).n.length ≤ 40 ∧ (imM (pbG0 s.dup) (overM (pbG0 s.dup) y)).e.length ≤ 80 := ⟨Nat.le_trans (img_len _ _) (by omega), Nat.le_trans (img_len _ _) (by omega)⟩
    have n2 : (eqM (pbG0 s.dup) s.b ⟨asA (pbN s.dup), asA (pbE s.dup)⟩ ⟨asB (pbN s.dup), asB (pbE s.dup)⟩).1.n.length ≤ 40 ∧ (eqM (pbG0 s.dup) s.b ⟨asA (pbN s.dup), asA (pbE s.dup)⟩ ⟨asB (pbN s.dup), asB (pbE s.dup)⟩).1.e.length ≤ 80 := by
      have hpl := validM_len (mok.2 hp)
      unfold eqM
      rw [if_neg (by rw [mok.2 hp]; simp), if_neg (by rw [mok.2 hq]; simp)]
      exact ⟨Nat.le_trans (sel_len _ _) hpl.1, Nat.le_trans (sel_len _ _) hpl.2.1⟩
    have r7 := hin (imM (pbG0 s.dup) (overM (pbG0 s.dup) y)) (eqM (pbG0 s.dup) s.b ⟨asA (pbN s.dup), asA (pbE s.dup)⟩ ⟨asB (pbN s.dup), asB (pbE s.dup)⟩).1 (by omega) (by omega) (by unfold maxL; omega) (by unfold maxL; omega)
    rw [m2] at r7
    have hb := validM_bd (mok.2 hu)
    have ul := validM_len (mok.2 hu)
    have lp1 := pb.p.ln
    have lp2 := pb.p.le
    have lq1 := pb.q.ln
    have lq2 := pb.q.le
    have r8 := ht (overM (pbG0 s.dup) y) ⟨asA (pbN s.dup), asA (pbE s.dup)⟩ (by omega) (by omega) (by rw [lp1]; exact hb.1) (by rw [lp2]; exact hb.2)
    have r9 := ht (overM (pbG0 s.dup) y) ⟨asB (pbN s.dup), asB (pbE s.dup)⟩ (by omega) (by omega) (by rw [lq1]; exact hb.1) (by rw [lq2]; exact hb.2)
    have r10 := hs (thenM (overM (pbG0 s.dup) y) ⟨asA (pbN s.dup), asA (pbE s.dup)⟩) (thenM (overM (pbG0 s.dup) y) ⟨asB (pbN s.dup), asB (pbE s.dup)⟩) (by simp only [thenM, thr_len, maxL]; omega) (by simp only [thenM, thr_len, maxL]; omega)
    clear e1 e2 e3 m2 hmad hp hq pb hu hb ul lp1 lp2 lq1 lq2
    generalize (⟨asA (pbN s.dup), asA (pbE s.dup)⟩ : Mo) = pm at *
    generalize (⟨asB (pbN s.dup), asB (pbE s.dup)⟩ : Mo) = qm at *
    generalize overG (pbG0 s.dup) y = g at *
    generalize overM (pbG0 s.dup) y = u at *
    generalize decide (thenM u pm = thenM u qm) = bb at *
    generalize thenM u pm = h at *
    generalize thenM u qm = k at *
    generalize imM (pbG0 s.dup) u = im at *
    generalize eqM (pbG0 s.dup) s.b pm qm = eq at *
    generalize pbG0 s.dup = ag at *
    obtain ⟨⟨eqn, eqe⟩, eqv⟩ := eq
    simp only at m1
    subst m1
    obtain ⟨⟨bn, be⟩, ⟨cn, ce⟩, ⟨dn, de⟩, ⟨fn, fe⟩, ⟨gn, ge⟩⟩ := s
    obtain ⟨⟨xn, xe⟩, ⟨zn, ze⟩, ⟨vn, ve⟩⟩ := x
    obtain ⟨yn, ye⟩ := y
    obtain ⟨agn, age⟩ := ag
    obtain ⟨gn', ge'⟩ := g
    obtain ⟨pn, pe⟩ := pm
    obtain ⟨qn, qe⟩ := qm
    obtain ⟨un, ue⟩ := u
    obtain ⟨hn, he⟩ := h
    obtain ⟨kn, ke⟩ := k
    obtain ⟨imn, ime⟩ := im
    simp only [Cs.dup, csA, csD, gD, gA, mD, mA, dtD, drD] at *
    simp (config := { maxSteps := 1000000 }) (disch := first | omega | (simp only [go_sem]; omega)) only [go_sem, ↓reduceIte]
    refine call_by hw ?_
    simp (config := { maxSteps := 1000000 }) (disch := first | omega | (simp only [go_sem]; omega)) only [go_sem, ↓reduceIte]
    refine call_by f1 ?_
    by_cases c1 : yn.length ≤ 4
    · have d1 : decide ((4 : Int) < yn.length) = false := decide_eq_false (by omega)
      by_cases c2 : ye.length ≤ 4
      · have d2 : decide ((4 : Int) < ye.length) = false := decide_eq_false (by omega)
        simp (config := { maxSteps := 1000000 }) (disch := first | omega | (simp only [go_sem]; omega)) only [go_sem, ↓reduceIte, d1, d2]
        refine call_by r1 ?_
        simp (config := { maxSteps := 1000000 }) (disch := first | omega | (simp only [go_sem]; omega)) only [go_sem, ↓reduceIte]
        refine call_by r2 ?_
        simp (config := { maxSteps := 1000000 }) (disch := first | omega | (simp only [go_sem]; omega)) only [go_sem, ↓reduceIte]
        refine call_by r4 ?_
        simp (config := { maxSteps := 1000000 }) (disch := first | omega | (simp only [go_sem]; omega)) only [go_sem, ↓reduceIte]
        refine call_by r5 ?_
        simp (config := { maxSteps := 1000000 }) (disch := first | omega | (simp only [go_sem]; omega)) only [go_sem, ↓reduceIte]
        refine call_by r6 ?_
        simp (config := { maxSteps := 1000000 }) (disch := first | omega | (simp only [go_sem]; omega)) only [go_sem, ↓reduceIte]
        refine call_by r7 ?_
        simp (config := { maxSteps := 1000000 }) (disch := first | omega | (simp only [go_sem]; omega)) only [go_sem, ↓reduceIte]
        refine call_by r8 ?_
        simp (config := { maxSteps := 1000000 }) (disch := first | omega | (simp only [go_sem]; omega)) only [go_sem, ↓reduceIte]
        refine call_by r9 ?_
        simp (config := { maxSteps := 1000000 }) (disch := first | omega | (simp only [go_sem]; omega)) only [go_sem, ↓reduceIte]
        refine call_by r10 ?_
        simp (config := { maxSteps := 1000000 }) (disch := first | omega | (simp only [go_sem]; omega)) only [go_sem, ↓reduceIte]
        try simp
      · have d2 : decide ((4 : Int) < ye.length) = true := decide_eq_true (by omega)
        simp (config := { maxSteps := 1000000 }) (disch := first | omega | (simp only [go_sem]; omega)) only [go_sem, ↓reduceIte, d1, d2]
        refine call_by hw ?_
        simp (config := { maxSteps := 1000000 }) (disch := first | omega | (simp only [go_sem]; omega)) only [go_sem, ↓reduceIte]
    · have d1 : decide ((4 : Int) < yn.length) = true := decide_eq_true (by omega)
      simp (config := { maxSteps := 1000000 }) (disch := first | omega | (simp only [go_sem]; omega)) only [go_sem, ↓reduceIte, d1]
      refine call_by hw ?_
      simp (config := { maxSteps := 1000000 }) (disch := first | omega | (simp only [go_sem]; omega)) only [go_sem, ↓reduceIte]
theorem x_l11_PullbackMono (h : K_l11_PullbackMono P F) (args : List D) (ha : HasEls [shDt, shDr] args) : FC P (F "l11.PullbackMono") args (.bool true) [] := by
  simp only [HasEls] at ha
  obtain ⟨_, _, rfl, h1, _, _, rfl, h2, rfl⟩ := ha
  obtain ⟨s, rfl, k1⟩ := rd_dt h1
  obtain ⟨y, rfl, k2, k3, k4⟩ := rd_draft h2
  exact h s y k1 k2 k3 k4
end
end Go.Am
