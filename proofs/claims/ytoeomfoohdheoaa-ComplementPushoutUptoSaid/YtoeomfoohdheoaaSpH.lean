/- Parts by bits; cases of descriptions; the law ComplementCovers. -/
import Derived.Test.YtoeomfoohdheoaaSpG
import Derived.Test.YtoeomfoohdheoaaSoJ
import Derived.Test.YtoeomfoohdheoaaAmRu
namespace Go.Am
open Go
set_option linter.unusedVariables false
set_option linter.unusedSimpArgs false
attribute [local irreducible] W
/- r07.Made -/
def c_r07_Made_r0 (F : String → Nat) : List LI := [⟨some 2, .bx (.t 0), none⟩,
  ⟨some 4, .alloc [.nl 1, .nl 1], none⟩]
def c_r07_Made_r1 (F : String → Nat) : List LI := [⟨some 9, .fad 0 (.t 2), none⟩,
  ⟨some 10, .load false 1 (.t 9), none⟩,
  ⟨some 11, .len (.t 10), none⟩,
  ⟨some 12, .makeSl 1 1 (.bool false) (.t 11), none⟩,
  ⟨some 13, .fad 1 (.t 2), none⟩,
  ⟨some 14, .load false 1 (.t 13), none⟩,
  ⟨some 15, .len (.t 14), none⟩,
  ⟨some 16, .makeSl 1 1 (.bool false) (.t 15), none⟩,
  ⟨some 5, .mov (.t 12), none⟩,
  ⟨some 6, .mov (.t 16), none⟩]
def c_r07_Made_r2 (F : String → Nat) : List LI := [⟨some 7, .mov (.k (.int .i64 (0))), none⟩]
def c_r07_Made_r3 (F : String → Nat) : List LI := [⟨some 17, .mov (.t 7), none⟩,
  ⟨some 18, .mov (.t 5), none⟩,
  ⟨some 19, .len (.t 18), none⟩,
  ⟨some 20, .bin .lss (.t 17) (.t 19), none⟩]
def c_r07_Made_r4 (F : String → Nat) : List LI := [⟨some 23, .mov (.t 5), none⟩,
  ⟨some 24, .mov (.t 7), none⟩,
  ⟨some 25, .mov (.t 1), none⟩,
  ⟨some 26, .mov (.t 7), none⟩,
  ⟨some 27, .bin .rem (.t 26) (.k (.int .i64 (64))), none⟩,
  ⟨some 28, .bin .shr (.t 25) (.t 27), none⟩,
  ⟨some 29, .bin .and (.t 28) (.k (.int .u64 (1))), none⟩,
  ⟨some 30, .bin .eql (.t 29) (.k (.int .u64 (1))), none⟩,
  ⟨some 31, .iad 1 (.t 23) (.t 24), none⟩,
  ⟨none, .store 1 (.t 31) (.t 30), none⟩]
def c_r07_Made_r5 (F : String → Nat) : List LI := [⟨some 21, .mov (.t 7), none⟩,
  ⟨some 22, .bin .add (.t 21) (.k (.int .i64 (1))), none⟩,
  ⟨some 7, .mov (.t 22), none⟩]
def c_r07_Made_b6 (F : String → Nat) : LC := (.seq (.seq (.reg (c_r07_Made_r3 F) [1, 2, 4, 5, 6, 7, 20]) (.cond (.t 20) .skip (.exit 0))) (.seq (.block 1 (.reg (c_r07_Made_r4 F) [1, 2, 4, 5, 6, 7])) (.reg (c_r07_Made_r5 F) [1, 2, 4, 5, 6, 7])))
def c_r07_Made_r7 (F : String → Nat) : List LI := [⟨some 8, .mov (.k (.int .i64 (0))), none⟩]
def c_r07_Made_r8 (F : String → Nat) : List LI := [⟨some 32, .mov (.t 8), none⟩,
  ⟨some 33, .mov (.t 6), none⟩,
  ⟨some 34, .len (.t 33), none⟩,
  ⟨some 35, .bin .lss (.t 32) (.t 34), none⟩]
def c_r07_Made_r9 (F : String → Nat) : List LI := [⟨some 38, .mov (.t 6), none⟩,
  ⟨some 39, .mov (.t 8), none⟩,
  ⟨some 40, .mov (.t 1), none⟩,
  ⟨some 41, .mov (.t 5), none⟩,
  ⟨some 42, .len (.t 41), none⟩,
  ⟨some 43, .mov (.t 8), none⟩,
  ⟨some 44, .bin .add (.t 42) (.t 43), none⟩,
  ⟨some 45, .bin .rem (.t 44) (.k (.int .i64 (64))), none⟩,
  ⟨some 46, .bin .shr (.t 40) (.t 45), none⟩,
  ⟨some 47, .bin .and (.t 46) (.k (.int .u64 (1))), none⟩,
  ⟨some 48, .bin .eql (.t 47) (.k (.int .u64 (1))), none⟩,
  ⟨some 49, .iad 1 (.t 38) (.t 39), none⟩,
  ⟨none, .store 1 (.t 49) (.t 48), none⟩]
def c_r07_Made_r10 (F : String → Nat) : List LI := [⟨some 36, .mov (.t 8), none⟩,
  ⟨some 37, .bin .add (.t 36) (.k (.int .i64 (1))), none⟩,
  ⟨some 8, .mov (.t 37), none⟩]
def c_r07_Made_b11 (F : String → Nat) : LC := (.seq (.seq (.reg (c_r07_Made_r8 F) [1, 2, 4, 5, 6, 8, 35]) (.cond (.t 35) .skip (.exit 2))) (.seq (.block 3 (.reg (c_r07_Made_r9 F) [1, 2, 4, 5, 6, 8])) (.reg (c_r07_Made_r10 F) [1, 2, 4, 5, 6, 8])))
def c_r07_Made_r12 (F : String → Nat) : List LI := [⟨some 50, .load true 2 (.t 2), none⟩,
  ⟨some 51, .mov (.t 5), none⟩,
  ⟨some 52, .mov (.t 6), none⟩,
  ⟨some 53, .call (F "r07.Least") [.t 50, .t 51, .t 52] [], none⟩,
  ⟨none, .store 2 (.t 4) (.t 53), none⟩]
def c_r07_Made (F : String → Nat) : LC := (.seq (.reg (c_r07_Made_r0 F) [1, 2, 4]) (.seq (.dreg [(5, (some 16), [], false)] (c_r07_Made_r1 F) [1, 2, 4, 5, 6]) (.seq (.seq (.reg (c_r07_Made_r2 F) [1, 2, 4, 5, 6, 7]) (.block 0 (.loop [1, 2, 4, 5, 6, 7] (c_r07_Made_b6 F)))) (.seq (.seq (.reg (c_r07_Made_r7 F) [1, 2, 4, 5, 6, 8]) (.block 2 (.loop [1, 2, 4, 5, 6, 8] (c_r07_Made_b11 F)))) (.seq (.reg (c_r07_Made_r12 F) [4]) .ret)))))
def h_r07_Made : Hints := ⟨[], fun _ => [], tab [(0, [1, 2, 4]), (1, [1, 2, 4, 5, 6]), (2, [1, 2, 4, 5, 6, 7]), (3, [1, 2, 4, 5, 6, 7, 20]), (4, [1, 2, 4, 5, 6, 7]), (5, [1, 2, 4, 5, 6, 7]), (6, [1, 2, 4, 5, 6, 8]), (7, [1, 2, 4, 5, 6, 8, 35]), (8, [1, 2, 4, 5, 6, 8]), (9, [1, 2, 4, 5, 6, 8]), (10, [4])], tab [(3, [1, 2, 4, 5, 6, 7]), (7, [1, 2, 4, 5, 6, 8])]⟩

/- l12.made -/
def c_l12_made_r0 (F : String → Nat) : List LI := [⟨some 3, .bx (.t 0), none⟩,
  ⟨some 6, .alloc [.nl 1, .nl 3, .nl 1, .nl 3, .nl 1, .nl 1, .nl 1, .nl 1], none⟩]
def c_l12_made_r1 (F : String → Nat) : List LI := [⟨some 10, .load true 2 (.t 3), none⟩,
  ⟨some 11, .call (F "r05.Made") [.t 10] [], none⟩,
  ⟨some 7, .alloc [.nl 1, .nl 3], none⟩,
  ⟨none, .store 2 (.t 7) (.t 11), none⟩]
def c_l12_made_r2 (F : String → Nat) : List LI := [⟨some 13, .load true 2 (.t 7), none⟩,
  ⟨some 14, .mov (.t 1), none⟩,
  ⟨some 15, .call (F "r10.Grown") [.t 13, .t 14] [], none⟩,
  ⟨some 12, .mov (.t 15), none⟩,
  ⟨some 16, .ext (.t 12) 0, none⟩,
  ⟨some 17, .ext (.t 12) 1, none⟩,
  ⟨some 8, .alloc [.nl 1, .nl 3], none⟩,
  ⟨some 9, .alloc [.nl 1, .nl 1], none⟩,
  ⟨none, .store 2 (.t 8) (.t 16), none⟩,
  ⟨none, .store 2 (.t 9) (.t 17), none⟩]
def c_l12_made_r3 (F : String → Nat) : List LI := [⟨some 18, .load true 2 (.t 7), none⟩,
  ⟨some 19, .load true 2 (.t 8), none⟩,
  ⟨some 20, .load true 2 (.t 7), none⟩,
  ⟨some 21, .mov (.t 2), none⟩,
  ⟨some 22, .call (F "r07.Made") [.t 20, .t 21] [], none⟩,
  ⟨some 23, .load true 2 (.t 9), none⟩,
  ⟨some 24, .build [.nl 1, .nl 3, .nl 1, .nl 3, .nl 1, .nl 1, .nl 1, .nl 1] [(0, 2, .t 18), (2, 2, .t 19), (4, 2, .t 22), (6, 2, .t 23)], none⟩,
  ⟨none, .store 8 (.t 6) (.t 24), none⟩]
def c_l12_made (F : String → Nat) : LC := (.seq (.reg (c_l12_made_r0 F) [1, 2, 3, 6]) (.seq (.reg (c_l12_made_r1 F) [1, 2, 6, 7]) (.seq (.reg (c_l12_made_r2 F) [2, 6, 7, 8, 9]) (.seq (.dreg [(0, none, [], true), (1, none, [], true), (4, none, [0, 1], true), (5, (some 0), [4], false)] (c_l12_made_r3 F) [6]) .ret))))
def h_l12_made : Hints := ⟨[], fun _ => [], tab [(0, [1, 2, 3, 6]), (1, [1, 2, 6, 7]), (2, [2, 6, 7, 8, 9]), (3, [6])], tab []⟩

attribute [go_sem] c_r07_Made_r0 c_r07_Made_r1 c_r07_Made_r2 c_r07_Made_r3 c_r07_Made_r4 c_r07_Made_r5 c_r07_Made_r7 c_r07_Made_r8 c_r07_Made_r9 c_r07_Made_r10 c_r07_Made_r12 c_r07_Made c_l12_made_r0 c_l12_made_r1 c_l12_made_r2 c_l12_made_r3 c_l12_made
/-- The bit of a number. -/
def bitB (s i : Int) : Bool := decide (IntKind.u64.wrap ((BitVec.ofInt 64 (s.fdiv (2 ^ (min (i.tmod 64).toNat 64))) &&& 1#64).toNat : Int) = 1)
def bitL (s : Int) (n m : Nat) : List Bool := (List.range m).map fun k : Nat => bitB s ((n : Int) + (k : Int))
/-- The least part with the elements that bits name. -/
def partP (g : G) (s : Int) : Mo := leastP g (bitL s 0 g.n.length) (bitL s g.n.length g.e.length)
def madeCx (d : Dr) (c : List Int) (s : Int) : Cx := ⟨madeG d, grG (madeG d) c, partP (madeG d) s, grM (madeG d) c⟩
def cxA (x : Cx) : D := .agg [.arr 1 (ints x.l.n), .arr 3 (eds x.l.e), .arr 1 (ints x.g.n), .arr 3 (eds x.g.e), .arr 1 (ints x.k.n), .arr 1 (ints x.k.e), .arr 1 (ints x.m.n), .arr 1 (ints x.m.e)]
section
variable (P : Program) (F : String → Nat)
def K_r07_Made : Prop := ∀ (g : G) (s : Int), validG g = 0 → FC P (F "r07.Made") [gD g, .int .u64 s] (mA (partP g s)) []
def K_l12_made : Prop := ∀ (d : Dr) (c : List Int) (s : Int), d.ok → d.n.length ≤ maxL → d.e.length ≤ maxL → c.length ≤ 2000000 → (∀ v ∈ c, Byte v) → FC P (F "l12.made") [drD d, .lst 1 (u8s c), .int .u64 s] (cxA (madeCx d c s)) []
end
section
variable {P : Program} {F : String → Nat} {α : Type}
theorem bitL_len (s : Int) (n m : Nat) : (bitL s n m).length = m := by simp [bitL]
theorem bitL_gt {s : Int} {n m k : Nat} (h : k < m) : gt (bitL s n m) (k : Int) = bitB s ((n : Int) + k) := by
  rw [gt_nat (by rw [bitL_len]; exact h)]
  simp [bitL]
theorem least_close {g : G} {bn be : List Bool} (h1 : bn.length = g.n.length) (h2 : be.length = g.e.length) : leastP g bn be = closeP g (markL bn) (markL be) := by
  have hm : ∀ (b : List Bool) (k : Nat), k < b.length → gt b k = decide ((k : Int) ∈ markL b) := fun b k hk => by
    rw [Bool.eq_iff_iff, decide_eq_true_eq, markL_mem]
    exact ⟨fun h => ⟨hk, h⟩, fun h => h.2⟩
  refine close_least h1 h2 (fun k hk => hm bn k (by omega)) (fun k hk => hm be k (by omega)) fun x hx => ?_
  obtain ⟨k, hk, _, rfl⟩ := sel_mem.1 hx
  omega
theorem partP_ok {g : G} {s : Int} (hv : validG g = 0) : PK g (partP g s) := by
  unfold partP
  rw [least_close (bitL_len _ _ _) (bitL_len _ _ _)]
  exact closeP_ok hv
theorem w_r07_Made (hl : K_r07_Least P F) (g : G) (s : Int) (hv : validG g = 0) : W P (c_r07_Made F) (Done [.c 4 true 2] [] (mA (partP g s)) []) (init [gD g, .int .u64 s]) := by
  refine W_of ?_
  have vs := valid_spec hv
  have r1 := hl g (bitL s 0 g.n.length) (bitL s g.n.length g.e.length) hv (bitL_len _ _ _) (bitL_len _ _ _)
  have hL : partP g s = leastP g (bitL s 0 g.n.length) (bitL s g.n.length g.e.length) := rfl
  rw [hL]
  clear hL
  have b0 := bitL_len s 0 g.n.length
  have b1 := bitL_len s g.n.length g.e.length
  have bg0 : ∀ k : Nat, k < g.n.length → gt (bitL s 0 g.n.length) (k : Int) = bitB s (k : Int) := fun k hk => by rw [bitL_gt hk]; simp
  have bg1 : ∀ k : Nat, k < g.e.length → gt (bitL s g.n.length g.e.length) (k : Int) = bitB s ((g.n.length : Int) + k) := fun k hk => bitL_gt hk
  generalize bitL s 0 g.n.length = x0 at *
  generalize bitL s g.n.length g.e.length = x1 at *
  have hnb : ∀ i : Int, 0 ≤ i → ¬ i.tmod 64 < 0 := fun i h => by rw [Int.tmod_eq_emod_of_nonneg h]; omega
  have hb : ∀ i : Int, decide (IntKind.u64.wrap ((BitVec.ofInt 64 (s.fdiv (2 ^ (min (i.tmod 64).toNat 64))) &&& 1#64).toNat : Int) = 1) = bitB s i := fun i => rfl
  have z0 : ¬ ((64 : Int) = 0) := by omega
  obtain ⟨gn, ge⟩ := g
  simp only [gD] at *
  simp (config := { maxSteps := 1000000 }) (disch := first | omega | (simp only [go_sem]; omega)) only [go_sem, ↓reduceIte]
  refine W_loop (fun t : Nat × List Bool => ⟨[(1, .int .u64 s), (2, .pt 0 0), (4, .pt 3 0), (5, .sl 4 0 gn.length), (6, .sl 5 0 ge.length), (7, .int .i64 t.1)],
    [(0, .box [.lst 1 (ints gn), .lst 3 (eds ge)]), (1, .arr 1 []), (2, .arr 1 []), (3, .box [.sl 1 0 0, .sl 2 0 0]), (4, .arr 1 (bls t.2)), (5, .arr 1 (bls (List.replicate ge.length false)))], 6⟩)
    (fun t => t.1 ≤ gn.length ∧ t.2.length = gn.length ∧ ∀ k : Nat, k < t.1 → gt t.2 k = bitB s k) (fun t => gn.length - t.1) (0, List.replicate gn.length false) ?_ ?_ ?_
  · simp (config := { maxSteps := 1000000 }) (disch := first | omega | (simp only [go_sem]; omega)) only [go_sem, ↓reduceIte]
    rfl
  · exact ⟨by simp, by simp, fun k hk => by simp at hk⟩
  · rintro ⟨i, z⟩ ⟨i1, i2, i3⟩
    simp only at i1 i2 i3
    by_cases c : i < gn.length
    · have g1 : decide ((i : Int) < gn.length) = true := decide_eq_true (by omega)
      have hi := hnb i (by omega)
      have hbi := hb i
      simp (config := { maxSteps := 1000000 }) (disch := first | omega | (simp only [go_sem]; omega)) only [go_sem, ↓reduceIte, c_r07_Made_b6, g1, z0, hi, hbi, i2]
      refine ⟨(i + 1, z.set i (bitB s i)), by simp; rfl, ⟨by simp only; omega, by simp [i2], fun k hk => ?_⟩, by simp only; omega⟩
      simp only at hk
      simp only
      rw [gt_setB (by omega)]
      by_cases e : i = k
      · subst e; simp
      · rw [if_neg e]; exact i3 k (by omega)
    · have g1 : decide ((i : Int) < gn.length) = false := decide_eq_false (by omega)
      obtain rfl : i = gn.length := by omega
      have hz : z = x0 := list_ext_gt (by omega) fun k hk => by rw [i3 k (by omega), bg0 k (by omega)]
      subst hz
      clear i3
      simp (config := { maxSteps := 1000000 }) (disch := first | omega | (simp only [go_sem]; omega)) only [go_sem, ↓reduceIte, c_r07_Made_b6, g1, i2]
      refine W_loop (fun t : Nat × List Bool => ⟨[(1, .int .u64 s), (2, .pt 0 0), (4, .pt 3 0), (5, .sl 4 0 gn.length), (6, .sl 5 0 ge.length), (8, .int .i64 t.1)],
        [(0, .box [.lst 1 (ints gn), .lst 3 (eds ge)]), (1, .arr 1 []), (2, .arr 1 []), (3, .box [.sl 1 0 0, .sl 2 0 0]), (4, .arr 1 (bls z)), (5, .arr 1 (bls t.2))], 6⟩)
        (fun t => t.1 ≤ ge.length ∧ t.2.length = ge.length ∧ ∀ k : Nat, k < t.1 → gt t.2 k = bitB s ((gn.length : Int) + k)) (fun t => ge.length - t.1) (0, List.replicate ge.length false) ?_ ?_ ?_
      · simp (config := { maxSteps := 1000000 }) (disch := first | omega | (simp only [go_sem]; omega)) only [go_sem, ↓reduceIte]
        rfl
      · exact ⟨by simp, by simp, fun k hk => by simp at hk⟩
      · rintro ⟨i, y⟩ ⟨j1, j2, j3⟩
        simp only at j1 j2 j3
        by_cases c : i < ge.length
        · have g1 : decide ((i : Int) < ge.length) = true := decide_eq_true (by omega)
          have hi := hnb ((gn.length : Int) + i) (by omega)
          have hbi := hb ((gn.length : Int) + i)
          simp (config := { maxSteps := 1000000 }) (disch := first | omega | (simp only [go_sem]; omega)) only [go_sem, ↓reduceIte, c_r07_Made_b11, g1, z0, hi, hbi, i2, j2]
          refine ⟨(i + 1, y.set i (bitB s ((gn.length : Int) + i))), by simp; rfl, ⟨by simp only; omega, by simp [j2], fun k hk => ?_⟩, by simp only; omega⟩
          simp only at hk
          simp only
          rw [gt_setB (by omega)]
          by_cases e : i = k
          · subst e; simp
          · rw [if_neg e]; exact j3 k (by omega)
        · have g1 : decide ((i : Int) < ge.length) = false := decide_eq_false (by omega)
          obtain rfl : i = ge.length := by omega
          have hz : y = x1 := list_ext_gt (by omega) fun k hk => by rw [j3 k (by omega), bg1 k (by omega)]
          subst hz
          clear j3
          generalize leastP ⟨gn, ge⟩ z y = w at *
          obtain ⟨wn, we⟩ := w
          simp only [mA] at *
          simp (config := { maxSteps := 1000000 }) (disch := first | omega | (simp only [go_sem]; omega)) only [go_sem, ↓reduceIte, c_r07_Made_b11, g1, i2, j2]
          refine call_by r1 ?_
          simp (config := { maxSteps := 1000000 }) (disch := first | omega | (simp only [go_sem]; omega)) only [go_sem, ↓reduceIte]
          try rfl
theorem w_l12_made (hm : K_r05_Made P F) (hg : K_r10_Grown P F) (hp : K_r07_Made P F) (d : Dr) (c : List Int) (s : Int) (hd : d.ok) (d1 : d.n.length ≤ maxL) (d2 : d.e.length ≤ maxL) (c1 : c.length ≤ 2000000) (c2 : ∀ v ∈ c, Byte v) :
    W P (c_l12_made F) (Done [.c 6 true 8] [] (cxA (madeCx d c s)) []) (init [drD d, .lst 1 (u8s c), .int .u64 s]) := by
  refine W_of ?_
  have r1 := hm d hd d1 d2
  have va := madeG_valid hd
  have r2 := hg (madeG d) c va c1 c2
  have r3 := hp (madeG d) s va
  unfold madeCx
  generalize grM (madeG d) c = bm at *
  generalize grG (madeG d) c = bg at *
  generalize partP (madeG d) s = bp at *
  clear va
  generalize madeG d = a at *
  obtain ⟨an, ae⟩ := a
  obtain ⟨bn, be⟩ := bg
  obtain ⟨bmn, bme⟩ := bm
  obtain ⟨bpn, bpe⟩ := bp
  simp only [gD, gA, mD, mA, drD, cxA] at *
  simp (config := { maxSteps := 1000000 }) (disch := first | omega | (simp only [go_sem]; omega)) only [go_sem, ↓reduceIte]
  refine call_by r1 ?_
  simp (config := { maxSteps := 1000000 }) (disch := first | omega | (simp only [go_sem]; omega)) only [go_sem, ↓reduceIte]
  refine call_by r2 ?_
  simp (config := { maxSteps := 1000000 }) (disch := first | omega | (simp only [go_sem]; omega)) only [go_sem, ↓reduceIte]
  refine call_by r3 ?_
  simp (config := { maxSteps := 1000000 }) (disch := first | omega | (simp only [go_sem]; omega)) only [go_sem, ↓reduceIte]
  try rfl
theorem idR_nil {im kn : List Int} {i : Nat} : ∀ {n : Nat}, idR im kn i n = [] → ∀ k : Nat, i < k → k < n → idP im kn i k = false
  | 0, _, k, _, h => by omega
  | n + 1, h, k, h1, h2 => by
    rw [idR] at h
    split at h
    · simp at h
    · rename_i hc
      by_cases e : k = n
      · subst e
        rw [← Bool.not_eq_true]
        exact fun h => hc ⟨h1, h⟩
      · exact idR_nil h k h1 (by omega)
theorem idA_nil {im kn : List Int} : ∀ {n : Nat}, idA im kn n = [] → ∀ i : Nat, i < n → idR im kn i im.length = []
  | 0, _, i, h => by omega
  | n + 1, h, i, hi => by
    rw [idA, List.append_eq_nil_iff] at h
    by_cases e : i = n
    · subst e; exact h.2
    · exact idA_nil h.1 i (by omega)
theorem idL_nil {im kn : List Int} (h : idL im kn = []) {i k : Nat} (hi : i < k) (hk : k < im.length) (he : gt im i = gt im k) : (i : Int) ∈ kn ∧ (k : Int) ∈ kn := by
  have := idR_nil (idA_nil h i (by omega)) k hi hk
  unfold idP at this
  rw [he] at this
  simpa using this
theorem cxm_ok {d : Dr} {c : List Int} {s : Int} (hd : d.ok) (hc : ∀ v ∈ c, Byte v) : cxE (madeCx d c s) = 0 := by
  have va := madeG_valid hd
  have l1 := madeN_len d
  have l2 := madeE_len d
  have l3 : (madeG d).n.length ≤ 8 := l1
  obtain ⟨h1, h2, h3⟩ := gr_ok va hc (by omega) (by omega)
  have e1 : validM (madeCx d c s).l (madeCx d c s).g (madeCx d c s).m = 0 := mok.2 h1
  have e2 : validP (madeCx d c s).l (madeCx d c s).k = 0 := validP_ok.2 (partP_ok va)
  unfold cxE
  rw [e1, e2]
  simp
def shU64 : Sh := .int .u64
theorem rd_u64 {x : D} (h : HasEl shU64 x) : ∃ n : Int, x = .int .u64 n := by
  simp only [shU64, HasEl] at h
  obtain ⟨n, rfl, _⟩ := h
  exact ⟨n, rfl⟩
end
end Go.Am
