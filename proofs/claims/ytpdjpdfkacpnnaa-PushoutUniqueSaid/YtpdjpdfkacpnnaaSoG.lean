/- Pushouts: Mediate and Check; the example of the chapter. -/
import Derived.Test.YtpdjpdfkacpnnaaSoF
namespace Go.Am
open Go
set_option linter.unusedVariables false
set_option linter.unusedSimpArgs false
attribute [local irreducible] W
/- l10.path -/
def c_l10_path_r0 (F : String → Nat) : List LI := [⟨some 2, .alloc [.nl 1, .nl 3], none⟩]
def c_l10_path_r1 (F : String → Nat) : List LI := [⟨some 5, .mov (.t 0), none⟩,
  ⟨some 6, .makeSl 1 8 (.int .i64 (0)) (.t 5), none⟩,
  ⟨some 7, .build [.nl 1, .nl 3] [(0, 1, .t 6)], none⟩,
  ⟨some 3, .alloc [.nl 1, .nl 3], none⟩,
  ⟨none, .store 2 (.t 3) (.t 7), none⟩]
def c_l10_path_r2 (F : String → Nat) : List LI := [⟨some 4, .mov (.k (.int .i64 (1))), none⟩]
def c_l10_path_r3 (F : String → Nat) : List LI := [⟨some 8, .mov (.t 4), none⟩,
  ⟨some 9, .mov (.t 0), none⟩,
  ⟨some 10, .bin .lss (.t 8) (.t 9), none⟩]
def c_l10_path_r4 (F : String → Nat) : List LI := [⟨some 13, .fad 1 (.t 3), none⟩,
  ⟨some 14, .load false 1 (.t 13), none⟩,
  ⟨some 15, .mov (.t 4), none⟩,
  ⟨some 16, .bin .sub (.t 15) (.k (.int .i64 (1))), none⟩,
  ⟨some 17, .mov (.t 4), none⟩,
  ⟨some 18, .build [.int .i64 (0), .int .i64 (0), .int .i64 (0)] [(1, 1, .t 16), (2, 1, .t 17)], none⟩,
  ⟨some 19, .buildSl 3 24 (.agg [.int .i64 (0), .int .i64 (0), .int .i64 (0)]) 1 [(0, .t 18)], none⟩,
  ⟨some 20, .app 3 24 (.t 14) (.t 19), none⟩,
  ⟨some 21, .fad 1 (.t 3), none⟩,
  ⟨none, .store 1 (.t 21) (.t 20), none⟩]
def c_l10_path_r5 (F : String → Nat) : List LI := [⟨some 11, .mov (.t 4), none⟩,
  ⟨some 12, .bin .add (.t 11) (.k (.int .i64 (1))), none⟩,
  ⟨some 4, .mov (.t 12), none⟩]
def c_l10_path_b6 (F : String → Nat) : LC := (.seq (.seq (.reg (c_l10_path_r3 F) [0, 2, 3, 4, 10]) (.cond (.t 10) .skip (.exit 0))) (.seq (.block 1 (.reg (c_l10_path_r4 F) [0, 2, 3, 4])) (.reg (c_l10_path_r5 F) [0, 2, 3, 4])))
def c_l10_path_r7 (F : String → Nat) : List LI := [⟨some 22, .load true 2 (.t 3), none⟩,
  ⟨none, .store 2 (.t 2) (.t 22), none⟩]
def c_l10_path (F : String → Nat) : LC := (.seq (.reg (c_l10_path_r0 F) [0, 2]) (.seq (.reg (c_l10_path_r1 F) [0, 2, 3]) (.seq (.seq (.reg (c_l10_path_r2 F) [0, 2, 3, 4]) (.block 0 (.loop [0, 2, 3, 4] (c_l10_path_b6 F)))) (.seq (.reg (c_l10_path_r7 F) [2]) .ret))))
def h_l10_path : Hints := ⟨[], fun _ => [], tab [(0, [0, 2]), (1, [0, 2, 3]), (2, [0, 2, 3, 4]), (3, [0, 2, 3, 4, 10]), (4, [0, 2, 3, 4]), (5, [0, 2, 3, 4]), (6, [2])], tab [(3, [0, 2, 3, 4])]⟩

/- l10.awake -/
def c_l10_awake_r0 (F : String → Nat) : List LI := [⟨some 0, .mov (.k (.bool false)), none⟩]
def c_l10_awake_r1 (F : String → Nat) : List LI := [⟨some 6, .call (F "l10.path") [.k (.int .i64 (1))] [], none⟩,
  ⟨some 7, .call (F "l10.path") [.k (.int .i64 (2))] [], none⟩,
  ⟨some 8, .call (F "l10.path") [.k (.int .i64 (2))] [], none⟩,
  ⟨some 9, .buildSl 1 8 (.int .i64 (0)) 1 [(0, .k (.int .i64 (1)))], none⟩,
  ⟨some 10, .build [.nl 1, .nl 1] [(0, 1, .t 9)], none⟩,
  ⟨some 11, .buildSl 1 8 (.int .i64 (0)) 1 [(0, .k (.int .i64 (0)))], none⟩,
  ⟨some 12, .build [.nl 1, .nl 1] [(0, 1, .t 11)], none⟩,
  ⟨some 13, .build [.nl 1, .nl 3, .nl 1, .nl 3, .nl 1, .nl 3, .nl 1, .nl 1, .nl 1, .nl 1] [(0, 2, .t 6), (2, 2, .t 7), (4, 2, .t 8), (6, 2, .t 10), (8, 2, .t 12)], none⟩,
  ⟨some 1, .alloc [.nl 1, .nl 3, .nl 1, .nl 3, .nl 1, .nl 3, .nl 1, .nl 1, .nl 1, .nl 1], none⟩,
  ⟨none, .store 10 (.t 1) (.t 13), none⟩]
def c_l10_awake_r2 (F : String → Nat) : List LI := [⟨some 15, .load true 10 (.t 1), none⟩,
  ⟨some 16, .call (F "pushout.Of") [.t 15] [], none⟩,
  ⟨some 14, .mov (.t 16), none⟩,
  ⟨some 17, .ext (.t 14) 0, none⟩,
  ⟨some 18, .ext (.t 14) 1, none⟩,
  ⟨some 19, .ext (.t 14) 2, none⟩,
  ⟨some 20, .ext (.t 14) 3, none⟩,
  ⟨some 2, .alloc [.nl 1, .nl 3], none⟩,
  ⟨some 3, .alloc [.nl 1, .nl 1], none⟩,
  ⟨some 4, .alloc [.nl 1, .nl 1], none⟩,
  ⟨none, .store 2 (.t 2) (.t 17), none⟩,
  ⟨none, .store 2 (.t 3) (.t 18), none⟩,
  ⟨none, .store 2 (.t 4) (.t 19), none⟩,
  ⟨some 5, .mov (.t 20), none⟩]
def c_l10_awake_r3 (F : String → Nat) : List LI := [⟨some 21, .mov (.t 5), none⟩,
  ⟨some 22, .bin .neq (.t 21) (.k (.int .i64 (0))), none⟩,
  ⟨some 23, .mov (.t 22), none⟩,
  ⟨some 24, .load true 2 (.t 2), some (23, false)⟩,
  ⟨some 25, .call (F "l10.path") [.k (.int .i64 (3))] [], some (23, false)⟩,
  ⟨some 26, .call (F "r05.Same") [.t 24, .t 25] [], some (23, false)⟩,
  ⟨some 27, .not (.t 26), some (23, false)⟩,
  ⟨some 28, .pick (.t 23) (.k (.bool true)) (.t 27), none⟩,
  ⟨some 29, .mov (.t 28), none⟩,
  ⟨some 30, .load true 2 (.t 3), some (29, false)⟩,
  ⟨some 31, .buildSl 1 8 (.int .i64 (0)) 2 [(0, .k (.int .i64 (0))), (1, .k (.int .i64 (1)))], some (29, false)⟩,
  ⟨some 32, .buildSl 1 8 (.int .i64 (0)) 1 [(0, .k (.int .i64 (0)))], some (29, false)⟩,
  ⟨some 33, .build [.nl 1, .nl 1] [(0, 1, .t 31), (1, 1, .t 32)], some (29, false)⟩,
  ⟨some 34, .call (F "r06.Same") [.t 30, .t 33] [], some (29, false)⟩,
  ⟨some 35, .not (.t 34), some (29, false)⟩,
  ⟨some 36, .pick (.t 29) (.k (.bool true)) (.t 35), none⟩,
  ⟨some 37, .mov (.t 36), none⟩,
  ⟨some 38, .load true 2 (.t 4), some (37, false)⟩,
  ⟨some 39, .buildSl 1 8 (.int .i64 (0)) 2 [(0, .k (.int .i64 (1))), (1, .k (.int .i64 (2)))], some (37, false)⟩,
  ⟨some 40, .buildSl 1 8 (.int .i64 (0)) 1 [(0, .k (.int .i64 (1)))], some (37, false)⟩,
  ⟨some 41, .build [.nl 1, .nl 1] [(0, 1, .t 39), (1, 1, .t 40)], some (37, false)⟩,
  ⟨some 42, .call (F "r06.Same") [.t 38, .t 41] [], some (37, false)⟩,
  ⟨some 43, .not (.t 42), some (37, false)⟩,
  ⟨some 44, .pick (.t 37) (.k (.bool true)) (.t 43), none⟩]
def c_l10_awake_r4 (F : String → Nat) : List LI := [⟨some 0, .mov (.k (.bool false)), none⟩]
def c_l10_awake_r5 (F : String → Nat) : List LI := [⟨some 45, .fad 6 (.t 1), none⟩,
  ⟨some 46, .fad 0 (.t 45), none⟩,
  ⟨some 47, .load false 1 (.t 46), none⟩,
  ⟨some 48, .iad 1 (.t 47) (.k (.int .i64 (0))), none⟩,
  ⟨none, .store 1 (.t 48) (.k (.int .i64 (0))), none⟩]
def c_l10_awake_r6 (F : String → Nat) : List LI := [⟨some 50, .load true 10 (.t 1), none⟩,
  ⟨some 51, .call (F "pushout.Of") [.t 50] [], none⟩,
  ⟨some 49, .mov (.t 51), none⟩,
  ⟨some 52, .ext (.t 49) 0, none⟩,
  ⟨some 53, .ext (.t 49) 1, none⟩,
  ⟨some 54, .ext (.t 49) 2, none⟩,
  ⟨some 55, .ext (.t 49) 3, none⟩,
  ⟨none, .store 2 (.t 2) (.t 52), none⟩,
  ⟨some 5, .mov (.t 55), none⟩]
def c_l10_awake_r7 (F : String → Nat) : List LI := [⟨some 56, .mov (.t 5), none⟩,
  ⟨some 57, .bin .eql (.t 56) (.k (.int .i64 (0))), none⟩,
  ⟨some 58, .mov (.t 57), none⟩,
  ⟨some 59, .fad 1 (.t 2), some (58, true)⟩,
  ⟨some 60, .load false 1 (.t 59), some (58, true)⟩,
  ⟨some 61, .build [.int .i64 (0), .int .i64 (0), .int .i64 (0)] [(1, 1, .k (.int .i64 (0))), (2, 1, .k (.int .i64 (1)))], some (58, true)⟩,
  ⟨some 62, .build [.int .i64 (0), .int .i64 (0), .int .i64 (0)] [(1, 1, .k (.int .i64 (0))), (2, 1, .k (.int .i64 (2)))], some (58, true)⟩,
  ⟨some 63, .buildSl 3 24 (.agg [.int .i64 (0), .int .i64 (0), .int .i64 (0)]) 2 [(0, .t 61), (1, .t 62)], some (58, true)⟩,
  ⟨some 64, .call (F "slices.Equal.E") [.t 60, .t 63] [], some (58, true)⟩,
  ⟨some 65, .pick (.t 58) (.t 64) (.k (.bool false)), none⟩,
  ⟨some 0, .mov (.t 65), none⟩]
def c_l10_awake (F : String → Nat) : LC := (.seq (.reg (c_l10_awake_r0 F) []) (.seq (.reg (c_l10_awake_r1 F) [1]) (.seq (.reg (c_l10_awake_r2 F) [1, 2, 3, 4, 5]) (.seq (.seq (.dreg [(3, none, [], true), (4, none, [3], false), (9, none, [], true), (10, none, [9], true), (11, (some 511), [9, 10], false), (17, none, [], true), (18, none, [17], true), (19, (some 131071), [17, 18], false)] (c_l10_awake_r3 F) [1, 2, 44]) (.cond (.t 44) (.seq (.reg (c_l10_awake_r4 F) [0]) .ret) .skip)) (.seq (.reg (c_l10_awake_r5 F) [1, 2]) (.seq (.reg (c_l10_awake_r6 F) [2, 5]) (.seq (.reg (c_l10_awake_r7 F) [0]) .ret)))))))
def h_l10_awake : Hints := ⟨[], fun _ => [], tab [(0, []), (1, [1]), (2, [1, 2, 3, 4, 5]), (3, [1, 2, 44]), (4, [0]), (5, [1, 2]), (6, [2, 5]), (7, [0])], tab []⟩

attribute [go_sem] c_l10_path_r0 c_l10_path_r1 c_l10_path_r2 c_l10_path_r3 c_l10_path_r4 c_l10_path_r5 c_l10_path_r7 c_l10_path c_l10_awake_r0 c_l10_awake_r1 c_l10_awake_r2 c_l10_awake_r3 c_l10_awake_r4 c_l10_awake_r5 c_l10_awake_r6 c_l10_awake_r7 c_l10_awake
def pathE (n : Nat) : List E := (List.range n).map fun k : Nat => ⟨0, (k : Int), (k : Int) + 1⟩
def pathG (n : Nat) : G := ⟨List.replicate n 0, pathE (n - 1)⟩
section
variable (P : Program) (F : String → Nat)
def K_l10_path : Prop := ∀ n : Nat, 1 ≤ n → n ≤ 1000 → FC P (F "l10.path") [.int .i64 n] (gA (pathG n)) []
def K_l10_awake : Prop := FC P (F "l10.awake") [] (.bool true) []
end
section
variable {P : Program} {F : String → Nat} {α : Type}
theorem coc_bad {s : Sp} {x : G} {h k : Mo} (e : cocE s x h k ≠ 0) : medP s x h k = (m0, cocE s x h k) := by unfold medP; rw [if_neg e]
theorem coc_ok {s : Sp} {x : G} {h k : Mo} (e : cocE s x h k = 0) : medP s x h k = (medU s h k, 0) := by unfold medP; rw [if_pos e]
theorem on_ok {b d : G} {p h : Mo} {x : G} (hp : MOk b d p) (hh : MOk b x h) : OnOk d.n.length p.n h.n ∧ OnOk d.e.length p.e h.e := by
  have vb := valid_spec hp.va
  have l1 := hp.ln
  have l2 := hp.le
  have l3 := hh.ln
  have l4 := hh.le
  exact ⟨⟨by omega, by omega, fun i hi => (hp.nd i (by omega)).1⟩, ⟨by omega, by omega, fun i hi => (hp.ed i (by omega)).1⟩⟩
set_option maxHeartbeats 2000000 in
theorem w_pushout_Mediate (hp : K_pushout_span P F) (hv : K_morphism_Valid P F) (hg : K_pushout_glue P F) (ht : K_pushout_then P F) (hsm : K_morphism_Same P F) (hfi : K_pushout_filled P F) (s : Sp) (x : G) (h k : Mo) :
    W P (c_pushout_Mediate F) (Done [.c 8 true 2, .t 9] [] (.tup [mA (medP s x h k).1, .int .i64 (medP s x h k).2]) []) (init [spD s, gD x, mD h, mD k]) := by
  refine W_of ?_
  have r1 := hp s
  have r2 := hv s.b x h
  have r3 := hv s.c x k
  have hE : cocE s x h k = if spE s ≠ 0 then spE s else if validM s.b x h ≠ 0 then validM s.b x h else if validM s.c x k ≠ 0 then validM s.c x k else if Big s.b s.c then 3 else if thenM s.f h = thenM s.g k then 0 else 11 := rfl
  by_cases c1 : spE s = 0
  · rw [if_neg (by simp [c1])] at hE
    by_cases c2 : validM s.b x h = 0
    · rw [if_neg (by simp [c2])] at hE
      by_cases c3 : validM s.c x k = 0
      · rw [if_neg (by simp [c3])] at hE
        have r4 := hg s c1
        rw [c1] at r1
        rw [c2] at r2
        rw [c3] at r3
        obtain ⟨hf, hgg⟩ := spE_ok.1 c1
        have hh := mok.1 c2
        have hk := mok.1 c3
        by_cases hb : Big s.b s.c
        · rw [if_pos hb] at hE
          rw [coc_bad (by rw [hE]; decide), hE]
          rw [poR_big c1 hb] at r4
          simp only [poD, g0, m0, gD, gA, mD, mA, spD] at *
          simp (config := { maxSteps := 1000000 }) (disch := first | omega | (simp only [go_sem]; omega)) only [go_sem, ↓reduceIte]
          refine call_by r1 ?_
          simp (config := { maxSteps := 1000000 }) (disch := first | omega | (simp only [go_sem]; omega)) only [go_sem, ↓reduceIte]
          refine call_by r2 ?_
          simp (config := { maxSteps := 1000000 }) (disch := first | omega | (simp only [go_sem]; omega)) only [go_sem, ↓reduceIte]
          refine call_by r3 ?_
          simp (config := { maxSteps := 1000000 }) (disch := first | omega | (simp only [go_sem]; omega)) only [go_sem, ↓reduceIte]
          refine call_by r4 ?_
          simp (config := { maxSteps := 1000000 }) (disch := first | omega | (simp only [go_sem]; omega)) only [go_sem, ↓reduceIte]
          refine bran_ndec (fun _ => ?_) (fun h => absurd h (by decide))
          simp (config := { maxSteps := 1000000 }) (disch := first | omega | (simp only [go_sem]; omega)) only [go_sem, ↓reduceIte]
          simp [ints, mA, m0]
        · rw [if_neg hb] at hE
          have hs : SOk s := ⟨hf, hgg, hb⟩
          rw [poR_ok hs] at r4
          have va := valid_spec hf.va
          have vb := valid_spec hf.vb
          have vc := valid_spec hgg.vb
          have vd := valid_spec hs.p.vb
          have ln := hf.ln
          have le := hf.le
          have mn := hgg.ln
          have me := hgg.le
          have h1 := hh.ln
          have h2 := hh.le
          have k1 := hk.ln
          have k2 := hk.le
          have bf := validM_bd (mok.2 hf)
          have bg := validM_bd (mok.2 hgg)
          have t1 := ht s.f h (by omega) (by omega) (by rw [h1]; exact bf.1) (by rw [h2]; exact bf.2)
          have t2 := ht s.g k (by omega) (by omega) (by rw [k1]; exact bg.1) (by rw [k2]; exact bg.2)
          have sm := hsm (thenM s.f h) (thenM s.g k) (by simp only [thenM, thr_len]; unfold maxL; omega) (by simp only [thenM, thr_len]; unfold maxL; omega)
          obtain ⟨o1, o2⟩ := on_ok hs.p hh
          obtain ⟨o3, o4⟩ := on_ok hs.k hk
          have f1 := hfi _ _ _ _ _ (by omega) o1 o3
          have f2 := hfi _ _ _ _ _ (by omega) o2 o4
          have hmU : medU s h k = ⟨ontoL (poG s).n.length (poP s).n h.n (poK s).n k.n, ontoL (poG s).e.length (poP s).e h.e (poK s).e k.e⟩ := rfl
          have q1 := hs.p.ln
          have q2 := hs.p.le
          have q3 := hs.k.ln
          have q4 := hs.k.le
          generalize ontoL (poG s).n.length (poP s).n h.n (poK s).n k.n = u1 at *
          generalize ontoL (poG s).e.length (poP s).e h.e (poK s).e k.e = u2 at *
          by_cases c4 : thenM s.f h = thenM s.g k
          · rw [if_pos c4] at hE
            rw [coc_ok hE, hmU]
            rw [decide_eq_true c4] at sm
            clear o1 o2 o3 o4 bf bg hs hf hgg hh hk hb c1 c2 c3 hE hmU c4 hp hv hg ht hsm hfi
            generalize thenM s.f h = fh at *
            generalize thenM s.g k = gk at *
            generalize poG s = d at *
            generalize poP s = pp at *
            generalize poK s = kk at *
            obtain ⟨dn, de⟩ := d
            obtain ⟨pn, pe⟩ := pp
            obtain ⟨kn, ke⟩ := kk
            obtain ⟨f1', f2'⟩ := fh
            obtain ⟨g1, g2⟩ := gk
            simp only [poD, gD, gA, mD, mA, spD] at *
            simp (config := { maxSteps := 1000000 }) (disch := first | omega | (simp only [go_sem]; omega)) only [go_sem, ↓reduceIte]
            refine call_by r1 ?_
            simp (config := { maxSteps := 1000000 }) (disch := first | omega | (simp only [go_sem]; omega)) only [go_sem, ↓reduceIte]
            refine call_by r2 ?_
            simp (config := { maxSteps := 1000000 }) (disch := first | omega | (simp only [go_sem]; omega)) only [go_sem, ↓reduceIte]
            refine call_by r3 ?_
            simp (config := { maxSteps := 1000000 }) (disch := first | omega | (simp only [go_sem]; omega)) only [go_sem, ↓reduceIte]
            refine call_by r4 ?_
            simp (config := { maxSteps := 1000000 }) (disch := first | omega | (simp only [go_sem]; omega)) only [go_sem, ↓reduceIte]
            refine call_by t1 ?_
            simp (config := { maxSteps := 1000000 }) (disch := first | omega | (simp only [go_sem]; omega)) only [go_sem, ↓reduceIte]
            refine call_by t2 ?_
            simp (config := { maxSteps := 1000000 }) (disch := first | omega | (simp only [go_sem]; omega)) only [go_sem, ↓reduceIte]
            refine call_by sm ?_
            simp (config := { maxSteps := 1000000 }) (disch := first | omega | (simp only [go_sem]; omega)) only [go_sem, ↓reduceIte]
            refine call_by f1 ?_
            simp (config := { maxSteps := 1000000 }) (disch := first | omega | (simp only [go_sem]; omega)) only [go_sem, ↓reduceIte]
            refine call_by f2 ?_
            simp (config := { maxSteps := 1000000 }) (disch := first | omega | (simp only [go_sem]; omega)) only [go_sem, ↓reduceIte]
            try rfl
          · rw [if_neg c4] at hE
            rw [coc_bad (by rw [hE]; decide), hE]
            rw [decide_eq_false c4] at sm
            clear o1 o2 o3 o4 bf bg hs hf hgg hh hk hb c1 c2 c3 hE hmU c4 hp hv hg ht hsm hfi
            generalize thenM s.f h = fh at *
            generalize thenM s.g k = gk at *
            generalize poG s = d at *
            generalize poP s = pp at *
            generalize poK s = kk at *
            obtain ⟨dn, de⟩ := d
            obtain ⟨pn, pe⟩ := pp
            obtain ⟨kn, ke⟩ := kk
            obtain ⟨f1', f2'⟩ := fh
            obtain ⟨g1, g2⟩ := gk
            simp only [poD, gD, gA, mD, mA, spD] at *
            simp (config := { maxSteps := 1000000 }) (disch := first | omega | (simp only [go_sem]; omega)) only [go_sem, ↓reduceIte]
            refine call_by r1 ?_
            simp (config := { maxSteps := 1000000 }) (disch := first | omega | (simp only [go_sem]; omega)) only [go_sem, ↓reduceIte]
            refine call_by r2 ?_
            simp (config := { maxSteps := 1000000 }) (disch := first | omega | (simp only [go_sem]; omega)) only [go_sem, ↓reduceIte]
            refine call_by r3 ?_
            simp (config := { maxSteps := 1000000 }) (disch := first | omega | (simp only [go_sem]; omega)) only [go_sem, ↓reduceIte]
            refine call_by r4 ?_
            simp (config := { maxSteps := 1000000 }) (disch := first | omega | (simp only [go_sem]; omega)) only [go_sem, ↓reduceIte]
            refine call_by t1 ?_
            simp (config := { maxSteps := 1000000 }) (disch := first | omega | (simp only [go_sem]; omega)) only [go_sem, ↓reduceIte]
            refine call_by t2 ?_
            simp (config := { maxSteps := 1000000 }) (disch := first | omega | (simp only [go_sem]; omega)) only [go_sem, ↓reduceIte]
            refine call_by sm ?_
            simp (config := { maxSteps := 1000000 }) (disch := first | omega | (simp only [go_sem]; omega)) only [go_sem, ↓reduceIte]
            simp [m0, ints, mA]
      · rw [if_pos c3] at hE
        rw [coc_bad (by rw [hE]; exact c3), hE]
        rw [c1] at r1
        rw [c2] at r2
        generalize validM s.c x k = v at *
        clear hE
        simp only [gD, mD, spD] at *
        simp (config := { maxSteps := 1000000 }) (disch := first | omega | (simp only [go_sem]; omega)) only [go_sem, ↓reduceIte]
        refine call_by r1 ?_
        simp (config := { maxSteps := 1000000 }) (disch := first | omega | (simp only [go_sem]; omega)) only [go_sem, ↓reduceIte]
        refine call_by r2 ?_
        simp (config := { maxSteps := 1000000 }) (disch := first | omega | (simp only [go_sem]; omega)) only [go_sem, ↓reduceIte]
        refine call_by r3 ?_
        simp (config := { maxSteps := 1000000 }) (disch := first | omega | (simp only [go_sem]; omega)) only [go_sem, ↓reduceIte, c3]
        simp [m0, mA, ints]
    · rw [if_pos c2] at hE
      rw [coc_bad (by rw [hE]; exact c2), hE]
      rw [c1] at r1
      generalize validM s.b x h = v at *
      clear hE
      simp only [gD, mD, spD] at *
      simp (config := { maxSteps := 1000000 }) (disch := first | omega | (simp only [go_sem]; omega)) only [go_sem, ↓reduceIte]
      refine call_by r1 ?_
      simp (config := { maxSteps := 1000000 }) (disch := first | omega | (simp only [go_sem]; omega)) only [go_sem, ↓reduceIte]
      refine call_by r2 ?_
      simp (config := { maxSteps := 1000000 }) (disch := first | omega | (simp only [go_sem]; omega)) only [go_sem, ↓reduceIte, c2]
      simp [m0, mA, ints]
  · rw [if_pos c1] at hE
    rw [coc_bad (by rw [hE]; exact c1), hE]
    generalize spE s = v at *
    clear hE
    simp only [gD, mD, spD] at *
    simp (config := { maxSteps := 1000000 }) (disch := first | omega | (simp only [go_sem]; omega)) only [go_sem, ↓reduceIte]
    refine call_by r1 ?_
    simp (config := { maxSteps := 1000000 }) (disch := first | omega | (simp only [go_sem]; omega)) only [go_sem, ↓reduceIte, c1]
    simp [m0, mA, ints]
theorem w_l10_path (n : Nat) (h1 : 1 ≤ n) (h2 : n ≤ 1000) : W P (c_l10_path F) (Done [.c 2 true 2] [] (gA (pathG n)) []) (init [.int .i64 n]) := by
  refine W_of ?_
  have el : ∀ i, (pathE i).length = i := fun i => by simp [pathE]
  have es : ∀ i, pathE (i + 1) = pathE i ++ [⟨0, (i : Int), (i : Int) + 1⟩] := fun i => by simp [pathE, List.range_succ]
  have e0 : pathE 0 = [] := rfl
  have rl : (List.replicate n (0 : Int)).length = n := by simp
  have hG : pathG n = ⟨List.replicate n 0, pathE (n - 1)⟩ := rfl
  rw [hG]
  generalize pathE = pe at *
  simp (config := { maxSteps := 1000000 }) (disch := first | omega | (simp only [go_sem]; omega)) only [go_sem, ↓reduceIte]
  generalize List.replicate n (0 : Int) = z at *
  refine W_loop (fun i : Nat => ⟨[(0, .int .i64 n), (2, .pt 2 0), (3, .pt 5 0), (4, .int .i64 ((i : Int) + 1))],
    [(0, .arr 1 []), (1, .arr 3 []), (2, .box [.sl 0 0 0, .sl 1 0 0]), (3, .arr 1 (ints z)), (4, .arr 3 (eds (pe i))), (5, .box [.sl 3 0 n, .sl 4 0 i])], 6⟩) (fun i => i ≤ n - 1) (fun i => n - i) 0 ?_ ?_ ?_
  · simp (config := { maxSteps := 1000000 }) (disch := first | omega | (simp only [go_sem]; omega)) only [go_sem, ↓reduceIte, e0]
    rfl
  · simp
  · intro i hi
    have eli := el i
    by_cases c : i + 1 < n
    · have g1 : decide ((i : Int) + 1 < n) = true := decide_eq_true (by omega)
      simp (config := { maxSteps := 1000000 }) (disch := first | omega | (simp only [go_sem]; omega)) only [go_sem, ↓reduceIte, c_l10_path_b6, g1, eli, Int.add_sub_cancel]
      exact ⟨i + 1, by simp [es], by omega, by omega⟩
    · have g1 : decide ((i : Int) + 1 < n) = false := decide_eq_false (by omega)
      obtain rfl : i = n - 1 := by omega
      simp (config := { maxSteps := 1000000 }) (disch := first | omega | (simp only [go_sem]; omega)) only [go_sem, ↓reduceIte, c_l10_path_b6, g1, rl, eli]
      simp [gA]
def exSp (f : Int) : Sp := ⟨⟨[0], []⟩, ⟨[0, 0], [⟨0, 0, 1⟩]⟩, ⟨[0, 0], [⟨0, 0, 1⟩]⟩, ⟨[f], []⟩, ⟨[0], []⟩⟩
set_option maxRecDepth 100000 in
theorem w_l10_awake (hp : K_l10_path P F) (ho : K_pushout_Of P F) (hg : K_r05_Same P F) (hm : K_r06_Same P F) (he : K_slices_Equal_E P F) : W P (c_l10_awake F) (Done [.t 0] [] (.bool true) []) (init []) := by
  refine W_of ?_
  have p1 := hp 1 (by omega) (by omega)
  have p2 := hp 2 (by omega) (by omega)
  have p3 := hp 3 (by omega) (by omega)
  rw [show pathG 1 = ⟨[0], []⟩ by decide +kernel] at p1
  rw [show pathG 2 = ⟨[0, 0], [⟨0, 0, 1⟩]⟩ by decide +kernel] at p2
  rw [show pathG 3 = ⟨[0, 0, 0], [⟨0, 0, 1⟩, ⟨0, 1, 2⟩]⟩ by decide +kernel] at p3
  have r1 := ho (exSp 1)
  have r2 := ho (exSp 0)
  rw [show poR (exSp 1) = (⟨[0, 0, 0], [⟨0, 0, 1⟩, ⟨0, 1, 2⟩]⟩, ⟨[0, 1], [0]⟩, ⟨[1, 2], [1]⟩, 0) by decide +kernel] at r1
  rw [show poR (exSp 0) = (⟨[0, 0, 0], [⟨0, 0, 1⟩, ⟨0, 0, 2⟩]⟩, ⟨[0, 1], [0]⟩, ⟨[0, 2], [1]⟩, 0) by decide +kernel] at r2
  have s1 := hg ⟨[0, 0, 0], [⟨0, 0, 1⟩, ⟨0, 1, 2⟩]⟩ ⟨[0, 0, 0], [⟨0, 0, 1⟩, ⟨0, 1, 2⟩]⟩ (by decide) (by decide)
  have s2 := hm ⟨[0, 1], [0]⟩ ⟨[0, 1], [0]⟩ (by decide) (by decide)
  have s3 := hm ⟨[1, 2], [1]⟩ ⟨[1, 2], [1]⟩ (by decide) (by decide)
  have s4 := he [⟨0, 0, 1⟩, ⟨0, 0, 2⟩] [⟨0, 0, 1⟩, ⟨0, 0, 2⟩] (by decide)
  simp only [poD, exSp, spD, gD, mD, gA, mA] at *
  simp (config := { maxSteps := 1000000 }) (disch := first | omega | (simp only [go_sem]; omega)) only [go_sem, ↓reduceIte]
  refine call_by p1 ?_
  simp (config := { maxSteps := 1000000 }) (disch := first | omega | (simp only [go_sem]; omega)) only [go_sem, ↓reduceIte]
  refine call_by p2 ?_
  simp (config := { maxSteps := 1000000 }) (disch := first | omega | (simp only [go_sem]; omega)) only [go_sem, ↓reduceIte]
  refine call_by p2 ?_
  simp (config := { maxSteps := 1000000 }) (disch := first | omega | (simp only [go_sem]; omega)) only [go_sem, ↓reduceIte]
  refine call_by r1 ?_
  simp (config := { maxSteps := 1000000 }) (disch := first | omega | (simp only [go_sem]; omega)) only [go_sem, ↓reduceIte, Int.cast_ofNat_Int, eq_self]
  refine call_by p3 ?_
  simp (config := { maxSteps := 1000000 }) (disch := first | omega | (simp only [go_sem]; omega)) only [go_sem, ↓reduceIte]
  refine call_by s1 ?_
  simp (config := { maxSteps := 1000000 }) (disch := first | omega | (simp only [go_sem]; omega)) only [go_sem, ↓reduceIte]
  refine call_by s2 ?_
  simp (config := { maxSteps := 1000000 }) (disch := first | omega | (simp only [go_sem]; omega)) only [go_sem, ↓reduceIte]
  refine call_by s3 ?_
  simp (config := { maxSteps := 1000000 }) (disch := first | omega | (simp only [go_sem]; omega)) only [go_sem, ↓reduceIte]
  refine call_by r2 ?_
  simp (config := { maxSteps := 1000000 }) (disch := first | omega | (simp only [go_sem]; omega)) only [go_sem, ↓reduceIte, Int.cast_ofNat_Int, eq_self]
  refine call_by s4 ?_
  simp (config := { maxSteps := 1000000 }) (disch := first | omega | (simp only [go_sem]; omega)) only [go_sem, ↓reduceIte]
end
end Go.Am
