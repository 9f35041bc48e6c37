/- The reference's lists of isomorphisms: the walks. -/
import Derived.Test.YtmkhlefohbfekaaGreatSpPa
import Derived.Test.YtmkhlefohbfekaaGreatSpPb
import Derived.Test.YtmkhlefohbfekaaGreatSpPc
import Derived.Test.YtmkhlefohbfekaaGreatSpPd
import Derived.Test.YtmkhlefohbfekaaGreatSpXa
namespace Go.Am
open Go
set_option linter.unusedVariables false
set_option linter.unusedSimpArgs false
attribute [local irreducible] W
@[go_sem] def c_r08_all_r0 : LL := [qB 3 0,qB 4 1,qn 6 2]
@[go_sem] def c_r08_all_r1 : LL := [qn 7 2]
@[go_sem] def c_r08_all_r2 : LL := [qf 12 0 3,ql 13 1 12,qz 14 13,qf 15 0 4,ql 16 1 15,qz 17 16,qo .neq 18 14 17,qm 19 18,qg 19 false (qf 20 1 3),qg 19 false (ql 21 1 20),qg 19 false (qz 22 21),
 qg 19 false (qf 23 1 4),qg 19 false (ql 24 1 23),qg 19 false (qz 25 24),qg 19 false (qo .neq 26 22 25),qQ 27 19 26]
@[go_sem] def c_r08_all_r3 : LL := [qn 6 2]
@[go_sem] def c_r08_all_r4 (F : Fn) : LL := [qL 28 2 3,qL 29 2 4,qm 30 2,⟨some 31,.call (F "r08.maps") [.t 28,.t 29,.k (.nl 0),.t 30,.k (.nl 0)] [.rd,.rd,.rd,.rd,.ow],none⟩,qm 8 31]
@[go_sem] def c_r08_all_r5 : LL := [qi 9 0]
@[go_sem] def c_r08_all_r6 : LL := [qm 32 9,qm 33 8,qz 34 33,qo .lss 35 32 34]
@[go_sem] def c_r08_all_r7 (F : Fn) : LL := [qL 38 2 3,qL 39 2 4,qm 40 8,qm 41 9,qd 42 1 40 41,ql 43 1 42,qm 44 2,qm 45 7,qz 46 45,qo .sub 47 44 46,
 ⟨some 48,.call (F "r08.edges") [.t 38,.t 39,.t 43,.k (.nl 0),.t 47,.k (.nl 0)] [.rd,.rd,.rd,.rd,.rd,.ow],none⟩,qm 10 48]
@[go_sem] def c_r08_all_r8 : LL := [qi 11 0]
@[go_sem] def c_r08_all_r9 : LL := [qm 49 11,qm 50 10,qz 51 50,qo .lss 52 49 51]
@[go_sem] def c_r08_all_r10 : LL := [qm 55 7,qm 56 8,qm 57 9,qd 58 1 56 57,ql 59 1 58,qm 60 10,qm 61 11,qd 62 1 60 61,ql 63 1 62,qu 64 [.nl 1,.nl 1] [(0,1,.t 59),(1,1,.t 63)],
 ⟨some 65,.buildSl 2 48 (.agg [.lst 1 [],.lst 1 []]) 1 [(0,.t 64)],none⟩,qp 66 2 48 55 65,qm 7 66]
@[go_sem] def c_r08_all_r11 : LL := [qm 53 11,qk .add 54 53 1,qm 11 54]
def c_r08_all_b12 : LC := (.seq (.seq (.reg c_r08_all_r9 [2,3,4,7,8,9,10,11,52]) (.cond (.t 52) .skip (.exit 2))) (.seq (.block 3 (.dreg [] c_r08_all_r10 [2,3,4,7,8,9,10,11])) (.reg c_r08_all_r11 [2,3,4,7,8,9,10,11])))
@[go_sem] def c_r08_all_r13 : LL := [qm 67 7,qz 68 67,qm 69 2,qo .geq 70 68 69]
@[go_sem] def c_r08_all_r14 : LL := [qm 71 7,qm 6 71]
@[go_sem] def c_r08_all_r15 : LL := [qm 36 9,qk .add 37 36 1,qm 9 37]
def c_r08_all_b16 (F : Fn) : LC := (.seq (.seq (.reg c_r08_all_r6 [2,3,4,7,8,9,35]) (.cond (.t 35) .skip (.exit 0))) (.seq (.block 1 (.seq (.dreg [] (c_r08_all_r7 F) [2,3,4,7,8,9,10]) (.seq (.seq (.reg c_r08_all_r8 [2,3,4,7,8,9,10,11]) (.block 2 (.loop [2,3,4,7,8,9,10,11] c_r08_all_b12))) (.seq (.reg c_r08_all_r13 [2,3,4,7,8,9,70]) (.cond (.t 70) (.seq (.reg c_r08_all_r14 [6]) .ret) .skip))))) (.reg c_r08_all_r15 [2,3,4,7,8,9])))
@[go_sem] def c_r08_all_r17 : LL := [qm 72 7,qm 6 72]
@[go_sem] def c_r08_all (F : Fn) : LC := (.seq (.reg c_r08_all_r0 [2,3,4]) (.seq (.reg c_r08_all_r1 [2,3,4,7]) (.seq (.seq (.reg c_r08_all_r2 [2,3,4,7,27]) (.cond (.t 27) (.seq (.reg c_r08_all_r3 [6]) .ret) .skip)) (.seq (.reg (c_r08_all_r4 F) [2,3,4,7,8]) (.seq (.seq (.reg c_r08_all_r5 [2,3,4,7,8,9]) (.block 0 (.loop [2,3,4,7,8,9] (c_r08_all_b16 F)))) (.seq (.reg c_r08_all_r17 [6]) .ret))))))
def h_r08_all : Hints := hn [] [(0,[2,3,4]),(1,[2,3,4,7]),(2,[2,3,4,7,27]),(3,[6]),(4,[2,3,4,7,8]),(5,[2,3,4,7,8,9]),(6,[2,3,4,7,8,9,35]),(7,[2,3,4,7,8,9]),(8,[2,3,4,7,8,9,10]),(9,[2,3,4,7,8,9,10,11]),(10,[2,3,4,7,8,9,10,11,52]),(11,[2,3,4,7,8,9,10,11]),(12,[2,3,4,7,8,9,10,11]),(13,[2,3,4,7,8,9,70]),(14,[6]),(15,[6])] [(6,[2,3,4,7,8,9]),(10,[2,3,4,7,8,9,10,11])]
@[go_sem] def c_r08_All_r0 : LL := [qB 2 0,qB 3 1,qn 4 2,qi 5 0]
@[go_sem] def c_r08_All_r1 (F : Fn) : LL := [qL 8 2 2,qL 9 2 3,qc 10 (F "r08.given") [.t 8,.t 9],qm 6 10]
@[go_sem] def c_r08_All_r2 : LL := [qm 11 6,qk .neq 12 11 0]
@[go_sem] def c_r08_All_r3 : LL := [qm 13 6,qn 4 2,qm 5 13]
@[go_sem] def c_r08_All_r4 (F : Fn) : LL := [qL 14 2 2,qL 15 2 3,qc 16 (F "r08.all") [.t 14,.t 15,.k (.int .i64 (2001))],qm 7 16]
@[go_sem] def c_r08_All_r5 : LL := [qm 17 7,qz 18 17,qk .gtr 19 18 2000]
@[go_sem] def c_r08_All_r6 : LL := [qn 4 2,qi 5 3]
@[go_sem] def c_r08_All_r7 : LL := [qm 20 7,qm 4 20,qi 5 0]
@[go_sem] def c_r08_All (F : Fn) : LC := (.seq (.reg c_r08_All_r0 [2,3]) (.seq (.seq (.reg (c_r08_All_r1 F) [2,3,6]) (.seq (.reg c_r08_All_r2 [2,3,6,12]) (.cond (.t 12) (.seq (.reg c_r08_All_r3 [4,5]) .ret) .skip))) (.seq (.reg (c_r08_All_r4 F) [7]) (.seq (.seq (.reg c_r08_All_r5 [7,19]) (.cond (.t 19) (.seq (.reg c_r08_All_r6 [4,5]) .ret) .skip)) (.seq (.reg c_r08_All_r7 [4,5]) .ret)))))
def h_r08_All : Hints := hOf [] (c_r08_All fun _ => 0)
def addR (a b : G) (most : Int) (out : List Mo) (ns : List Int) : List Mo := if (out.length : Int) < most then out ++ (edgR a b ns (most - out.length) a.e.length [] []).map (fun es => ⟨ns, es⟩) else out
def allR (a b : G) (most : Int) : List Mo := if shpB a b = true then (mapR a b most a.n.length [] []).foldl (addR a b most) [] else []
def allF (a b : G) : List Mo × Int := if bothE a b = 0 then (if 2000 < (allR a b 2001).length then ([], 3) else (allR a b 2001, 0)) else ([], bothE a b)
section
variable (P : Program) (F : String → Nat)
def K_r08_all : Prop := ∀ (a b : G) (most : Int), InG a → InG b → 1 ≤ most → most ≤ 3000 → FC P (F "r08.all") [gD a, gD b, .int .i64 most] (.arr 2 (pts (allR a b most))) []
def K_r08_All : Prop := ∀ a b : G, FC P (F "r08.All") [gD a, gD b] (.tup [.arr 2 (pts (allF a b).1), .int .i64 (allF a b).2]) []
end
section
variable {α : Type}
theorem mapR_mem (a b : G) (most : Int) (n : Nat) : ∀ (k : Nat) (ns : List Int) (out : List (List Int)), ns.length + k = n → (∀ x ∈ ns, 0 ≤ x ∧ x < b.n.length) → (∀ y ∈ out, y.length = n ∧ ∀ x ∈ y, 0 ≤ x ∧ x < (b.n.length : Int)) → ∀ y ∈ mapR a b most k ns out, y.length = n ∧ ∀ x ∈ y, 0 ≤ x ∧ x < (b.n.length : Int)
 | 0, ns, out, h, h2, h3 => fun y hy => by
  simp only [mapR, List.mem_append, List.mem_singleton] at hy
  rcases hy with hy | rfl
  ·exact h3 y hy
  ·exact ⟨by omega, h2⟩
 | k + 1, ns, out, h, h2, h3 => by
  simp only [mapR]
  have key : ∀ (l : List Nat), (∀ i ∈ l, i < b.n.length) → ∀ o : List (List Int), (∀ y ∈ o, y.length = n ∧ ∀ x ∈ y, 0 ≤ x ∧ x < (b.n.length : Int)) → ∀ y ∈ l.foldl (fun o (i : Nat) => if (o.length : Int) < most then (if fitsR a b ns i then mapR a b most k (ns ++ [(i : Int)]) o else o) else o) o, y.length = n ∧ ∀ x ∈ y, 0 ≤ x ∧ x < (b.n.length : Int) := fun l => by
   induction l with
   | nil => intro _ o ho; exact ho
   | cons i l ih =>
    intro hl o ho
    rw [List.foldl_cons]
    refine ih (fun j hj => hl j (by simp [hj])) _ ?_
    split
    ·split
     ·have hi := hl i (by simp)
      refine mapR_mem a b most n k _ _ (by simp; omega) (fun x hx => ?_) ho
      rcases List.mem_append.1 hx with hx | hx
      ·exact h2 x hx
      ·simp only [List.mem_singleton] at hx; omega
     ·exact ho
    ·exact ho
  exact key _ (fun i hi => List.mem_range.1 hi) _ h3
end
section
variable {P : Program} {F : String → Nat} {α : Type}
theorem w_r08_all (hm : K_r08_maps P F) (he : K_r08_edges P F) (a b : G) (most : Int) (va : InG a) (vb : InG b) (h1 : 1 ≤ most) (h2 : most ≤ 3000) :
  W P (c_r08_all F) (Done [.t 6] [] (.arr 2 (pts (allR a b most))) []) (init [gD a, gD b, .int .i64 most]) := by
 refine W_of ?_
 have hR : allR a b most = if shpB a b = true then (mapR a b most a.n.length [] []).foldl (addR a b most) [] else [] := rfl
 have r1 := hm a.n.length a b [] most [] va vb (by simp) (by simp) (by simp; omega) h2
 replace r1 := FC.nils (a := [gD a, gD b, .nl 0, .int .i64 most, .nl 0]) r1 (by simp [NilW, ints, iis])
 have hml := mapR_len a b most a.n.length [] [] (by simp; omega)
 have hmm := mapR_mem a b most a.n.length a.n.length [] [] (by simp) (by simp) (by simp)
 have r2 : ∀ ns : List Int, ns.length = a.n.length → ∀ k : Int, 1 ≤ k → k ≤ 3000 → FC P (F "r08.edges") [gD a, gD b, .lst 1 (ints ns), .nl 0, .int .i64 k, .nl 0] (.arr 1 (iis (edgR a b ns k a.e.length [] []))) [] := fun ns hn k h3 h4 => by
  have := he a.e.length a b ns [] k [] va vb hn (by simp) (by simp; omega) h4
  exact FC.nils (a := [gD a, gD b, .lst 1 (ints ns), .nl 0, .int .i64 k, .nl 0]) this (by simp [NilW, ints, iis])
 have hel : ∀ (ns : List Int) (k : Int), 1 ≤ k → ((edgR a b ns k a.e.length [] []).length : Int) ≤ k := fun ns k h => edgR_len a b ns k _ _ _ (by simp; omega)
 have hadd : ∀ out ns, addR a b most out ns = if (out.length : Int) < most then out ++ (edgR a b ns (most - out.length) a.e.length [] []).map (fun es => ⟨ns, es⟩) else out := fun _ _ => rfl
 have hs : shpB a b = (decide (a.n.length = b.n.length) && decide (a.e.length = b.e.length)) := rfl
 generalize allR a b most = R at *
 generalize addR a b most = ad at *
 generalize mapR a b most a.n.length [] [] = N at *
 generalize hE : (fun ns k => edgR a b ns k a.e.length [] []) = E at *
 have hE' : ∀ ns k, edgR a b ns k a.e.length [] [] = E ns k := fun ns k => by rw [← hE]
 simp only [hE'] at *
 clear hE hE' hm he
 generalize shpB a b = sh at *
 obtain ⟨an, ae⟩ := a
 obtain ⟨bn, be⟩ := b
 simp only [gD] at *
 cases sh with
 | false =>
  rw [if_neg (by simp)] at hR
  subst hR
  by_cases e1 : an.length = bn.length
  ·have d1 : decide ((an.length : Int) = bn.length) = true := decide_eq_true (by omega)
   have d2 : decide ((ae.length : Int) = be.length) = false := decide_eq_false (fun h => by simp [e1, show ae.length = be.length by omega] at hs)
   simp (disch := omega) only [go_sem, ↓reduceIte, d1, d2]
   rfl
  ·have d1 : decide ((an.length : Int) = bn.length) = false := decide_eq_false (by omega)
   simp (disch := omega) only [go_sem, ↓reduceIte, d1]
   rfl
 | true =>
  rw [if_pos rfl] at hR
  have d1 : decide ((an.length : Int) = bn.length) = true := decide_eq_true (by simp at hs; omega)
  have d2 : decide ((ae.length : Int) = be.length) = true := decide_eq_true (by simp at hs; omega)
  simp (disch := omega) only [go_sem, ↓reduceIte, d1, d2]
  refine call_by r1 ?_
  obtain ⟨A, hA⟩ : ∃ A : Nat → List Mo, ∀ i, A i = (N.take i).foldl ad [] := ⟨_, fun _ => rfl⟩
  have hA0 : A 0 = [] := by rw [hA]; rfl
  have hAs : ∀ i, i < N.length → A (i + 1) = ad (A i) (gt N (i : Int)) := fun i hi => by rw [hA, hA, take_gt hi, List.foldl_append]; rfl
  have hAn : R = A N.length := by rw [hR, hA, List.take_length]
  have hAl : ∀ i, ((A i).length : Int) ≤ most := fun i => by
   rw [hA]
   refine foldl_lenI (fun o ns ho => ?_) _ _ (by simp; omega)
   rw [hadd]
   split
   ·have := hel ns (most - o.length) (by omega)
    simp only [List.length_append, List.length_map]; omega
   ·exact ho
  have hAf : ∀ i, ¬ ((A i).length : Int) < most → R = A i := fun i h => by
   have : N = N.take i ++ N.drop i := (List.take_append_drop i N).symm
   rw [hR, this, List.foldl_append, ← hA, foldl_full (fun o ns h => by rw [hadd, if_neg h]) _ _ h]
  clear hR hA
  cases hfN : (iis N).all D.flatE
  all_goals
   simp (disch := omega) only [go_sem, ↓reduceIte, hfN]
   refine W_loop (fun i : Nat => ⟨[(2, .int .i64 most), (3, .pt 0 0), (4, .pt 1 0), (7, .sl 2 0 (A i).length), (8, .sl 3 0 N.length), (9, .int .i64 i)], [(0, .box [.lst 1 (ints an), .lst 3 (eds ae)]), (1, .box [.lst 1 (ints bn), .lst 3 (eds be)]), (2, .arr 2 (pts (A i))), (3, .arr 1 (iis N))], 4⟩)
    (fun i => i ≤ N.length ∧ (1 ≤ i → ((A i).length : Int) < most) ∧ ((A i).length : Int) < most) (fun i => N.length - i) 0 ?_ ?_ ?_
   ·simp (disch := omega) only [go_sem, ↓reduceIte, hA0]
    rfl
   ·exact ⟨Nat.zero_le _, by omega, by rw [hA0]; simp; omega⟩
   ·rintro i ⟨k1, k2, k3⟩
    simp (disch := omega) only [go_sem, ↓reduceIte, c_r08_all_b16]
    refine bran_dec (fun d => ?_) (fun d => ?_)
    ·have q2 := r2 (gt N (i : Int)) (hmm _ (gt_mem (by omega) (by omega))).1 (most - (A i).length) (by omega) (by omega)
     have ql := hel (gt N (i : Int)) (most - (A i).length) (by omega)
     have hAi := hAs i (by omega)
     rw [hadd, if_pos k3] at hAi
     have hAl1 := hAl (i + 1)
     have hAf1 := hAf (i + 1)
     have hAl0 := hAl i
     generalize E (gt N (i : Int)) (most - (A i).length) = L at *
     obtain ⟨B, hB⟩ : ∃ B : Nat → List Mo, ∀ k, B k = A i ++ (L.take k).map fun es => (⟨gt N (i : Int), es⟩ : Mo) := ⟨_, fun _ => rfl⟩
     have hB0 : B 0 = A i := by rw [hB]; simp
     have hBs : ∀ k, k < L.length → B (k + 1) = B k ++ [⟨gt N (i : Int), gt L (k : Int)⟩] := fun k hk => by
      rw [hB, hB, take_gt hk, List.map_append, List.append_assoc]; rfl
     have hBn : B L.length = A (i + 1) := by rw [hB, List.take_length, hAi]
     have hBl : ∀ k, k ≤ L.length → (B k).length ≤ 3000 := fun k hk => by
      rw [hB, List.length_append, List.length_map, List.length_take]; omega
     clear hB hAi
     simp (disch := omega) only [go_sem, ↓reduceIte]
     refine call_by q2 ?_
     cases hfL : (iis L).all D.flatE
     all_goals
      simp (disch := omega) only [go_sem, ↓reduceIte, hfL]
      refine W_loop (fun k : Nat => ⟨[(2, .int .i64 most), (3, .pt 0 0), (4, .pt 1 0), (7, .sl 2 0 (B k).length), (8, .sl 3 0 N.length), (9, .int .i64 i), (10, .sl 4 0 L.length), (11, .int .i64 k)], [(0, .box [.lst 1 (ints an), .lst 3 (eds ae)]), (1, .box [.lst 1 (ints bn), .lst 3 (eds be)]), (2, .arr 2 (pts (B k))), (3, .arr 1 (iis N)), (4, .arr 1 (iis L))], 5⟩)
       (fun k => k ≤ L.length) (fun k => L.length - k) 0 ?_ ?_ ?_
      ·simp (disch := omega) only [go_sem, ↓reduceIte, hB0]
       rfl
      ·omega
      ·intro k k4
       have hBk := hBl k k4
       simp (disch := omega) only [go_sem, ↓reduceIte, c_r08_all_b12]
       refine bran_dec (fun e => ?_) (fun e => ?_)
       ·have hB := hBs k (by omega)
        have hBk2 := hBl (k + 1) (by omega)
        simp (disch := omega) only [go_sem, ↓reduceIte]
        exact ⟨k + 1, by simp [hB], by omega, by omega⟩
       ·obtain rfl : k = L.length := by omega
        rw [hBn]
        simp (disch := omega) only [go_sem, ↓reduceIte]
        refine bran_dec (fun f => ?_) (fun f => ?_)
        ·rw [hAf1 (by omega)]
         simp (disch := omega) only [go_sem, ↓reduceIte]
        ·simp (disch := omega) only [go_sem, ↓reduceIte]
         exact ⟨i + 1, by simp, ⟨by omega, fun _ => by omega, by omega⟩, by omega⟩
    ·obtain rfl : i = N.length := by omega
     rw [hAn]
     simp (disch := omega) only [go_sem, ↓reduceIte]
theorem allR_len (a b : G) {most : Int} (h : 1 ≤ most) : ((allR a b most).length : Int) ≤ most := by
 unfold allR
 split
 ·refine foldl_lenI (fun o ns ho => ?_) _ _ (by simp; omega)
  unfold addR
  split
  ·have := edgR_len a b ns (most - o.length) a.e.length [] [] (by simp; omega)
   simp only [List.length_append, List.length_map]; omega
  ·exact ho
 ·simp; omega
theorem w_r08_All (hg : K_r08_given P F) (hl : K_r08_all P F) (a b : G) : W P (c_r08_All F) (Done [.t 4, .t 5] [] (.tup [.arr 2 (pts (allF a b).1), .int .i64 (allF a b).2]) []) (init [gD a, gD b]) := by
 refine W_of ?_
 have r1 := hg a b
 by_cases hv : bothE a b = 0
 ·obtain ⟨va, vb⟩ := bothE_spec hv
  have r2 := hl a b 2001 (InG.of_valid va) (InG.of_valid vb) (by omega) (by omega)
  have hA : allF a b = if 2000 < (allR a b 2001).length then ([], 3) else (allR a b 2001, 0) := if_pos hv
  have hlen := allR_len a b (most := 2001) (by omega)
  rw [hA]
  rw [hv] at r1
  generalize allR a b 2001 = l at *
  simp only [gD] at *
  have d0 : decide ((0 : Int) = 0) = true := rfl
  simp (disch := omega) only [go_sem, ↓reduceIte]
  refine call_by r1 ?_
  simp (disch := omega) only [go_sem, ↓reduceIte, d0]
  refine call_by r2 ?_
  cases hfl : (pts l).all D.flatE
  all_goals
   simp (disch := omega) only [go_sem, ↓reduceIte, hfl]
   refine bran_dec (fun d => ?_) (fun d => ?_)
   ·rw [if_pos (by omega)]
    simp (disch := omega) only [go_sem, ↓reduceIte]
    try rfl
   ·rw [if_neg (by omega)]
    simp (disch := omega) only [go_sem, ↓reduceIte]
 ·rw [show allF a b = ([], bothE a b) from if_neg hv]
  generalize bothE a b = e at *
  simp only [gD] at *
  have d0 : decide (e = 0) = false := decide_eq_false hv
  simp (disch := omega) only [go_sem, ↓reduceIte]
  refine call_by r1 ?_
  simp (disch := omega) only [go_sem, ↓reduceIte, d0]
  rfl
end
section
theorem take_app {β : Type} (A B : List β) (M : Nat) : (A.take M ++ B).take M = (A ++ B).take M := by
 rw [List.take_append, List.take_append, List.take_take, Nat.min_self, List.length_take]
 rcases Nat.le_total M A.length with h | h
 ·rw [show M - min M A.length = 0 by omega, show M - A.length = 0 by omega]
 ·rw [show min M A.length = A.length by omega]
theorem foldl_takM {β γ : Type} {f : List β → γ → List β} {g : γ → List β} {M : Nat} (hf : ∀ o x, o.length ≤ M → f o x = (o ++ g x).take M) : ∀ (l : List γ) (o : List β), o.length ≤ M → l.foldl f o = (o ++ l.flatMap g).take M
 | [], o, h => by rw [List.foldl_nil, List.flatMap_nil, List.append_nil, List.take_of_length_le h]
 | x :: l, o, h => by
  rw [List.foldl_cons, hf o x h, foldl_takM hf l _ (by rw [List.length_take]; omega), List.flatMap_cons, ← List.append_assoc, take_app]
theorem take_full {β : Type} {o : List β} (X : List β) {M : Nat} (h : o.length = M) : (o ++ X).take M = o := by
 rw [List.take_append_of_le_length (by omega), List.take_of_length_le (by omega)]
def fullN (N : Nat) (ok : List Int → Int → Bool) : Nat → List Int → List (List Int)
 | 0, ns => [ns]
 | k + 1, ns => (List.range N).flatMap fun (n : Nat) => if ok ns (n : Int) then fullN N ok k (ns ++ [(n : Int)]) else []
def imE (a b : G) (ns : List Int) : List (List Int) := fullN b.e.length (fun es n => wnt a b ns es n.toNat) a.e.length []
def imM (a b : G) (ns : List Int) : List Mo := (imE a b ns).map fun es => ⟨ns, es⟩
theorem eE_take (a b : G) (ns : List Int) (m : Int) (hm : 0 ≤ m) : ∀ (k : Nat) (es : List Int) (out : List Mo), out.length ≤ m.toNat + 1 →
  eE a b ns m k es out = (out ++ (fullN b.e.length (fun es n => wnt a b ns es n.toNat) k es).map fun es => (⟨ns, es⟩ : Mo)).take (m.toNat + 1)
 | 0, es, out, h => by
  simp only [eE, fullN, List.map_cons, List.map_nil]
  split
  ·rw [take_full _ (by omega)]
  ·rw [List.take_of_length_le (by simp; omega)]
 | k + 1, es, out, h => by
  simp only [eE]
  split
  ·rw [take_full _ (by omega)]
  ·rw [foldl_takM (g := fun (n : Nat) => (if wnt a b ns es n then fullN b.e.length (fun es n => wnt a b ns es n.toNat) k (es ++ [(n : Int)]) else []).map fun es => (⟨ns, es⟩ : Mo)) (M := m.toNat + 1) _ _ _ h]
   ·rw [fullN, List.map_flatMap]
    rfl
   ·intro o n ho
    split
    ·exact eE_take a b ns m hm k _ _ ho
    ·rw [List.map_nil, List.append_nil, List.take_of_length_le ho]
theorem nN_take (a b : G) (c : List Int) (m : Int) (al : Int → Int → Bool) (hm : 0 ≤ m) : ∀ (k : Nat) (ns : List Int) (out : List Mo), out.length ≤ m.toNat + 1 →
  nN a b c m al k ns out = (out ++ (fullN b.n.length (fun ns n => al ns.length n && fitsP a b c ns n) k ns).flatMap (imM a b)).take (m.toNat + 1)
 | 0, ns, out, h => by
  simp only [nN, fullN, List.flatMap_cons, List.flatMap_nil, List.append_nil]
  split
  ·rw [take_full _ (by omega)]
  ·rw [eE_take a b ns m hm _ _ _ h]
   rfl
 | k + 1, ns, out, h => by
  simp only [nN]
  split
  ·rw [take_full _ (by omega)]
  ·rw [foldl_takM (g := fun (n : Nat) => (if al ns.length (n : Int) && fitsP a b c ns (n : Int) then fullN b.n.length (fun ns n => al ns.length n && fitsP a b c ns n) k (ns ++ [(n : Int)]) else []).flatMap (imM a b)) (M := m.toNat + 1) _ _ _ h]
   ·rw [fullN, List.flatMap_assoc]
   ·intro o n ho
    split
    ·exact nN_take a b c m al hm k _ _ ho
    ·rw [List.flatMap_nil, List.append_nil, List.take_of_length_le ho]
theorem mapR_take (a b : G) (most : Int) : ∀ (k : Nat) (ns : List Int) (out : List (List Int)), (out.length : Int) < most →
  mapR a b most k ns out = (out ++ fullN b.n.length (fitsR a b) k ns).take most.toNat
 | 0, ns, out, h => by
  simp only [mapR, fullN]
  rw [List.take_of_length_le (by simp; omega)]
 | k + 1, ns, out, h => by
  simp only [mapR]
  rw [foldl_takM (g := fun (n : Nat) => if fitsR a b ns (n : Int) then fullN b.n.length (fitsR a b) k (ns ++ [(n : Int)]) else []) (M := most.toNat) _ _ _ (by omega)]
  ·rfl
  ·intro o n ho
   split
   ·split
    ·exact mapR_take a b most k _ _ (by assumption)
    ·rw [List.append_nil, List.take_of_length_le ho]
   ·rw [take_full _ (by omega)]
theorem edgR_take (a b : G) (ns : List Int) (most : Int) : ∀ (k : Nat) (es : List Int) (out : List (List Int)), (out.length : Int) < most →
  edgR a b ns most k es out = (out ++ fullN b.e.length (fun es n => wnt a b ns es n.toNat) k es).take most.toNat
 | 0, es, out, h => by
  simp only [edgR, fullN]
  rw [List.take_of_length_le (by simp; omega)]
 | k + 1, es, out, h => by
  simp only [edgR]
  rw [foldl_takM (g := fun (n : Nat) => if wnt a b ns es n then fullN b.e.length (fun es n => wnt a b ns es n.toNat) k (es ++ [(n : Int)]) else []) (M := most.toNat) _ _ _ (by omega)]
  ·rfl
  ·intro o n ho
   split
   ·split
    ·exact edgR_take a b ns most k _ _ (by assumption)
    ·rw [List.append_nil, List.take_of_length_le ho]
   ·rw [take_full _ (by omega)]
theorem flatM_take {β γ : Type} {g : γ → List β} : ∀ (l : List γ) (M : Nat), (∀ x ∈ l, g x ≠ []) → ((l.take M).flatMap g).take M = (l.flatMap g).take M
 | [], M, _ => by simp
 | x :: l, 0, _ => by simp
 | x :: l, M + 1, h => by
  have hx : 0 < (g x).length := List.length_pos_iff.2 (h x (by simp))
  have key : ∀ K, K ≤ M → ((l.take M).flatMap g).take K = (l.flatMap g).take K := fun K hK => by
   have := congrArg (List.take K) (flatM_take l M fun y hy => h y (by simp [hy]))
   rw [List.take_take, List.take_take, show min K M = K by omega] at this
   exact this
  rw [List.take_succ_cons, List.flatMap_cons, List.flatMap_cons, List.take_append, List.take_append, key _ (by omega)]
theorem allR_take {a b : G} {most : Int} (h1 : 1 ≤ most) (hs : shpB a b = true) (hne : ∀ ns ∈ fullN b.n.length (fitsR a b) a.n.length [], imE a b ns ≠ []) :
  allR a b most = ((fullN b.n.length (fitsR a b) a.n.length []).flatMap (imM a b)).take most.toNat := by
 rw [allR, if_pos hs, mapR_take _ _ _ _ _ _ (by simp; omega), List.nil_append]
 rw [foldl_takM (g := imM a b) (M := most.toNat) _ _ _ (by simp), List.nil_append]
 ·exact flatM_take _ _ fun ns hns e => hne ns hns (List.map_eq_nil_iff.1 e)
 ·intro o ns ho
  unfold addR
  split
  ·rw [edgR_take _ _ _ _ _ _ _ (by simp; omega), List.nil_append, List.map_take, List.take_append, List.take_of_length_le ho]
   rw [show (most - (o.length : Int)).toNat = most.toNat - o.length by omega]
   rfl
  ·rw [take_full _ (by omega)]
theorem isoN_take (a b : G) {m : Int} (al : Int → Int → Bool) (hm : 0 ≤ m) : isoN a b m al = ((fullN b.n.length (fun ns n => al ns.length n && fitsP a b (colJ a b) ns n) a.n.length []).flatMap (imM a b)).take (m.toNat + 1) := by
 rw [isoN, nN_take _ _ _ _ _ hm _ _ _ (by simp), List.nil_append]
end
section
theorem gt_take' {l : List Int} {i k : Nat} (h : k < i) (hl : i ≤ l.length) : gt (l.take i) (k : Int) = gt l (k : Int) := by
 rw [gt_nat (by simp; omega), gt_nat (by omega), List.getElem_take]
theorem mem_fullN {N : Nat} {ok : List Int → Int → Bool} : ∀ {k : Nat} {ns l : List Int}, l ∈ fullN N ok k ns ↔ l.length = ns.length + k ∧ l.take ns.length = ns ∧ ∀ i : Nat, ns.length ≤ i → i < l.length → (0 ≤ gt l (i : Int) ∧ gt l (i : Int) < N) ∧ ok (l.take i) (gt l (i : Int)) = true
 | 0, ns, l => by
  simp only [fullN, List.mem_singleton, Nat.add_zero]
  constructor
  ·rintro rfl
   exact ⟨rfl, List.take_length, fun i h1 h2 => by omega⟩
  ·rintro ⟨h1, h2, _⟩
   rw [← h1, List.take_length] at h2
   exact h2
 | k + 1, ns, l => by
  simp only [fullN, List.mem_flatMap, List.mem_range]
  constructor
  ·rintro ⟨n, hn, h⟩
   split at h
   ·rename_i hok
    obtain ⟨h1, h2, h3⟩ := mem_fullN.1 h
    simp only [List.length_append, List.length_singleton] at h1 h2 h3
    have hg : gt l (ns.length : Int) = n ∧ l.take ns.length = ns := by
     have e := take_gt (l := l) (i := ns.length) (by omega)
     rw [h2] at e
     obtain ⟨e1, e2⟩ := List.append_inj' e rfl
     simp only [List.cons.injEq, and_true] at e2
     exact ⟨e2.symm, e1.symm⟩
    refine ⟨by omega, hg.2, fun i h4 h5 => ?_⟩
    rcases Nat.lt_or_ge ns.length i with h6 | h6
    ·exact h3 i (by omega) h5
    ·obtain rfl : i = ns.length := by omega
     rw [hg.1, hg.2]
     exact ⟨⟨by omega, by omega⟩, hok⟩
   ·cases h
  ·rintro ⟨h1, h2, h3⟩
   obtain ⟨⟨h4, h5⟩, h6⟩ := h3 ns.length (Nat.le_refl _) (by omega)
   rw [h2] at h6
   obtain ⟨n, hn⟩ := Int.eq_ofNat_of_zero_le h4
   rw [hn] at h5 h6
   refine ⟨n, by omega, ?_⟩
   rw [if_pos h6]
   refine mem_fullN.2 ⟨by simp; omega, ?_, fun i h7 h8 => h3 i (by simp at h7; omega) h8⟩
   rw [List.length_append, List.length_singleton, take_gt (by omega), h2, hn]
theorem fullN_filter {N : Nat} {ok : List Int → Int → Bool} : ∀ (k : Nat) (ns : List Int), fullN N ok k ns = (fullN N (fun _ _ => true) k ns).filter fun l => (List.range' ns.length k).all fun i => ok (l.take i) (gt l (i : Int))
 | 0, ns => by simp [fullN]
 | k + 1, ns => by
  simp only [fullN, if_true]
  rw [List.filter_flatMap]
  refine flatMap_congr' fun n _ => ?_
  have key : ∀ l ∈ fullN N (fun _ _ => true) k (ns ++ [(n : Int)]), ok (l.take ns.length) (gt l (ns.length : Int)) = ok ns n := fun l hl => by
   obtain ⟨h1, h2, _⟩ := mem_fullN.1 hl
   simp only [List.length_append, List.length_singleton] at h1 h2
   have e := take_gt (l := l) (i := ns.length) (by omega)
   rw [h2] at e
   obtain ⟨e1, e2⟩ := List.append_inj' e rfl
   simp only [List.cons.injEq, and_true] at e2
   rw [← e1, ← e2]
  by_cases h : ok ns n = true
  ·rw [if_pos h, fullN_filter k]
   refine List.filter_congr fun l hl => ?_
   rw [List.range'_succ, List.all_cons, key l hl, h, Bool.true_and, List.length_append, List.length_singleton]
  ·rw [if_neg h]
   symm
   rw [List.filter_eq_nil_iff]
   intro l hl
   rw [List.range'_succ, List.all_cons, key l hl]
   simp [h]
theorem fullN_eq {N : Nat} {ok1 ok2 : List Int → Int → Bool} {k : Nat} {ns : List Int} (h : ∀ l, l ∈ fullN N ok1 k ns ↔ l ∈ fullN N ok2 k ns) : fullN N ok1 k ns = fullN N ok2 k ns := by
 rw [fullN_filter (ok := ok1), fullN_filter (ok := ok2)] at *
 refine List.filter_congr fun l hl => ?_
 have := h l
 simp only [List.mem_filter, hl, true_and] at this
 exact Bool.eq_iff_iff.2 this
theorem not_mem_take {l : List Int} {i : Nat} (hi : i < l.length) : gt l (i : Int) ∉ l.take i ↔ ∀ k : Nat, k < i → gt l (k : Int) ≠ gt l (i : Int) := by
 constructor
 ·intro h k hk e
  apply h
  rw [← e, ← gt_take' hk (by omega)]
  exact gt_mem (by omega) (by simp; omega)
 ·intro h hm
  obtain ⟨k, hk, e⟩ := List.mem_iff_getElem.1 hm
  simp only [List.length_take] at hk
  refine h k (by omega) ?_
  rw [← gt_take' (i := i) (by omega) (by omega), gt_nat (by simp; omega)]
  exact e
theorem numL_zero {g : G} {t f o : Int} (h : ∀ x ∈ g.e, x.t ≠ t) : numL g t f o = 0 := by
 unfold numL
 rw [List.length_eq_zero_iff, List.filter_eq_nil_iff]
 intro x hx
 simp [numP, h x hx]
theorem knd_all {a b : G} {i k p q : Int} (h : ∀ j : Nat, j < a.e.length + b.e.length → numL a (kndL a b j) i k = numL b (kndL a b j) p q) (t : Int) : numL a t i k = numL b t p q := by
 by_cases h1 : ∃ x ∈ a.e, x.t = t
 ·obtain ⟨x, hx, rfl⟩ := h1
  obtain ⟨j, hj, rfl⟩ := List.mem_iff_getElem.1 hx
  have := h j (by omega)
  rw [kndL, if_pos hj, gt_nat hj] at this
  exact this
 ·by_cases h2 : ∃ x ∈ b.e, x.t = t
  ·obtain ⟨x, hx, rfl⟩ := h2
   obtain ⟨j, hj, rfl⟩ := List.mem_iff_getElem.1 hx
   have := h (a.e.length + j) (by omega)
   rw [kndL, if_neg (by omega), show a.e.length + j - a.e.length = j by omega, gt_nat hj] at this
   exact this
  ·rw [numL_zero (fun x hx e => h1 ⟨x, hx, e⟩), numL_zero (fun x hx e => h2 ⟨x, hx, e⟩)]
theorem mem_fullR {a b : G} {l : List Int} : l ∈ fullN b.n.length (fitsR a b) a.n.length [] ↔ NIso a b l := by
 rw [mem_fullN]
 simp only [List.length_nil, Nat.zero_add, List.take_zero, true_and, Nat.zero_le, forall_const]
 constructor
 ·rintro ⟨h1, h2⟩
  have h3 : ∀ i : Nat, i < a.n.length → gt a.n (i : Int) = gt b.n (gt l (i : Int)) ∧ (∀ k : Nat, k < i → gt l (k : Int) ≠ gt l (i : Int)) ∧ ∀ k : Nat, k ≤ i → ∀ t, numL a t k i = numL b t (gt l (k : Int)) (gt l (i : Int)) ∧ numL a t i k = numL b t (gt l (i : Int)) (gt l (k : Int)) := fun i hi => by
   have h := (h2 i (by omega)).2
   simp only [fitsR, Bool.and_eq_true, decide_eq_true_eq, Bool.not_eq_true', decide_eq_false_iff_not, List.all_eq_true, List.mem_range, List.length_take, show min i l.length = i by omega, pairR] at h
   obtain ⟨e1, e2, e3⟩ := h
   refine ⟨e1, (not_mem_take (by omega)).1 e2, fun k hk t => ?_⟩
   have e4 : gt (l.take i ++ [gt l (i : Int)]) (k : Int) = gt l (k : Int) := by
    rw [← take_gt (by omega)]
    exact gt_take' (by omega) (by omega)
   have e5 := e3 k (by omega)
   rw [e4] at e5
   exact ⟨knd_all (fun j hj => (e5 j hj).1) t, knd_all (fun j hj => (e5 j hj).2) t⟩
  refine ⟨h1, fun i hi => (h2 i (by omega)).1, fun i k hi hk e => ?_, fun i hi => (h3 i hi).1, fun t i k hi hk => ?_⟩
  ·rcases Nat.lt_trichotomy i k with h | h | h
   ·exact absurd e ((h3 k hk).2.1 i h)
   ·exact h
   ·exact absurd e.symm ((h3 i hi).2.1 k h)
  ·rcases Nat.le_total i k with h | h
   ·exact ((h3 k hk).2.2 i h t).1
   ·exact ((h3 i hi).2.2 k h t).2
 ·intro h
  refine ⟨h.len, fun i hi => ?_⟩
  have hl := h.len
  refine ⟨h.rng i (by omega), ?_⟩
  simp only [fitsR, Bool.and_eq_true, decide_eq_true_eq, Bool.not_eq_true', decide_eq_false_iff_not, List.all_eq_true, List.mem_range, List.length_take, show min i l.length = i by omega, pairR]
  refine ⟨h.ty i (by omega), (not_mem_take hi).2 fun k hk e => ?_, fun k hk j _ => ?_⟩
  ·have := h.inj k i (by omega) (by omega) e
   omega
  ·have e4 : gt (l.take i ++ [gt l (i : Int)]) (k : Int) = gt l (k : Int) := by
    rw [← take_gt (by omega)]
    exact gt_take' (by omega) (by omega)
   rw [e4]
   exact ⟨h.num _ k i (by omega) (by omega), h.num _ i k (by omega) (by omega)⟩
theorem betL_cnt (g : G) (f o t : Int) : (betL g f o).count t = numL g t f o := by
 rw [betL, (srt_perm _).count_eq, List.count_eq_countP, List.countP_map, List.countP_filter, numL, ← List.countP_eq_length_filter]
 refine List.countP_congr fun x _ => ?_
 simp only [Function.comp_apply, Bool.and_eq_true, decide_eq_true_eq, beq_iff_eq, numP]
theorem betL_iff {a b : G} {i k p q : Int} : betL a i k = betL b p q ↔ ∀ t, numL a t i k = numL b t p q := by
 constructor
 ·intro h t
  rw [← betL_cnt, ← betL_cnt, h]
 ·intro h
  refine asc_one (srt_sorted _) (srt_sorted _) (List.perm_iff_count.2 fun t => ?_)
  have := h t
  rw [← betL_cnt, ← betL_cnt] at this
  exact this
theorem mem_fullP {a b : G} {c l : List Int} {al : Int → Int → Bool} : l ∈ fullN b.n.length (fun ns n => al ns.length n && fitsP a b c ns n) a.n.length [] ↔
  l.length = a.n.length ∧ (∀ i : Nat, i < a.n.length → 0 ≤ gt l (i : Int) ∧ gt l (i : Int) < b.n.length) ∧ (∀ i k : Nat, i < a.n.length → k < a.n.length → gt l (i : Int) = gt l (k : Int) → i = k) ∧
   (∀ i : Nat, i < a.n.length → gt c (i : Int) = gt c ((a.n.length : Int) + gt l (i : Int))) ∧ (∀ (t : Int) (i k : Nat), i < a.n.length → k < a.n.length → numL a t i k = numL b t (gt l (i : Int)) (gt l (k : Int))) ∧ ∀ i : Nat, i < a.n.length → al i (gt l (i : Int)) = true := by
 rw [mem_fullN]
 simp only [List.length_nil, Nat.zero_add, List.take_zero, true_and, Nat.zero_le, forall_const]
 constructor
 ·rintro ⟨h1, h2⟩
  have h3 : ∀ i : Nat, i < a.n.length → al i (gt l (i : Int)) = true ∧ gt c (i : Int) = gt c ((a.n.length : Int) + gt l (i : Int)) ∧ (∀ k : Nat, k < i → gt l (k : Int) ≠ gt l (i : Int)) ∧ ∀ k : Nat, k ≤ i → ∀ t, numL a t k i = numL b t (gt l (k : Int)) (gt l (i : Int)) ∧ numL a t i k = numL b t (gt l (i : Int)) (gt l (k : Int)) := fun i hi => by
   have h := (h2 i (by omega)).2
   simp only [fitsP, Bool.and_eq_true, decide_eq_true_eq, Bool.not_eq_true', decide_eq_false_iff_not, List.all_eq_true, List.mem_range, List.length_take, show min i l.length = i by omega, pairO, betL_iff] at h
   obtain ⟨e0, e1, e2, e3, e4⟩ := h
   refine ⟨e0, e2, (not_mem_take (by omega)).1 e1, fun k hk t => ?_⟩
   rcases Nat.lt_or_ge k i with h | h
   ·have e5 := e4 k h
    rw [gt_take' h (by omega)] at e5
    exact ⟨e5.2 t, e5.1 t⟩
   ·obtain rfl : k = i := by omega
    exact ⟨e3 t, e3 t⟩
  refine ⟨h1, fun i hi => (h2 i (by omega)).1, fun i k hi hk e => ?_, fun i hi => (h3 i hi).2.1, fun t i k hi hk => ?_, fun i hi => (h3 i hi).1⟩
  ·rcases Nat.lt_trichotomy i k with h | h | h
   ·exact absurd e ((h3 k hk).2.2.1 i h)
   ·exact h
   ·exact absurd e.symm ((h3 i hi).2.2.1 k h)
  ·rcases Nat.le_total i k with h | h
   ·exact ((h3 k hk).2.2.2 i h t).1
   ·exact ((h3 i hi).2.2.2 k h t).2
 ·rintro ⟨hl, h1, h2, h3, h4, h5⟩
  refine ⟨hl, fun i hi => ⟨h1 i (by omega), ?_⟩⟩
  simp only [fitsP, Bool.and_eq_true, decide_eq_true_eq, Bool.not_eq_true', decide_eq_false_iff_not, List.all_eq_true, List.mem_range, List.length_take, show min i l.length = i by omega, pairO, betL_iff]
  refine ⟨h5 i (by omega), (not_mem_take hi).2 fun k hk e => ?_, h3 i (by omega), fun t => h4 t i i (by omega) (by omega), fun k hk => ?_⟩
  ·have := h2 k i (by omega) (by omega) e
   omega
  ·rw [gt_take' hk (by omega)]
   exact ⟨fun t => h4 t i k (by omega) (by omega), fun t => h4 t k i (by omega) (by omega)⟩
end
section
theorem wnt_iff {a b : G} {ns es : List Int} {n : Nat} : wnt a b ns es n = true ↔ gt b.e (n : Int) = mapE ns (gt a.e (es.length : Int)) ∧ (n : Int) ∉ es := by
 simp only [wnt, Bool.and_eq_true, decide_eq_true_eq, Bool.not_eq_true', decide_eq_false_iff_not]
 obtain ⟨xt, xf, xo⟩ := gt a.e (es.length : Int)
 obtain ⟨yt, yf, yo⟩ := gt b.e (n : Int)
 simp only [mapE, E.mk.injEq]
theorem ext_edge {a b : G} {ns es : List Int} (hp : (a.e.map (mapE ns)).Perm b.e) (hk : es.length < a.e.length) (hd : es.Nodup) (hr : ∀ x ∈ es, 0 ≤ x ∧ x < b.e.length)
  (hw : ∀ i : Nat, i < es.length → gt b.e (gt es (i : Int)) = mapE ns (gt a.e (i : Int))) : ∃ n : Nat, n < b.e.length ∧ wnt a b ns es n = true := by
 refine Classical.byContradiction fun hno => ?_
 obtain ⟨w, hwd⟩ : ∃ w, w = mapE ns (gt a.e (es.length : Int)) := ⟨_, rfl⟩
 let I : List Int := ((List.range b.e.length).filter fun n : Nat => gt b.e (n : Int) == w).map fun n : Nat => (n : Int)
 have hI : I.Nodup := by
  rw [List.nodup_iff_pairwise_ne, List.pairwise_map]
  have := (List.nodup_range (n := b.e.length)).filter fun n : Nat => gt b.e (n : Int) == w
  exact this.imp fun h e => h (by omega)
 have hIl : I.length = b.e.count w := by
  have e : (List.range b.e.length).map (fun n : Nat => gt b.e (n : Int)) = b.e := by
   refine List.ext_getElem (by simp) fun i h1 h2 => ?_
   simp only [List.getElem_map, List.getElem_range]
   exact gt_nat h2
  conv => rhs; rw [← e]
  rw [List.length_map, List.count_eq_countP, List.countP_map, List.countP_eq_length_filter]
  rfl
 have hsub : I ⊆ es.filter fun x => gt b.e x == w := fun x hx => by
  obtain ⟨n, hn, rfl⟩ := List.mem_map.1 hx
  obtain ⟨h1, h2⟩ := List.mem_filter.1 hn
  have h1 := List.mem_range.1 h1
  refine List.mem_filter.2 ⟨?_, h2⟩
  refine Classical.byContradiction fun hm => hno ⟨n, h1, wnt_iff.2 ⟨?_, hm⟩⟩
  rw [← hwd]
  exact beq_iff_eq.1 h2
 have hle := List.Nodup.length_le_of_subset hI hsub
 have hes : (es.filter fun x => gt b.e x == w).length = ((a.e.take es.length).map (mapE ns)).count w := by
  have e : es.map (fun x => gt b.e x) = (a.e.take es.length).map (mapE ns) := by
   refine List.ext_getElem (by simp; omega) fun i h1 h2 => ?_
   simp only [List.length_map] at h1
   simp only [List.getElem_map, List.getElem_take]
   have := hw i h1
   rw [gt_nat h1, gt_nat (by omega)] at this
   exact this
  rw [← e, List.count_eq_countP, List.countP_map, List.countP_eq_length_filter]
  rfl
 have hc := hp.count_eq w
 have hsp : a.e.map (mapE ns) = (a.e.take es.length).map (mapE ns) ++ (w :: (a.e.drop (es.length + 1)).map (mapE ns)) := by
  have := (List.take_append_drop es.length a.e).symm
  rw [drop_gt hk] at this
  conv => lhs; rw [this]
  rw [List.map_append, List.map_cons, hwd]
 rw [hsp, List.count_append, List.count_cons_self] at hc
 omega
theorem fullE_ne {a b : G} {ns : List Int} (hp : (a.e.map (mapE ns)).Perm b.e) : ∀ (k : Nat) (es : List Int), es.length + k = a.e.length → es.Nodup → (∀ x ∈ es, 0 ≤ x ∧ x < b.e.length) →
  (∀ i : Nat, i < es.length → gt b.e (gt es (i : Int)) = mapE ns (gt a.e (i : Int))) → fullN b.e.length (fun es n => wnt a b ns es n.toNat) k es ≠ []
 | 0, es, _, _, _, _ => by simp [fullN]
 | k + 1, es, h, hd, hr, hw => by
  obtain ⟨n, hn, hwn⟩ := ext_edge hp (by omega) hd hr hw
  obtain ⟨h1, h2⟩ := wnt_iff.1 hwn
  have := fullE_ne hp k (es ++ [(n : Int)]) (by simp; omega) (by
   rw [List.nodup_append]
   refine ⟨hd, by simp, fun x hx y hy e => ?_⟩
   simp only [List.mem_singleton] at hy
   subst e hy
   exact h2 hx) (fun x hx => by
   rcases List.mem_append.1 hx with hx | hx
   ·exact hr x hx
   ·simp only [List.mem_singleton] at hx; omega) (fun i hi => by
   rw [List.length_append, List.length_singleton] at hi
   rcases Nat.lt_or_ge i es.length with h3 | h3
   ·rw [gt_app_l (x := es) (by omega) (by omega)]
    exact hw i h3
   ·obtain rfl : i = es.length := by omega
    have : gt (es ++ [(n : Int)]) (es.length : Int) = n := by rw [gt_nat (by simp)]; simp
    rw [this, h1])
  obtain ⟨x, hx⟩ := List.exists_mem_of_ne_nil _ this
  refine List.ne_nil_of_mem (a := x) ?_
  rw [fullN, List.mem_flatMap]
  refine ⟨n, List.mem_range.2 hn, ?_⟩
  rw [if_pos (by simpa using hwn)]
  exact hx
theorem NIso.imE_ne {a b : G} {l : List Int} (h : NIso a b l) (va : InG a) (vb : InG b) (hn : a.n.length = b.n.length) : imE a b l ≠ [] :=
 fullE_ne (h.edges va vb hn) _ _ (by simp) List.nodup_nil (by simp) (fun i hi => by simp at hi)
end
section
theorem colL_sig {s : List (List Int)} {i j : Nat} (hi : i < s.length) (hj : j < s.length) (h : gt (colL s) (i : Int) = gt (colL s) (j : Int)) : gt s (i : Int) = gt s (j : Int) := by
 rw [colL_gt hi, colL_gt hj] at h
 exact below_inj (dstL_mem.2 (gt_mem (by omega) (by omega))) (dstL_mem.2 (gt_mem (by omega) (by omega))) (by omega)
theorem stb_sig {g : G} : ∀ (k : Nat) {s : List (List Int)} {i j : Nat}, s.length = g.n.length → i < g.n.length → j < g.n.length → gt (stb g k s) (i : Int) = gt (stb g k s) (j : Int) → gt s (i : Int) = gt s (j : Int)
 | 0, s, i, j, hs, hi, hj, h => colL_sig (by omega) (by omega) h
 | k + 1, s, i, j, hs, hi, hj, h => by
  rw [stb] at h
  split at h
  ·exact colL_sig (by omega) (by omega) h
  ·have := stb_sig k (nextL_length g _) hi hj h
   rw [nextL_gt hi, nextL_gt hj] at this
   simp only [sgnO, List.cons.injEq] at this
   exact colL_sig (by omega) (by omega) this.1
theorem stabL_ty {g : G} {i j : Nat} (hi : i < g.n.length) (hj : j < g.n.length) (h : gt (stabL g) (i : Int) = gt (stabL g) (j : Int)) : gt g.n (i : Int) = gt g.n (j : Int) := by
 have := stb_sig _ (frstL_length g) hi hj h
 rw [gt_nat (by rw [frstL_length]; omega), gt_nat (by rw [frstL_length]; omega)] at this
 simp only [frstL, List.getElem_map, List.cons.injEq, and_true] at this
 rw [gt_nat hi, gt_nat hj, this]
theorem colL_app (x y : List (List Int)) : colL (x ++ y) = colA x (dstL (x ++ y)) ++ colA y (dstL (x ++ y)) := by simp [colL, colA]
theorem colA_gt {x S : List (List Int)} {i : Int} (h0 : 0 ≤ i) (h : i < x.length) : gt (colA x S) i = (below S (gt x i) : Int) := by
 rw [colA, gt_map_c h0 h]
theorem stb_join {a b : G} {l : List Int} (hl : NIso a b l) (va : InG a) (vb : InG b) (hn : a.n.length = b.n.length) : ∀ (k : Nat) {x y : List (List Int)}, Car a l x y → x.length = a.n.length → y.length = b.n.length → ∀ i : Nat, i < a.n.length →
  gt (stb (join2 a b) k (x ++ y)) (i : Int) = gt (stb (join2 a b) k (x ++ y)) (a.n.length + gt l (i : Int))
 | k, x, y, h, hx, hy, i, hi => by
  have base : gt (colL (x ++ y)) (i : Int) = gt (colL (x ++ y)) (a.n.length + gt l (i : Int)) := by
   have hr := hl.rng i hi
   rw [colL_app, gt_app_l (by omega) (by rw [colA_length]; omega), colA_gt (by omega) (by omega)]
   have e : (a.n.length : Int) + gt l (i : Int) = gt l (i : Int) + (colA x (dstL (x ++ y))).length := by rw [colA_length]; omega
   rw [e, gt_app_r hr.1 (by rw [colA_length]; omega), colA_gt hr.1 (by omega), h i hi]
  cases k with
  | zero => exact base
  | succ k =>
   rw [stb]
   split
   ·exact base
   ·rw [colL_app, nextL_join va vb (by rw [colA_length, hx]) (by rw [colA_length, hy])]
    exact stb_join hl va vb hn k (h.next hl va vb hn hx hy _) (nextL_length _ _) (nextL_length _ _) i hi
theorem NIso.col {a b : G} {l : List Int} (h : NIso a b l) (va : InG a) (vb : InG b) (hn : a.n.length = b.n.length) {i : Nat} (hi : i < a.n.length) : gt (colJ a b) (i : Int) = gt (colJ a b) (a.n.length + gt l (i : Int)) := by
 rw [colJ, stabL, joinG_two]
 have e : frstL (join2 a b) = frstL a ++ frstL b := by simp [frstL, join2]
 rw [e]
 exact stb_join h va vb hn _ (Car.first h) (frstL_length a) (frstL_length b) i hi
theorem mem_fullP' {a b : G} {l : List Int} {al : Int → Int → Bool} (va : InG a) (vb : InG b) (hn : a.n.length = b.n.length) : l ∈ fullN b.n.length (fun ns n => al ns.length n && fitsP a b (colJ a b) ns n) a.n.length [] ↔
  NIso a b l ∧ ∀ i : Nat, i < a.n.length → al i (gt l (i : Int)) = true := by
 rw [mem_fullP]
 constructor
 ·rintro ⟨h1, h2, h3, h4, h5, h6⟩
  refine ⟨⟨h1, h2, h3, fun i hi => ?_, h5⟩, h6⟩
  have h := h4 i hi
  have hr := h2 i hi
  obtain ⟨j, hj⟩ := Int.eq_ofNat_of_zero_le hr.1
  rw [hj] at h hr ⊢
  have hJ : (joinG [a, b]).n = a.n ++ b.n := by rw [joinG_two]; rfl
  have h7 := stabL_ty (g := joinG [a, b]) (i := i) (j := a.n.length + j) (by rw [hJ]; simp; omega) (by rw [hJ]; simp; omega) (by
   rw [show ((a.n.length + j : Nat) : Int) = a.n.length + j by omega]; exact h)
  rw [hJ, gt_app_l (by omega) (by omega), show ((a.n.length + j : Nat) : Int) = (j : Int) + a.n.length by omega, gt_app_r (by omega) (by omega)] at h7
  exact h7
 ·rintro ⟨h, h6⟩
  exact ⟨h.len, h.rng, h.inj, fun i hi => h.col va vb hn hi, h.num, h6⟩
def isos (a b : G) : List Mo := (fullN b.n.length (fitsR a b) a.n.length []).flatMap (imM a b)
theorem fullP_R {a b : G} (va : InG a) (vb : InG b) (hn : a.n.length = b.n.length) : fullN b.n.length (fun ns n => (fun _ _ => true : Int → Int → Bool) ns.length n && fitsP a b (colJ a b) ns n) a.n.length [] = fullN b.n.length (fitsR a b) a.n.length [] :=
 fullN_eq fun l => by rw [mem_fullP' (al := fun _ _ => true) va vb hn, mem_fullR]; simp
theorem isoN_isos {a b : G} (va : InG a) (vb : InG b) (hn : a.n.length = b.n.length) {m : Int} (hm : 0 ≤ m) : isoN a b m (fun _ _ => true) = (isos a b).take (m.toNat + 1) := by
 rw [isoN_take _ _ _ hm, fullP_R va vb hn, isos]
theorem allR_isos {a b : G} (va : InG a) (vb : InG b) (hs : shpB a b = true) {most : Int} (h1 : 1 ≤ most) : allR a b most = (isos a b).take most.toNat := by
 have hn : a.n.length = b.n.length := by
  simp only [shpB, Bool.and_eq_true, decide_eq_true_eq] at hs; exact hs.1
 exact allR_take h1 hs fun ns hns => (mem_fullR.1 hns).imE_ne va vb hn
theorem all_same (a b : G) : allP a b = allF a b := by
 unfold allP allF
 split
 ·rename_i h
  obtain ⟨va, vb⟩ := bothE_spec h
  cases hs : shpB a b with
  | false =>
   rw [if_neg (by simp), show allR a b 2001 = [] by rw [allR, if_neg (by simp [hs])], if_neg (by simp)]
  | true =>
   have hn : a.n.length = b.n.length := by
    simp only [shpB, Bool.and_eq_true, decide_eq_true_eq] at hs; exact hs.1
   rw [if_pos rfl, isoN_isos (InG.of_valid va) (InG.of_valid vb) hn (by omega), allR_isos (InG.of_valid va) (InG.of_valid vb) hs (by omega)]
   rfl
 ·rfl
end
section
variable {P : Program} {F : String → Nat} {α : Type}
theorem bij_len {l : List Int} {n : Nat} (hd : distinct l = true) (hc : covers l n = true) (hb : ∀ x ∈ l, 0 ≤ x ∧ x < n) : l.length = n := by
 have h1 := imgs_inj.2 (show l.Nodup by simpa [distinct] using hd)
 have h2 := sur_imgs hb
 rw [hc, decide_eq_true_eq] at h2
 omega
theorem bijM {a b : G} {m : Mo} (h1 : injM a b m = true) (h2 : surM a b m = true) : (m.n.Nodup ∧ m.e.Nodup) ∧ m.n.length = b.n.length ∧ m.e.length = b.e.length ∧ (∀ x ∈ m.n, 0 ≤ x ∧ x < m.n.length) ∧ (∀ x ∈ m.e, 0 ≤ x ∧ x < m.e.length) := by
 unfold injM at h1
 unfold surM at h2
 simp only [Bool.and_eq_true, decide_eq_true_eq] at h1 h2
 obtain ⟨hv, h3, h4⟩ := h1
 obtain ⟨_, h5, h6⟩ := h2
 obtain ⟨b1, b2⟩ := validM_bd hv
 have e1 := bij_len h3 h5 b1
 have e2 := bij_len h4 h6 b2
 rw [← e1] at b1
 rw [← e2] at b2
 exact ⟨⟨by simpa [distinct] using h3, by simpa [distinct] using h4⟩, e1, e2, b1, b2⟩
theorem w_morphism_Inverse (hv : K_morphism_Valid P F) (hi : K_morphism_Injective P F) (hj : K_morphism_Surjective P F) (hb : K_morphism_back P F) (a b : G) (m : Mo) :
  W P (c_morphism_Inverse F) (Done [.c 6 true 2, .t 7] [] (.tup [mA (invM a b m).1, .int .i64 (invM a b m).2]) []) (init [gD a, gD b, mD m]) := by
 refine W_of ?_
 have r1 := hv a b m
 have r2 := hi a b m
 have r3 := hj a b m
 have hl := @validM_len a b m
 have hbj := @bijM a b m
 have hE : invM a b m = if validM a b m ≠ 0 then (m0, validM a b m) else if injM a b m = true ∧ surM a b m = true then (⟨backL m.n m.n.length, backL m.e m.e.length⟩, 0) else (m0, 10) := rfl
 generalize invM a b m = q at *
 generalize validM a b m = v at *
 generalize injM a b m = b1 at *
 generalize surM a b m = b2 at *
 by_cases c : v = 0
 ·subst c
  rw [if_neg (by simp)] at hE
  obtain ⟨l1, l2, _⟩ := hl rfl
  cases b1
  ·rw [if_neg (by simp)] at hE
   subst hE
   simp only [gD, mD] at *
   simp (disch := omega) only [go_sem, ↓reduceIte]
   refine call_by r1 ?_
   simp (disch := omega) only [go_sem, ↓reduceIte]
   refine call_by r2 ?_
   simp (disch := omega) only [go_sem, ↓reduceIte]
   simp [m0, mA, ints]
  ·cases b2
   ·rw [if_neg (by simp)] at hE
    subst hE
    simp only [gD, mD] at *
    simp (disch := omega) only [go_sem, ↓reduceIte]
    refine call_by r1 ?_
    simp (disch := omega) only [go_sem, ↓reduceIte]
    refine call_by r2 ?_
    simp (disch := omega) only [go_sem, ↓reduceIte]
    refine call_by r3 ?_
    simp (disch := omega) only [go_sem, ↓reduceIte]
    simp [m0, mA, ints]
   ·rw [if_pos (by simp)] at hE
    subst hE
    obtain ⟨⟨n1, n2⟩, _, _, n3, n4⟩ := hbj rfl rfl
    have t1 := hb m.n (by omega) n1 n3
    have t2 := hb m.e (by omega) n2 n4
    generalize backL m.n m.n.length = bn at *
    generalize backL m.e m.e.length = be at *
    simp only [gD, mD] at *
    simp (disch := omega) only [go_sem, ↓reduceIte]
    refine call_by r1 ?_
    simp (disch := omega) only [go_sem, ↓reduceIte]
    refine call_by r2 ?_
    simp (disch := omega) only [go_sem, ↓reduceIte]
    refine call_by r3 ?_
    simp (disch := omega) only [go_sem, ↓reduceIte]
    refine call_by t1 ?_
    simp (disch := omega) only [go_sem, ↓reduceIte]
    refine call_by t2 ?_
    simp (disch := omega) only [go_sem, ↓reduceIte]
    simp [mA]
 ·rw [if_pos c] at hE
  subst hE
  simp only [gD, mD] at *
  simp (disch := omega) only [go_sem, ↓reduceIte]
  refine call_by r1 ?_
  simp (disch := omega) only [go_sem, ↓reduceIte, c]
  simp [m0, mA, ints]
end
section
theorem backL_own {l : List Int} (hn : l.Nodup) (hb : ∀ x ∈ l, 0 ≤ x ∧ x < l.length) {j : Nat} (hj : j < l.length) : gt (backL l l.length) (gt l j) = j := by
 obtain ⟨k, hk, hk2⟩ := gtI (hb _ (gt_mem (l := l) (j := j) (by omega) (by omega)))
 rw [hk2, backL_gt hk, ← hk2, lastI_own hn _ (Nat.le_refl _) j hj]
theorem inv_ok {a b : G} {m : Mo} (hm : MOk a b m) (h1 : injM a b m = true) (h2 : surM a b m = true) : MOk b a ⟨backL m.n m.n.length, backL m.e m.e.length⟩ ∧
  thenM m ⟨backL m.n m.n.length, backL m.e m.e.length⟩ = idM a ∧ thenM ⟨backL m.n m.n.length, backL m.e m.e.length⟩ m = idM b := by
 obtain ⟨⟨n1, n2⟩, e1, e2, b1, b2⟩ := bijM h1 h2
 have ln := hm.ln
 have le := hm.le
 have hN : ∀ k : Nat, k < b.n.length → ∃ j : Nat, j < m.n.length ∧ gt m.n j = k := fun k hk => perm_has n1 b1 k (by omega)
 have hEe : ∀ k : Nat, k < b.e.length → ∃ j : Nat, j < m.e.length ∧ gt m.e j = k := fun k hk => perm_has n2 b2 k (by omega)
 have bn : ∀ j : Nat, j < m.n.length → gt (backL m.n m.n.length) (gt m.n j) = j := fun j hj => backL_own n1 b1 hj
 have be : ∀ j : Nat, j < m.e.length → gt (backL m.e m.e.length) (gt m.e j) = j := fun j hj => backL_own n2 b2 hj
 refine ⟨⟨hm.vb, hm.va, by simp only [backL_len]; omega, by simp only [backL_len]; omega, fun k hk => ?_, fun k hk => ?_⟩, ?_, ?_⟩
 ·obtain ⟨j, hj, hj2⟩ := hN k hk
  simp only
  rw [← hj2, bn j hj]
  exact ⟨by omega, ((hm.nd j (by omega)).2).symm⟩
 ·obtain ⟨j, hj, hj2⟩ := hEe k hk
  obtain ⟨_, t1, t2, t3⟩ := hm.ed j (by omega)
  obtain ⟨_, f1, f2⟩ := edge_fits hm.va (i := j) (by omega)
  obtain ⟨p, hp, hp2⟩ := gtI f1
  obtain ⟨q, hq, hq2⟩ := gtI f2
  simp only
  rw [← hj2, be j hj]
  refine ⟨by omega, t1.symm, ?_, ?_⟩
  ·rw [← t2, hp2, bn p (by omega)]
  ·rw [← t3, hq2, bn q (by omega)]
 ·have key : ∀ l : List Int, (∀ j : Nat, j < l.length → gt (backL l l.length) (gt l j) = j) → thr l (backL l l.length) = nums 0 l.length := fun l hl =>
   list_ext_gt (by rw [thr_len, nums_len]) fun i hi => by
    rw [thr_len] at hi
    rw [thr_gt hi, hl i hi, nums_gt hi]
  have k1 := key _ bn
  have k2 := key _ be
  simp only [thenM, idM]
  rw [k1, k2, ln, le]
 ·have key : ∀ l : List Int, l.Nodup → (∀ x ∈ l, 0 ≤ x ∧ x < l.length) → thr (backL l l.length) l = nums 0 l.length := fun l h1 h2 =>
   list_ext_gt (by rw [thr_len, backL_len, nums_len]) fun i hi => by
    rw [thr_len, backL_len] at hi
    rw [thr_gt (by rw [backL_len]; exact hi), nums_gt hi]
    obtain ⟨j, hj, hj2⟩ := perm_has h1 h2 i hi
    rw [← hj2, backL_own h1 h2 hj]
  have k1 := key _ n1 b1
  have k2 := key _ n2 b2
  simp only [thenM, idM]
  rw [k1, k2, e1, e2]
end
section
theorem mem_imE {a b : G} {ns es : List Int} : es ∈ imE a b ns ↔ es.length = a.e.length ∧ (∀ i : Nat, i < a.e.length → 0 ≤ gt es (i : Int) ∧ gt es (i : Int) < b.e.length) ∧ (∀ i k : Nat, i < a.e.length → k < a.e.length → gt es (i : Int) = gt es (k : Int) → i = k) ∧
  ∀ i : Nat, i < a.e.length → gt b.e (gt es (i : Int)) = mapE ns (gt a.e (i : Int)) := by
 rw [imE, mem_fullN]
 simp only [List.length_nil, Nat.zero_add, List.take_zero, true_and, Nat.zero_le, forall_const]
 constructor
 ·rintro ⟨h1, h2⟩
  have h3 : ∀ i : Nat, i < a.e.length → gt b.e (gt es (i : Int)) = mapE ns (gt a.e (i : Int)) ∧ ∀ k : Nat, k < i → gt es (k : Int) ≠ gt es (i : Int) := fun i hi => by
   obtain ⟨⟨h4, h5⟩, h6⟩ := h2 i (by omega)
   have e : ((gt es (i : Int)).toNat : Int) = gt es (i : Int) := Int.toNat_of_nonneg h4
   rw [wnt_iff, e, List.length_take, show min i es.length = i by omega] at h6
   exact ⟨h6.1, (not_mem_take (by omega)).1 h6.2⟩
  refine ⟨h1, fun i hi => (h2 i (by omega)).1, fun i k hi hk e => ?_, fun i hi => (h3 i hi).1⟩
  rcases Nat.lt_trichotomy i k with h | h | h
  ·exact absurd e ((h3 k hk).2 i h)
  ·exact h
  ·exact absurd e.symm ((h3 i hi).2 k h)
 ·rintro ⟨h1, h2, h3, h4⟩
  refine ⟨h1, fun i hi => ⟨h2 i (by omega), ?_⟩⟩
  have h5 := h2 i (by omega)
  have e : ((gt es (i : Int)).toNat : Int) = gt es (i : Int) := Int.toNat_of_nonneg h5.1
  rw [wnt_iff, e, List.length_take, show min i es.length = i by omega]
  refine ⟨h4 i (by omega), (not_mem_take hi).2 fun k hk e => ?_⟩
  have := h3 k i (by omega) (by omega) e
  omega
theorem mem_isos {a b : G} {m : Mo} : m ∈ isos a b ↔ NIso a b m.n ∧ m.e ∈ imE a b m.n := by
 simp only [isos, List.mem_flatMap, mem_fullR, imM, List.mem_map]
 constructor
 ·rintro ⟨ns, h1, es, h2, rfl⟩
  exact ⟨h1, h2⟩
 ·rintro ⟨h1, h2⟩
  exact ⟨m.n, h1, m.e, h2, rfl⟩
theorem cov_full {l : List Int} {n : Nat} (h1 : l.length = n) (h2 : ∀ i : Nat, i < n → 0 ≤ gt l (i : Int) ∧ gt l (i : Int) < n) (h3 : ∀ i k : Nat, i < n → k < n → gt l (i : Int) = gt l (k : Int) → i = k) : l.Nodup ∧ covers l n = true := by
 have hnd : l.Nodup := by
  rw [List.nodup_iff_pairwise_ne, List.pairwise_iff_getElem]
  intro i j hi hj hij e
  have := h3 i j (by omega) (by omega) (by rw [gt_nat hi, gt_nat hj]; exact e)
  omega
 refine ⟨hnd, ?_⟩
 have hp := perm_sub (A := l) (B := (List.range n).map fun i : Nat => (i : Int)) hnd (fun x hx => by
  obtain ⟨i, hi, rfl⟩ := List.mem_iff_getElem.1 hx
  have := h2 i (by omega)
  rw [gt_nat hi] at this
  obtain ⟨k, hk⟩ := Int.eq_ofNat_of_zero_le this.1
  exact List.mem_map.2 ⟨k, List.mem_range.2 (by omega), hk.symm⟩) (by simp; omega)
 rw [covers, List.all_eq_true]
 intro k hk
 refine decide_eq_true (hp.mem_iff.2 (List.mem_map.2 ⟨k, hk, rfl⟩))
theorem isos_ok {a b : G} {m : Mo} (va : validG a = 0) (vb : validG b = 0) (hs : shpB a b = true) (h : m ∈ isos a b) : MOk a b m ∧ injM a b m = true ∧ surM a b m = true := by
 obtain ⟨h1, h2⟩ := mem_isos.1 h
 obtain ⟨e1, e2, e3, e4⟩ := mem_imE.1 h2
 simp only [shpB, Bool.and_eq_true, decide_eq_true_eq] at hs
 have hm : MOk a b m := ⟨va, vb, h1.len, e1, fun i hi => ⟨h1.rng i hi, (h1.ty i hi).symm⟩, fun i hi => ⟨e2 i hi, by
  rw [e4 i hi]
  exact ⟨rfl, rfl, rfl⟩⟩⟩
 have hv := mok.2 hm
 have k1 := cov_full (l := m.n) (n := b.n.length) (by rw [h1.len]; exact hs.1) (fun i hi => h1.rng i (by omega)) fun i k hi hk => h1.inj i k (by omega) (by omega)
 have k2 := cov_full (l := m.e) (n := b.e.length) (by rw [e1]; exact hs.2) (fun i hi => e2 i (by omega)) fun i k hi hk => e3 i k (by omega) (by omega)
 refine ⟨hm, ?_, ?_⟩
 ·rw [injM, decide_eq_true hv, distinct, distinct, decide_eq_true k1.1, decide_eq_true k2.1]
  rfl
 ·rw [surM, decide_eq_true hv, k1.2, k2.2]
  rfl
theorem all_inv {a b : G} {m : Mo} (h : m ∈ (allP a b).1) : (invM a b m).2 = 0 ∧ validM b a (invM a b m).1 = 0 ∧ m.n.length ≤ 40 ∧ m.e.length ≤ 80 := by
 unfold allP at h
 split at h
 ·rename_i hb
  obtain ⟨va, vb⟩ := bothE_spec hb
  split at h
  ·rename_i hs
   have hn : a.n.length = b.n.length := by
    simp only [shpB, Bool.and_eq_true, decide_eq_true_eq] at hs; exact hs.1
   have hm : m ∈ isos a b := by
    split at h
    ·cases h
    ·rw [isoN_isos (InG.of_valid va) (InG.of_valid vb) hn (by omega)] at h
     exact List.mem_of_mem_take h
   obtain ⟨k1, k2, k3⟩ := isos_ok va vb hs hm
   have hi := inv_ok k1 k2 k3
   have e : invM a b m = (⟨backL m.n m.n.length, backL m.e m.e.length⟩, 0) := by
    rw [invM, if_neg (by rw [mok.2 k1]; simp), if_pos ⟨k2, k3⟩]
   rw [e]
   obtain ⟨v1, v2, _⟩ := valid_spec va
   refine ⟨rfl, mok.2 hi.1, ?_, ?_⟩
   ·have := k1.ln; omega
   ·have := k1.le; omega
  ·cases h
 ·cases h
end
@[go_sem] def c_r06_SameAll_r0 : LL := [qb 4 false]
@[go_sem] def c_r06_SameAll_r1 : LL := [qm 6 0,qz 7 6,qm 8 1,qz 9 8,qo .neq 10 7 9]
@[go_sem] def c_r06_SameAll_r2 : LL := [qb 4 false]
@[go_sem] def c_r06_SameAll_r3 : LL := [qi 5 0]
@[go_sem] def c_r06_SameAll_r4 : LL := [qm 11 5,qm 12 0,qz 13 12,qo .lss 14 11 13]
@[go_sem] def c_r06_SameAll_r5 (F : Fn) : LL := [qm 17 0,qm 18 5,qd 19 2 17 18,qL 20 2 19,qm 21 1,qm 22 5,qd 23 2 21 22,qL 24 2 23,qc 25 (F "r06.Same") [.t 20,.t 24],qv 26 25]
@[go_sem] def c_r06_SameAll_r6 : LL := [qb 4 false]
@[go_sem] def c_r06_SameAll_r7 : LL := [qm 15 5,qk .add 16 15 1,qm 5 16]
def c_r06_SameAll_b8 (F : Fn) : LC := (.seq (.seq (.reg c_r06_SameAll_r4 [0,1,5,14]) (.cond (.t 14) .skip (.exit 0))) (.seq (.block 1 (.seq (.dreg [] (c_r06_SameAll_r5 F) [0,1,5,26]) (.cond (.t 26) (.seq (.reg c_r06_SameAll_r6 [4]) .ret) .skip))) (.reg c_r06_SameAll_r7 [0,1,5])))
@[go_sem] def c_r06_SameAll_r9 : LL := [qb 4 true]
@[go_sem] def c_r06_SameAll (F : Fn) : LC := (.seq (.reg c_r06_SameAll_r0 [0,1]) (.seq (.seq (.reg c_r06_SameAll_r1 [0,1,10]) (.cond (.t 10) (.seq (.reg c_r06_SameAll_r2 [4]) .ret) .skip)) (.seq (.seq (.reg c_r06_SameAll_r3 [0,1,5]) (.block 0 (.loop [0,1,5] (c_r06_SameAll_b8 F)))) (.seq (.reg c_r06_SameAll_r9 [4]) .ret))))
def h_r06_SameAll : Hints := hn [] [(0,[0,1]),(1,[0,1,10]),(2,[4]),(3,[0,1,5]),(4,[0,1,5,14]),(5,[0,1,5]),(6,[0,1,5,26]),(7,[4]),(8,[4])] [(4,[0,1,5])]
section
variable (P : Program) (F : String → Nat)
def K_r06_SameAll : Prop := ∀ (l m : List Mo), l.length ≤ maxL → (∀ x ∈ l, x.sm) → FC P (F "r06.SameAll") [.lst 2 (pts l), .lst 2 (pts m)] (.bool (decide (l = m))) []
end
section
variable {P : Program} {F : String → Nat} {α : Type}
end
section
variable {P : Program} {F : String → Nat} {α : Type}
theorem pts_at {l : List Mo} {i : Nat} (h : i < l.length) : (pts l)[i]? = some (.agg [.lst 1 (ints (gt l i).n), .lst 1 (ints (gt l i).e)]) := by
 unfold pts
 rw [List.getElem?_map, List.getElem?_eq_getElem h, gt_nat h]
 rfl
theorem w_r06_SameAll (hs : K_r06_Same P F) (l m : List Mo) (hl : l.length ≤ maxL) (hsm : ∀ x ∈ l, x.sm) : W P (c_r06_SameAll F) (Done [.t 4] [] (.bool (decide (l = m))) []) (init [.lst 2 (pts l), .lst 2 (pts m)]) := by
 refine W_of ?_
 unfold maxL at hl
 have hpl := pts_length l
 have hpm := pts_length m
 simp (disch := omega) only [go_sem, ↓reduceIte]
 refine bran_ndec (fun h => ?_) (fun h => ?_)
 ·simp (disch := omega) only [go_sem, ↓reduceIte]
  have : l ≠ m := fun e => h (by rw [e])
  simp [this]
 ·have h' : l.length = m.length := by omega
  simp (disch := omega) only [go_sem, ↓reduceIte]
  refine W_loop (fun i : Nat => ⟨[(0, .lst 2 (pts l)), (1, .lst 2 (pts m)), (5, .int .i64 i)], [], 0⟩) (fun i => i ≤ l.length ∧ l.take i = m.take i) (fun i => l.length - i) 0 ?_ ?_ ?_
  ·simp (disch := omega) only [go_sem, ↓reduceIte]
   rfl
  ·simp
  ·rintro i ⟨hi, ht⟩
   simp (disch := omega) only [go_sem, ↓reduceIte, c_r06_SameAll_b8]
   refine bran_dec (fun f => ?_) (fun f => ?_)
   ·have q1 := pts_at (l := l) (i := i) (by omega)
    have q2 := pts_at (l := m) (i := i) (by omega)
    have hx := hsm _ (gt_mem (l := l) (j := i) (by omega) (by omega))
    have r := hs (gt l i) (gt m i) hx.1 hx.2
    simp only [mD] at r
    simp (disch := omega) only [go_sem, ↓reduceIte, q1, q2]
    refine call_by r ?_
    simp (disch := omega) only [go_sem, ↓reduceIte]
    refine bran_ndec (fun d2 => ?_) (fun d2 => ?_)
    ·simp (disch := omega) only [go_sem, ↓reduceIte]
     have : l ≠ m := fun e => d2 (by rw [e])
     simp [this]
    ·simp (disch := omega) only [go_sem, ↓reduceIte]
     exact ⟨i + 1, by simp, ⟨by omega, by rw [take_gt (by omega), take_gt (by omega), ht, d2]⟩, by omega⟩
   ·simp (disch := omega) only [go_sem, ↓reduceIte]
    obtain rfl : i = l.length := by omega
    rw [List.take_length, List.take_of_length_le (by omega)] at ht
    simp [ht]
end
@[go_sem] def c_l08_IsoAll_r0 : LL := [qB 2 0,qB 3 1,qb 4 false]
@[go_sem] def c_l08_IsoAll_r1 (F : Fn) : LL := [qc 13 (F "l08.awake") [],qv 14 13,qm 15 14,qg 15 false (qL 16 2 2),qg 15 false (qc 17 (F "r08.Small") [.t 16,.k (.int .i64 (7))]),qg 15 false (qv 18 17),qQ 19 15 18,qm 20 19,qg 20 false (qL 21 2 3),
 qg 20 false (qc 22 (F "r08.Small") [.t 21,.k (.int .i64 (7))]),qg 20 false (qv 23 22),qQ 24 20 23]
@[go_sem] def c_l08_IsoAll_r2 (F : Fn) : LL := [qc 25 (F "l08.awake") [],qm 4 25]
@[go_sem] def c_l08_IsoAll_r3 (F : Fn) : LL := [qL 27 2 2,qc 28 (F "l08.copied") [.t 27],qL 29 2 3,qc 30 (F "l08.copied") [.t 29],qc 31 (F "iso.All") [.t 28,.t 30],qm 26 31,qx 32 26 0,qx 33 26 1,qm 5 32,qm 6 33]
@[go_sem] def c_l08_IsoAll_r4 (F : Fn) : LL := [qL 35 2 2,qL 36 2 3,qc 37 (F "r08.All") [.t 35,.t 36],qm 34 37,qx 38 34 0,qx 39 34 1,qm 7 38,qm 8 39]
@[go_sem] def c_l08_IsoAll_r5 (F : Fn) : LL := [qm 40 6,qm 41 8,qo .neq 42 40 41,qm 43 42,qg 43 false (qm 44 5),qg 43 false (qm 45 7),qg 43 false (qc 46 (F "r06.SameAll") [.t 44,.t 45]),qg 43 false (qv 47 46),qQ 48 43 47]
@[go_sem] def c_l08_IsoAll_r6 : LL := [qb 4 false]
@[go_sem] def c_l08_IsoAll_r7 : LL := [qm 49 5,qm 50 5,qz 51 50,⟨some 52,.mn [.t 51,.k (.int .i64 (10))],none⟩,⟨some 53,.slc 2 (.t 49) none (some (.t 52)),none⟩,qz 54 53,qi 55 0]
@[go_sem] def c_l08_IsoAll_r8 : LL := [qo .lss 56 55 54]
@[go_sem] def c_l08_IsoAll_r9 : LL := [qd 57 2 53 55,qL 58 2 57,qa 10 [.nl 1,.nl 1],qs 2 10 58]
@[go_sem] def c_l08_IsoAll_r10 (F : Fn) : LL := [qL 60 2 2,qL 61 2 3,qL 62 2 10,qc 63 (F "morphism.Inverse") [.t 60,.t 61,.t 62],qm 59 63,qx 64 59 0,qx 65 59 1,qa 11 [.nl 1,.nl 1],qs 2 11 64,qm 12 65]
@[go_sem] def c_l08_IsoAll_r11 (F : Fn) : LL := [qm 66 12,qk .neq 67 66 0,qm 68 67,qg 68 false (qL 69 2 3),qg 68 false (qL 70 2 2),qg 68 false (qL 71 2 11),qg 68 false (qc 72 (F "morphism.Valid") [.t 69,.t 70,.t 71]),
 qg 68 false (qk .neq 73 72 0),qQ 74 68 73]
@[go_sem] def c_l08_IsoAll_r12 : LL := [qb 4 false]
@[go_sem] def c_l08_IsoAll_r13 : LL := [qk .add 75 55 1,qm 55 75]
def c_l08_IsoAll_b14 (F : Fn) : LC := (.seq (.reg c_l08_IsoAll_r8 [2,3,53,54,55,56]) (.seq (.cond (.t 56) .skip (.exit 0)) (.seq (.block 1 (.seq (.reg c_l08_IsoAll_r9 [2,3,10,53,54,55]) (.seq (.reg (c_l08_IsoAll_r10 F) [2,3,11,12,53,54,55]) (.seq (.reg (c_l08_IsoAll_r11 F) [2,3,53,54,55,74]) (.cond (.t 74) (.seq (.reg c_l08_IsoAll_r12 [4]) .ret) .skip))))) (.reg c_l08_IsoAll_r13 [2,3,53,54,55]))))
@[go_sem] def c_l08_IsoAll_r15 : LL := [qb 4 true]
@[go_sem] def c_l08_IsoAll (F : Fn) : LC := (.seq (.reg c_l08_IsoAll_r0 [2,3]) (.seq (.seq (.reg (c_l08_IsoAll_r1 F) [2,3,24]) (.cond (.t 24) (.seq (.reg (c_l08_IsoAll_r2 F) [4]) .ret) .skip)) (.seq (.dreg [(1,none,[],true),(2,(some 0),[1],false)] (c_l08_IsoAll_r3 F) [2,3,5,6]) (.seq (.reg (c_l08_IsoAll_r4 F) [2,3,5,6,7,8]) (.seq (.seq (.reg (c_l08_IsoAll_r5 F) [2,3,5,48]) (.cond (.t 48) (.seq (.reg c_l08_IsoAll_r6 [4]) .ret) .skip)) (.seq (.seq (.reg c_l08_IsoAll_r7 [2,3,53,54,55]) (.block 0 (.loop [2,3,53,54,55] (c_l08_IsoAll_b14 F)))) (.seq (.reg c_l08_IsoAll_r15 [4]) .ret)))))))
def h_l08_IsoAll : Hints := hOf [] (c_l08_IsoAll fun _ => 0)
section
variable (P : Program) (F : String → Nat)
def K_l08_IsoAll : Prop := ∀ a b : G, FC P (F "l08.IsoAll") [gD a, gD b] (.bool true) []
end
section
variable {P : Program} {F : String → Nat} {α : Type}
theorem w_l08_IsoAll (hw : K_l08_awake P F) (hs : K_r08_Small P F) (hc : K_l08_copied P F) (h1 : K_iso_All P F) (h2 : K_r08_All P F) (h3 : K_r06_SameAll P F) (h4 : K_morphism_Inverse P F) (h5 : K_morphism_Valid P F) (a b : G) : W P (c_l08_IsoAll F) (Done [.t 4] [] (.bool true) []) (init [gD a, gD b]) := by
 refine W_of ?_
 have q1 := hs a 7
 have q2 := hs b 7
 have c1 := hc a
 have c2 := hc b
 have r1 := h1 a b
 have r2 := h2 a b
 have hin := fun m => all_inv (a := a) (b := b) (m := m)
 rw [← all_same] at r2
 cases s1 : smallG a 7 with
 | false =>
  rw [s1] at q1
  simp only [gD] at *
  simp (disch := omega) only [go_sem, ↓reduceIte]
  refine call_by hw ?_
  simp (disch := omega) only [go_sem, ↓reduceIte]
  refine call_by q1 ?_
  simp (disch := omega) only [go_sem, ↓reduceIte]
  refine call_by hw ?_
  simp (disch := omega) only [go_sem, ↓reduceIte]
 | true =>
  cases s2 : smallG b 7 with
  | false =>
   rw [s1] at q1
   rw [s2] at q2
   simp only [gD] at *
   simp (disch := omega) only [go_sem, ↓reduceIte]
   refine call_by hw ?_
   simp (disch := omega) only [go_sem, ↓reduceIte]
   refine call_by q1 ?_
   simp (disch := omega) only [go_sem, ↓reduceIte]
   refine call_by q2 ?_
   simp (disch := omega) only [go_sem, ↓reduceIte]
   refine call_by hw ?_
   simp (disch := omega) only [go_sem, ↓reduceIte]
  | true =>
   rw [s1] at q1
   rw [s2] at q2
   obtain ⟨l1, l2⟩ := smallG_few s1
   obtain ⟨l3, l4⟩ := smallG_few s2
   replace c1 := c1 (by omega) (by omega)
   replace c2 := c2 (by omega) (by omega)
   have hll : (allP a b).1.length ≤ 2001 := by
    unfold allP
    split
    ·split
     ·split
      ·simp
      ·have := nN_len a b (colJ a b) 2000 (fun _ _ => true) a.n.length [] [] (by simp)
       simp only [isoN]
       omega
     ·simp
    ·simp
   have r3 := h3 (allP a b).1 (allP a b).1 (by unfold maxL; omega) (fun x hx => by have := hin x hx; exact ⟨by unfold maxL; omega, by unfold maxL; omega⟩)
   rw [decide_eq_true rfl] at r3
   have r4 := h4 a b
   have r5 := h5 b a
   generalize (allP a b).2 = e at *
   generalize (allP a b).1 = l at *
   generalize validM b a = vm at *
   generalize invM a b = im at *
   obtain ⟨K, hK, hKl⟩ : ∃ K : Nat, (if (10 : Int) < l.length then 10 else (l.length : Int)) = K ∧ K ≤ l.length := by
    by_cases h : (10 : Int) < l.length
    ·exact ⟨10, by rw [if_pos h]; rfl, by omega⟩
    ·exact ⟨l.length, by rw [if_neg h], by omega⟩
   simp only [gD, gA] at *
   have d0 : decide (e = e) = true := decide_eq_true rfl
   cases hfl : (pts l).all D.flatE
   all_goals
    simp (disch := omega) only [go_sem, ↓reduceIte, hfl]
    refine call_by hw ?_
    simp (disch := omega) only [go_sem, ↓reduceIte, hfl]
    refine call_by q1 ?_
    simp (disch := omega) only [go_sem, ↓reduceIte, hfl]
    refine call_by q2 ?_
    simp (disch := omega) only [go_sem, ↓reduceIte, hfl]
    refine call_by c1 ?_
    simp (disch := omega) only [go_sem, ↓reduceIte, hfl]
    refine call_by c2 ?_
    simp (disch := omega) only [go_sem, ↓reduceIte, hfl]
    refine call_by r1 ?_
    simp (disch := omega) only [go_sem, ↓reduceIte, hfl]
    refine call_by r2 ?_
    simp (disch := omega) only [go_sem, ↓reduceIte, hfl, d0]
    refine call_by r3 ?_
    simp (disch := omega) only [go_sem, ↓reduceIte, hfl, d0, hK, Int.toNat_natCast, Nat.sub_zero]
    refine W_loop (fun i : Nat => ⟨[(2, .pt 0 0), (3, .pt 1 0), (53, .sl 2 0 K), (54, .int .i64 K), (55, .int .i64 i)], [(0, .box [.lst 1 (ints a.n), .lst 3 (eds a.e)]), (1, .box [.lst 1 (ints b.n), .lst 3 (eds b.e)]), (2, .arr 2 (pts l))], 3⟩) (fun i => i ≤ K) (fun i => K - i) 0 ?_ ?_ ?_
    ·simp (disch := omega) only [go_sem, ↓reduceIte]
     rfl
    ·omega
    ·intro i hi
     simp (disch := omega) only [go_sem, ↓reduceIte, c_l08_IsoAll_b14]
     refine bran_dec (fun d => ?_) (fun d => ?_)
     ·obtain ⟨k1, k2, k3, k4⟩ := hin (gt l (i : Int)) (gt_mem (by omega) (by omega))
      have q4 := r4 (gt l (i : Int))
      have q5 := r5 (im (gt l (i : Int))).1
      rw [k1] at q4
      rw [k2] at q5
      generalize (im (gt l (i : Int))).1 = back at *
      have hat : (pts l)[i]? = some (.agg [.lst 1 (ints (gt l (i : Int)).n), .lst 1 (ints (gt l (i : Int)).e)]) := by
       rw [gt_nat (by omega)]
       simp [pts, mD, show i < l.length by omega]
      obtain ⟨⟨xn, xe⟩, hx⟩ : ∃ x, gt l (i : Int) = x := ⟨_, rfl⟩
      rw [hx] at q4 hat
      simp only [mD, mA] at *
      simp (disch := omega) only [go_sem, ↓reduceIte, hat]
      refine call_by q4 ?_
      simp (disch := omega) only [go_sem, ↓reduceIte]
      refine call_by q5 ?_
      simp (disch := omega) only [go_sem, ↓reduceIte]
      exact ⟨i + 1, by simp, by omega, by omega⟩
     ·simp (disch := omega) only [go_sem, ↓reduceIte]
theorem x_l08_IsoAll (h : K_l08_IsoAll P F) (args : List D) (ha : HasEls [shG, shG] args) : FC P (F "l08.IsoAll") args (.bool true) [] := by
 simp only [HasEls] at ha
 obtain ⟨_, _, rfl, h1, _, _, rfl, h2, rfl⟩ := ha
 obtain ⟨a, rfl⟩ := rd_graph h1
 obtain ⟨b, rfl⟩ := rd_graph h2
 exact h a b
end
end Go.Am
