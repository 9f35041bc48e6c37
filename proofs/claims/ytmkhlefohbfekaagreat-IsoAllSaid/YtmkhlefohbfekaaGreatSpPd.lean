/- Isomorphisms, found and listed, and orbits: the program's walks. -/
import Derived.Test.YtmkhlefohbfekaaGreatSpPa
import Derived.Test.YtmkhlefohbfekaaGreatSpPb
import Derived.Test.YtmkhlefohbfekaaGreatSpPc
namespace Go.Am
open Go
set_option linter.unusedVariables false
set_option linter.unusedSimpArgs false
attribute [local irreducible] W
@[go_sem] def c_iso_All_r0 : LL := [qB 2 0,qB 3 1,qn 4 2,qi 5 0]
@[go_sem] def c_iso_All_r1 (F : Fn) : LL := [qL 8 2 2,qL 9 2 3,qc 10 (F "iso.both") [.t 8,.t 9],qm 6 10]
@[go_sem] def c_iso_All_r2 : LL := [qm 11 6,qk .neq 12 11 0]
@[go_sem] def c_iso_All_r3 : LL := [qm 13 6,qn 4 2,qm 5 13]
@[go_sem] def c_iso_All_r4 (F : Fn) : LL := [qL 14 2 2,qL 15 2 3,qc 16 (F "iso.shaped") [.t 14,.t 15],qv 17 16]
@[go_sem] def c_iso_All_r5 : LL := [qn 4 2,qi 5 0]
@[go_sem] def c_iso_All_r6 (F : Fn) : LL := [qL 18 2 2,qL 19 2 3,qc 20 (F "iso.of") [.t 18,.t 19,.k (.int .i64 (2000))],qm 7 20]
@[go_sem] def c_iso_All_r7 (F : Fn) : LL := [qm 21 7,⟨some 22,.call (F "iso.search.nodes") [.t 21,.k (.nl 0),.k (.clo (F "iso.free") [])] [.mp,.rd,.mp],none⟩]
@[go_sem] def c_iso_All_r8 : LL := [qm 23 7,qf 24 0 23,qf 25 6 24,ql 26 1 25,qz 27 26,qk .gtr 28 27 2000]
@[go_sem] def c_iso_All_r9 : LL := [qn 4 2,qi 5 3]
@[go_sem] def c_iso_All_r10 : LL := [qm 29 7,qf 30 0 29,qf 31 6 30,ql 32 1 31,qm 4 32,qi 5 0]
@[go_sem] def c_iso_All (F : Fn) : LC := (.seq (.reg c_iso_All_r0 [2,3]) (.seq (.seq (.reg (c_iso_All_r1 F) [2,3,6]) (.seq (.reg c_iso_All_r2 [2,3,6,12]) (.cond (.t 12) (.seq (.reg c_iso_All_r3 [4,5]) .ret) .skip))) (.seq (.seq (.reg (c_iso_All_r4 F) [2,3,17]) (.cond (.t 17) (.seq (.reg c_iso_All_r5 [4,5]) .ret) .skip)) (.seq (.reg (c_iso_All_r6 F) [7]) (.seq (.reg (c_iso_All_r7 F) [7]) (.seq (.seq (.reg c_iso_All_r8 [7,28]) (.cond (.t 28) (.seq (.reg c_iso_All_r9 [4,5]) .ret) .skip)) (.seq (.reg c_iso_All_r10 [4,5]) .ret)))))))
def h_iso_All : Hints := hOf [] (c_iso_All fun _ => 0)
@[go_sem] def c_iso_Orbits_r0 : LL := [qB 1 0,qn 2 1,qi 3 0]
@[go_sem] def c_iso_Orbits_r1 (F : Fn) : LL := [qL 9 2 1,qc 10 (F "graph.Valid") [.t 9],qm 4 10]
@[go_sem] def c_iso_Orbits_r2 : LL := [qm 11 4,qk .neq 12 11 0]
@[go_sem] def c_iso_Orbits_r3 : LL := [qm 13 4,qn 2 1,qm 3 13]
@[go_sem] def c_iso_Orbits_r4 : LL := [qf 14 0 1,ql 15 1 14,qz 16 15,qk .gtr 17 16 12]
@[go_sem] def c_iso_Orbits_r5 : LL := [qn 2 1,qi 3 3]
@[go_sem] def c_iso_Orbits_r6 : LL := [qn 5 2]
@[go_sem] def c_iso_Orbits_r7 : LL := [qf 18 0 1,ql 19 1 18,qz 20 19,qi 21 0]
@[go_sem] def c_iso_Orbits_r8 : LL := [qo .lss 22 21 20]
@[go_sem] def c_iso_Orbits_r9 : LL := [qm 23 21,qa 6 [.int .i64 (0)],qs 1 6 23]
@[go_sem] def c_iso_Orbits_r10 : LL := [ql 24 1 6,qi 25 0]
@[go_sem] def c_iso_Orbits_r11 : LL := [qo .lss 26 25 24]
@[go_sem] def c_iso_Orbits_r12 : LL := [qm 27 25,qa 7 [.int .i64 (0)],qs 1 7 27]
@[go_sem] def c_iso_Orbits_r13 (F : Fn) : LL := [qL 28 2 1,qL 29 2 1,qc 30 (F "iso.of") [.t 28,.t 29,.k (.int .i64 (0))],qm 8 30]
@[go_sem] def c_iso_Orbits_r14 (F : Fn) : LL := [qm 31 8,⟨some 32,.mkf (F "iso.Orbits.1") [.t 7,.t 6],none⟩,⟨some 33,.call (F "iso.search.nodes") [.t 31,.k (.nl 0),.t 32] [.mp,.rd,.mp],none⟩]
@[go_sem] def c_iso_Orbits_r15 : LL := [qm 34 8,qf 35 0 34,qf 36 6 35,ql 37 1 36,qz 38 37,qk .gtr 39 38 0]
@[go_sem] def c_iso_Orbits_r16 : LL := [qm 40 5,ql 41 1 7,ql 42 1 6,qu 43 [.int .i64 (0),.int .i64 (0)] [(0,1,.t 41),(1,1,.t 42)],⟨some 44,.buildSl 2 16 (.agg [.int .i64 (0),.int .i64 (0)]) 1 [(0,.t 43)],none⟩,
 qp 45 2 16 40 44,qm 5 45]
@[go_sem] def c_iso_Orbits_r17 : LL := [qk .add 46 25 1,qm 25 46]
def c_iso_Orbits_b18 (F : Fn) : LC := (.seq (.reg c_iso_Orbits_r11 [1,5,6,20,21,24,25,26]) (.seq (.cond (.t 26) .skip (.exit 2)) (.seq (.block 3 (.seq (.reg c_iso_Orbits_r12 [1,5,6,7,20,21,24,25]) (.seq (.reg (c_iso_Orbits_r13 F) [1,5,6,7,8,20,21,24,25]) (.seq (.reg (c_iso_Orbits_r14 F) [1,5,6,7,8,20,21,24,25]) (.seq (.reg c_iso_Orbits_r15 [1,5,6,7,20,21,24,25,39]) (.cond (.t 39) (.seq (.reg c_iso_Orbits_r16 [1,5,20,21]) (.exit 2)) .skip)))))) (.reg c_iso_Orbits_r17 [1,5,6,20,21,24,25]))))
@[go_sem] def c_iso_Orbits_r19 : LL := [qk .add 47 21 1,qm 21 47]
def c_iso_Orbits_b20 (F : Fn) : LC := (.seq (.reg c_iso_Orbits_r8 [1,5,20,21,22]) (.seq (.cond (.t 22) .skip (.exit 0)) (.seq (.block 1 (.seq (.reg c_iso_Orbits_r9 [1,5,6,20,21]) (.seq (.reg c_iso_Orbits_r10 [1,5,6,20,21,24,25]) (.block 2 (.loop [1,5,6,20,21,24,25] (c_iso_Orbits_b18 F)))))) (.reg c_iso_Orbits_r19 [1,5,20,21]))))
@[go_sem] def c_iso_Orbits_r21 (F : Fn) : LL := [qf 48 0 1,ql 49 1 48,qz 50 49,qm 51 5,qc 52 (F "partition.Generate") [.t 50,.t 51],qx 53 52 0,qx 54 52 1,qm 2 53,qm 3 54]
@[go_sem] def c_iso_Orbits (F : Fn) : LC := (.seq (.reg c_iso_Orbits_r0 [1]) (.seq (.seq (.reg (c_iso_Orbits_r1 F) [1,4]) (.seq (.reg c_iso_Orbits_r2 [1,4,12]) (.cond (.t 12) (.seq (.reg c_iso_Orbits_r3 [2,3]) .ret) .skip))) (.seq (.seq (.reg c_iso_Orbits_r4 [1,17]) (.cond (.t 17) (.seq (.reg c_iso_Orbits_r5 [2,3]) .ret) .skip)) (.seq (.reg c_iso_Orbits_r6 [1,5]) (.seq (.seq (.reg c_iso_Orbits_r7 [1,5,20,21]) (.block 0 (.loop [1,5,20,21] (c_iso_Orbits_b20 F)))) (.seq (.reg (c_iso_Orbits_r21 F) [2,3]) .ret))))))
def h_iso_Orbits : Hints := hOf [] (c_iso_Orbits fun _ => 0)
def shpB (a b : G) : Bool := decide (a.n.length = b.n.length) && decide (a.e.length = b.e.length)
def isoN (a b : G) (m : Int) (al : Int → Int → Bool) : List Mo := nN a b (colJ a b) m al a.n.length [] []
def allP (a b : G) : List Mo × Int := if bothE a b = 0 then (if shpB a b = true then (if 2000 < (isoN a b 2000 fun _ _ => true).length then ([], 3) else (isoN a b 2000 fun _ _ => true, 0)) else ([], 0)) else ([], bothE a b)
def alO (u v : Nat) (i n : Int) : Bool := !decide (i = u) || decide (n = v)
def fndO (g : G) (u v : Nat) : Bool := !(isoN g g 0 (alO u v)).isEmpty
def orbU (g : G) (v : Nat) : Option Nat := (List.range v).find? fun u => fndO g u v
def orbS (g : G) (v : Nat) : List Pr := match orbU g v with | some u => [⟨u, v⟩] | none => []
def orbP (g : G) : List Pr := (List.range g.n.length).flatMap (orbS g)
def orbR (g : G) : List Int × Int := if validG g = 0 then (if 12 < g.n.length then ([], 3) else (genL g.n.length (orbP g), 0)) else ([], validG g)
section
variable (P : Program) (F : String → Nat)
def K_iso_Orbits : Prop := ∀ g : G, FC P (F "iso.Orbits") [gD g] (.tup [.arr 1 (ints (orbR g).1), .int .i64 (orbR g).2]) []
def K_iso_All : Prop := ∀ a b : G, FC P (F "iso.All") [gD a, gD b] (.tup [.arr 2 (pts (allP a b).1), .int .i64 (allP a b).2]) []
end
section
variable {P : Program} {F : String → Nat} {α : Type}
theorem colJ_len {a b : G} (va : validG a = 0) (vb : validG b = 0) : (colJ a b).length = a.n.length + b.n.length := by
 obtain ⟨hi, hn⟩ := InG.join va vb
 have key : ∀ (g : G) (k : Nat) (s : List (List Int)), s.length = g.n.length → (stb g k s).length = g.n.length := fun g k => by
  induction k with
  | zero => intro s h; rw [stb, colL_length, h]
  | succ k ih =>
   intro s h
   rw [stb]
   split
   ·rw [colL_length, h]
   ·exact ih _ (nextL_length g _)
 rw [colJ, stabL, key _ _ _ (frstL_length _), hn]
theorem bothE_spec {a b : G} (h : bothE a b = 0) : validG a = 0 ∧ validG b = 0 := by
 unfold bothE at h
 split at h
 ·exact ⟨by assumption, h⟩
 ·exact absurd h (by assumption)
theorem iso_call (hn : K_iso_search_nodes P F) (hf : K_iso_free P F) {a b : G} (va : validG a = 0) (vb : validG b = 0) (m : Int) (h3 : 0 ≤ m) (h4 : m ≤ 2000) :
  FC P (F "iso.search.nodes") [seBx a b (colJ a b) m [], .nl 0, .clb (F "iso.free") []] (.tup []) [(0, seBx a b (colJ a b) m (isoN a b m fun _ _ => true)), (2, .clb (F "iso.free") [])] := by
 have h := hn a.n.length a b (colJ a b) m [] [] (F "iso.free") [] (fun _ _ => true) (.inl ⟨rfl, fun i n => hf i n⟩) va vb (colJ_len va vb) (by simp) h3 h4 (by simp; omega)
 exact FC.nils (a := [seBx a b (colJ a b) m [], .nl 0, .clb (F "iso.free") []]) h (by simp [NilW, ints])
theorem w_iso_All (hb : K_iso_both P F) (hsh : K_iso_shaped P F) (hof : K_iso_of P F) (hn : K_iso_search_nodes P F) (hf : K_iso_free P F) (a b : G) : W P (c_iso_All F) (Done [.t 4, .t 5] [] (.tup [.arr 2 (pts (allP a b).1), .int .i64 (allP a b).2]) []) (init [gD a, gD b]) := by
 have r1 := hb a b
 have r2 := hsh a b
 by_cases hv : bothE a b = 0
 ·obtain ⟨va, vb⟩ := bothE_spec hv
  have r3 := hof a b 2000 va vb
  have r4 := iso_call hn hf va vb 2000 (by omega) (by omega)
  have hA : allP a b = if shpB a b = true then (if 2000 < (isoN a b 2000 fun _ _ => true).length then ([], 3) else (isoN a b 2000 fun _ _ => true, 0)) else ([], 0) := if_pos hv
  have hl : ((isoN a b 2000 fun _ _ => true).length : Int) ≤ 2001 := by
   have := nN_len a b (colJ a b) 2000 (fun _ _ => true) a.n.length [] [] (by simp)
   unfold isoN
   omega
  rw [hA]
  rw [hv] at r1
  rw [show (decide (a.n.length = b.n.length) && decide (a.e.length = b.e.length)) = shpB a b from rfl] at r2
  generalize (isoN a b 2000 fun _ _ => true) = l at *
  generalize shpB a b = sh at *
  generalize colJ a b = c at *
  simp only [gD, seBx] at *
  refine W_of ?_
  have d0 : decide ((0 : Int) = 0) = true := rfl
  simp (disch := omega) only [go_sem, ↓reduceIte]
  refine call_by r1 ?_
  simp (disch := omega) only [go_sem, ↓reduceIte, d0]
  refine call_by r2 ?_
  cases sh with
  | false =>
   simp (disch := omega) only [go_sem, ↓reduceIte]
   rfl
  | true =>
   simp (disch := omega) only [go_sem, ↓reduceIte]
   refine call_fz r3 ?_
   simp (disch := omega) only [go_sem, ↓reduceIte]
   refine call_fz r4 ?_
   simp (disch := omega) only [go_sem, ↓reduceIte]
   refine bran_dec (fun d => ?_) (fun d => ?_)
   ·rw [if_pos rfl, if_pos (by omega)]
    simp (disch := omega) only [go_sem, ↓reduceIte]
    rfl
   ·rw [if_pos rfl, if_neg (by omega)]
    simp (disch := omega) only [go_sem, ↓reduceIte]
 ·rw [show allP a b = ([], bothE a b) from if_neg hv]
  generalize bothE a b = e at *
  simp only [gD] at *
  refine W_of ?_
  have d0 : decide (e = 0) = false := decide_eq_false hv
  simp (disch := omega) only [go_sem, ↓reduceIte]
  refine call_by r1 ?_
  simp (disch := omega) only [go_sem, ↓reduceIte, d0]
  rfl
theorem orb_call (hn : K_iso_search_nodes P F) (ho : K_iso_Orbits_1 P F) {g : G} (va : validG g = 0) (u v : Nat) :
  FC P (F "iso.search.nodes") [seBx g g (colJ g g) 0 [], .nl 0, .clb (F "iso.Orbits.1") [.box [.int .i64 u], .box [.int .i64 v]]] (.tup []) [(0, seBx g g (colJ g g) 0 (isoN g g 0 (alO u v))), (2, .clb (F "iso.Orbits.1") [.box [.int .i64 u], .box [.int .i64 v]])] := by
 have h := hn g.n.length g g (colJ g g) 0 [] [] (F "iso.Orbits.1") [.box [.int .i64 u], .box [.int .i64 v]] (alO u v) (.inr ⟨u, v, rfl, fun i n => ho i n u v⟩) va va (colJ_len va va) (by simp) (by omega) (by omega) (by simp)
 exact FC.nils (a := [seBx g g (colJ g g) 0 [], .nl 0, .clb (F "iso.Orbits.1") [.box [.int .i64 u], .box [.int .i64 v]]]) h (by simp [NilW, ints])
theorem orbS_len (g : G) (v : Nat) : (orbS g v).length ≤ 1 := by unfold orbS; split <;> simp
theorem flat1_len {β : Type} {f : Nat → List β} (h : ∀ v, (f v).length ≤ 1) : ∀ l : List Nat, (l.flatMap f).length ≤ l.length
 | [] => by simp
 | a :: l => by
  have := h a
  have := flat1_len h l
  simp only [List.flatMap_cons, List.length_append, List.length_cons]
  omega
theorem orbU_lt {g : G} {v u : Nat} (h : orbU g v = some u) : u < v := by simpa using List.mem_of_find?_eq_some h
theorem orbP_in (g : G) : PrIn g.n.length (orbP g) := by
 intro i hi
 have hm := gt_mem (l := orbP g) (j := (i : Int)) (by omega) (by omega)
 obtain ⟨v, hv, hx⟩ := List.mem_flatMap.1 hm
 have hv := List.mem_range.1 hv
 unfold orbS at hx
 split at hx
 ·rename_i u hu
  have := orbU_lt hu
  simp only [List.mem_singleton] at hx
  rw [hx]
  simp only
  omega
 ·simp at hx
set_option maxRecDepth 100000 in
theorem w_iso_Orbits (hv : K_graph_Valid P F) (hof : K_iso_of P F) (hn : K_iso_search_nodes P F) (ho : K_iso_Orbits_1 P F) (hg : K_partition_Generate P F) (g : G) : W P (c_iso_Orbits F) (Done [.t 2, .t 3] [] (.tup [.arr 1 (ints (orbR g).1), .int .i64 (orbR g).2]) []) (init [gD g]) := by
 have r1 := hv g
 by_cases h0 : validG g = 0
 ·by_cases h1 : 12 < g.n.length
  ·rw [show orbR g = ([], 3) by unfold orbR; rw [if_pos h0, if_pos h1]]
   rw [h0] at r1
   have d0 : decide ((0 : Int) = 0) = true := rfl
   have d1 : decide ((12 : Int) < g.n.length) = true := decide_eq_true (by omega)
   simp only [gD] at *
   refine W_of ?_
   simp (disch := omega) only [go_sem, ↓reduceIte]
   refine call_by r1 ?_
   simp (disch := omega) only [go_sem, ↓reduceIte, d0, d1]
   rfl
  ·rw [show orbR g = (genL g.n.length (orbP g), 0) by unfold orbR; rw [if_pos h0, if_neg h1]]
   rw [h0] at r1
   have hpl : (orbP g).length ≤ 12 := by
    have := flat1_len (orbS_len g) (List.range g.n.length)
    rw [List.length_range] at this
    unfold orbP
    omega
   have r5 := hg g.n.length (orbP g) (by omega) (by omega) (orbP_in g)
   have r2 := hof g g 0 h0 h0
   have r3 := fun u v => orb_call hn ho h0 u v
   have hf : ∀ u v, fndO g u v = !(isoN g g 0 (alO u v)).isEmpty := fun _ _ => rfl
   have hl : ∀ u v, ((isoN g g 0 (alO u v)).length : Int) ≤ 1 := fun u v => by
    have := nN_len g g (colJ g g) 0 (alO u v) g.n.length [] [] (by simp)
    unfold isoN
    omega
   have hu : ∀ v, orbU g v = (List.range v).find? fun u => fndO g u v := fun _ => rfl
   have hS : ∀ v, orbS g v = match orbU g v with | some u => [⟨u, v⟩] | none => [] := fun _ => rfl
   have hP : orbP g = (List.range g.n.length).flatMap (orbS g) := rfl
   have hPt : ∀ v, v < g.n.length → ((List.range g.n.length).take (v + 1)).flatMap (orbS g) = ((List.range g.n.length).take v).flatMap (orbS g) ++ orbS g v := fun v hv => by
    rw [List.take_range, List.take_range, show min (v + 1) g.n.length = v + 1 by omega, show min v g.n.length = v by omega, List.range_succ, List.flatMap_append]
    simp
   have hPn : ((List.range g.n.length).take g.n.length).flatMap (orbS g) = orbP g := by rw [List.take_of_length_le (by simp)]; rfl
   have hPl : ∀ v, v ≤ g.n.length → (((List.range g.n.length).take v).flatMap (orbS g)).length ≤ 12 := fun v hv => by
    have := flat1_len (orbS_len g) ((List.range g.n.length).take v)
    rw [List.length_take, List.length_range] at this
    omega
   generalize orbP g = PP at *
   obtain ⟨A, hA⟩ : ∃ A : Nat → List Pr, ∀ v, A v = ((List.range g.n.length).take v).flatMap (orbS g) := ⟨_, fun _ => rfl⟩
   have hA0 : A 0 = [] := by rw [hA]; rfl
   simp only [← hA] at hPt hPn hPl
   generalize isoN g g 0 = iso at *
   generalize colJ g g = c at *
   generalize orbS g = S at *
   generalize orbU g = U at *
   generalize fndO g = fnd at *
   clear hA hP hv hof hn ho hg
   simp only [gD, seBx] at *
   refine W_of ?_
   have d0 : decide ((0 : Int) = 0) = true := rfl
   have d1 : decide ((12 : Int) < g.n.length) = false := decide_eq_false (by omega)
   simp (disch := omega) only [go_sem, ↓reduceIte]
   refine call_by r1 ?_
   simp (disch := omega) only [go_sem, ↓reduceIte, d0, d1]
   refine W_loop (fun v : Nat => ⟨[(1, .pt 0 0), (5, .sl 1 0 (A v).length), (20, .int .i64 g.n.length), (21, .int .i64 v)], [(0, .box [.lst 1 (ints g.n), .lst 3 (eds g.e)]), (1, .arr 2 (prs (A v)))], 2⟩) (fun v => v ≤ g.n.length) (fun v => g.n.length - v) 0 ?_ ?_ ?_
   ·simp (disch := omega) only [go_sem, ↓reduceIte, hA0]
    rfl
   ·omega
   ·intro v hv
    have hAl := hPl v hv
    simp (disch := omega) only [go_sem, ↓reduceIte, c_iso_Orbits_b20]
    refine bran_dec (fun d => ?_) (fun d => ?_)
    ·have hAv := hPt v (by omega)
     have hSv := hS v
     have hUv := hu v
     simp (disch := omega) only [go_sem, ↓reduceIte]
     refine W_loop (fun u : Nat => ⟨[(1, .pt 0 0), (5, .sl 1 0 (A v).length), (6, .pt 2 0), (20, .int .i64 g.n.length), (21, .int .i64 v), (24, .int .i64 v), (25, .int .i64 u)], [(0, .box [.lst 1 (ints g.n), .lst 3 (eds g.e)]), (1, .arr 2 (prs (A v))), (2, .box [.int .i64 v])], 3⟩)
      (fun u => u ≤ v ∧ U v = (List.range' u (v - u)).find? fun u => fnd u v) (fun u => v - u) 0 ?_ ?_ ?_
     ·simp (disch := omega) only [go_sem, ↓reduceIte]
      rfl
     ·exact ⟨Nat.zero_le _, by rw [hUv, List.range_eq_range', Nat.sub_zero]⟩
     ·rintro u ⟨k1, k2⟩
      simp (disch := omega) only [go_sem, ↓reduceIte, c_iso_Orbits_b18]
      refine bran_dec (fun e => ?_) (fun e => ?_)
      ·have hk : List.range' u (v - u) = u :: List.range' (u + 1) (v - (u + 1)) := by
        rw [show v - u = (v - (u + 1)) + 1 by omega, List.range'_succ]
       rw [hk, List.find?_cons, hf] at k2
       have q3 := r3 u v
       have ql := hl u v
       generalize iso (alO u v) = L at *
       simp (disch := omega) only [go_sem, ↓reduceIte]
       refine call_fz r2 ?_
       simp (disch := omega) only [go_sem, ↓reduceIte]
       refine call_fz q3 ?_
       simp (disch := omega) only [go_sem, ↓reduceIte]
       refine bran_dec (fun f => ?_) (fun f => ?_)
       ·have hne : L.isEmpty = false := by
         cases L with
         | nil => simp at f
         | cons x l => rfl
        rw [hne] at k2
        simp only [Bool.not_false] at k2
        rw [k2] at hSv
        simp only at hSv
        rw [hSv] at hAv
        simp (disch := omega) only [go_sem, ↓reduceIte]
        exact ⟨v + 1, by simp [hAv], by omega, by omega⟩
       ·have hne : L.isEmpty = true := by
         cases L with
         | nil => rfl
         | cons x l => exact absurd (by simp) f
        rw [hne] at k2
        simp only [Bool.not_true] at k2
        simp (disch := omega) only [go_sem, ↓reduceIte]
        exact ⟨u + 1, by simp, ⟨by omega, k2⟩, by omega⟩
      ·obtain rfl : u = v := by omega
       rw [Nat.sub_self] at k2
       simp only [List.range'_zero, List.find?_nil] at k2
       rw [k2] at hSv
       simp only at hSv
       rw [hSv, List.append_nil] at hAv
       simp (disch := omega) only [go_sem, ↓reduceIte]
       exact ⟨u + 1, by simp [hAv], by omega, by omega⟩
    ·obtain rfl : v = g.n.length := by omega
     rw [hPn] at *
     simp (disch := omega) only [go_sem, ↓reduceIte]
     refine call_by r5 ?_
     simp (disch := omega) only [go_sem, ↓reduceIte]
 ·rw [show orbR g = ([], validG g) from if_neg h0]
  generalize validG g = e at *
  simp only [gD] at *
  refine W_of ?_
  have d0 : decide (e = 0) = false := decide_eq_false h0
  simp (disch := omega) only [go_sem, ↓reduceIte]
  refine call_by r1 ?_
  simp (disch := omega) only [go_sem, ↓reduceIte, d0]
  rfl
end
@[go_sem] def c_l08_awake_r0 : LL := [qb 0 false]
@[go_sem] def c_l08_awake_r1 : LL := [⟨some 14,.buildSl 1 8 (.int .i64 (0)) 3 [(0,.k (.int .i64 (0))),(1,.k (.int .i64 (0))),(2,.k (.int .i64 (0)))],none⟩,
 qu 15 [.int .i64 (0),.int .i64 (0),.int .i64 (0)] [(1,1,.k (.int .i64 (0))),(2,1,.k (.int .i64 (1)))],
 qu 16 [.int .i64 (0),.int .i64 (0),.int .i64 (0)] [(1,1,.k (.int .i64 (1))),(2,1,.k (.int .i64 (2)))],
 ⟨some 17,.buildSl 3 24 (.agg [.int .i64 (0),.int .i64 (0),.int .i64 (0)]) 2 [(0,.t 15),(1,.t 16)],none⟩,qu 18 [.nl 1,.nl 3] [(0,1,.t 14),(1,1,.t 17)],
 qa 1 [.nl 1,.nl 3],qs 2 1 18]
@[go_sem] def c_l08_awake_r2 : LL := [⟨some 19,.buildSl 1 8 (.int .i64 (0)) 3 [(0,.k (.int .i64 (0))),(1,.k (.int .i64 (0))),(2,.k (.int .i64 (0)))],none⟩,
 qu 20 [.int .i64 (0),.int .i64 (0),.int .i64 (0)] [(1,1,.k (.int .i64 (0))),(2,1,.k (.int .i64 (1)))],
 qu 21 [.int .i64 (0),.int .i64 (0),.int .i64 (0)] [(1,1,.k (.int .i64 (2))),(2,1,.k (.int .i64 (1)))],
 ⟨some 22,.buildSl 3 24 (.agg [.int .i64 (0),.int .i64 (0),.int .i64 (0)]) 2 [(0,.t 20),(1,.t 21)],none⟩,qu 23 [.nl 1,.nl 3] [(0,1,.t 19),(1,1,.t 22)],
 qa 2 [.nl 1,.nl 3],qs 2 2 23]
@[go_sem] def c_l08_awake_r3 : LL := [⟨some 24,.buildSl 1 8 (.int .i64 (0)) 2 [(0,.k (.int .i64 (0))),(1,.k (.int .i64 (0)))],none⟩,qu 25 [.nl 1,.nl 3] [(0,1,.t 24)],qa 3 [.nl 1,.nl 3],qs 2 3 25]
@[go_sem] def c_l08_awake_r4 (F : Fn) : LL := [qL 27 2 1,qc 28 (F "iso.Refine") [.t 27],qm 26 28,qx 29 26 0,qx 30 26 1,qm 4 29,qm 5 30]
@[go_sem] def c_l08_awake_r5 (F : Fn) : LL := [qL 32 2 1,qL 33 2 1,qc 34 (F "iso.All") [.t 32,.t 33],qm 31 34,qx 35 31 0,qx 36 31 1,qm 6 35,qm 7 36]
@[go_sem] def c_l08_awake_r6 (F : Fn) : LL := [qL 38 2 3,qc 39 (F "iso.Orbits") [.t 38],qm 37 39,qx 40 37 0,qx 41 37 1,qm 8 40,qm 9 41]
@[go_sem] def c_l08_awake_r7 (F : Fn) : LL := [qL 43 2 3,qL 44 2 3,qc 45 (F "iso.All") [.t 43,.t 44],qm 42 45,qx 46 42 0,qx 47 42 1,qm 10 46,qm 11 47]
@[go_sem] def c_l08_awake_r8 (F : Fn) : LL := [qL 49 2 1,qL 50 2 2,qc 51 (F "iso.Reason") [.t 49,.t 50],qm 48 51,qx 52 48 0,qx 53 48 1,qa 12 [.int .i64 (0),.nl 1,.int .i64 (0),.int .i64 (0)],qs 4 12 52,qm 13 53]
@[go_sem] def c_l08_awake_r9 (F : Fn) : LL := [qm 54 5,qk .eql 55 54 0,qm 56 55,qg 56 true (qm 57 4),
 ⟨some 58,.buildSl 1 8 (.int .i64 (0)) 3 [(0,.k (.int .i64 (0))),(1,.k (.int .i64 (1))),(2,.k (.int .i64 (2)))],some (56,true)⟩,qg 56 true (qc 59 (F "slices.Equal.I") [.t 57,.t 58]),
 qP 60 56 59,qm 61 60,qg 61 true (qm 62 7),qg 61 true (qk .eql 63 62 0),qP 64 61 63,qm 65 64,qg 65 true (qm 66 6),qg 65 true (qz 67 66),qg 65 true (qk .eql 68 67 1),qP 69 65 68,
 qm 70 69,qg 70 true (qm 71 9),qg 70 true (qk .eql 72 71 0),qP 73 70 72,qm 74 73,qg 74 true (qm 75 8),
 ⟨some 76,.buildSl 1 8 (.int .i64 (0)) 2 [(0,.k (.int .i64 (0))),(1,.k (.int .i64 (0)))],some (74,true)⟩,qg 74 true (qc 77 (F "slices.Equal.I") [.t 75,.t 76]),qP 78 74 77,qm 79 78,
 qg 79 true (qm 80 11),qg 79 true (qk .eql 81 80 0),qP 82 79 81,qm 83 82,qg 83 true (qm 84 10),qg 83 true (qz 85 84),qg 83 true (qk .eql 86 85 2),qP 87 83 86,qm 88 87,
 qg 88 true (qm 89 13),qg 88 true (qk .eql 90 89 0),qP 91 88 90,qm 92 91,qg 92 true (qL 93 4 12),
 ⟨some 94,.buildSl 1 8 (.int .i64 (0)) 4 [(0,.k (.int .i64 (0))),(1,.k (.int .i64 (0))),(2,.k (.int .i64 (0))),(3,.k (.int .i64 (0)))],some (92,true)⟩,
 qg 92 true (qu 95 [.int .i64 (0),.nl 1,.int .i64 (0),.int .i64 (0)] [(0,1,.k (.int .i64 (1))),(1,1,.t 94),(2,1,.k (.int .i64 (1))),(3,1,.k (.int .i64 (2)))]),
 qg 92 true (qc 96 (F "r08.SameDiffer") [.t 93,.t 95]),qP 97 92 96,qm 0 97]
@[go_sem] def c_l08_awake (F : Fn) : LC := (.seq (.reg c_l08_awake_r0 []) (.seq (.reg c_l08_awake_r1 [1]) (.seq (.reg c_l08_awake_r2 [1,2]) (.seq (.reg c_l08_awake_r3 [1,2,3]) (.seq (.reg (c_l08_awake_r4 F) [1,2,3,4,5]) (.seq (.reg (c_l08_awake_r5 F) [1,2,3,4,5,6,7]) (.seq (.reg (c_l08_awake_r6 F) [1,2,3,4,5,6,7,8,9]) (.seq (.reg (c_l08_awake_r7 F) [1,2,4,5,6,7,8,9,10,11]) (.seq (.reg (c_l08_awake_r8 F) [4,5,6,7,8,9,10,11,12,13]) (.seq (.reg (c_l08_awake_r9 F) [0]) .ret))))))))))
def h_l08_awake : Hints := hOf [] (c_l08_awake fun _ => 0)
def gP : G := ⟨[0, 0, 0], [⟨0, 0, 1⟩, ⟨0, 1, 2⟩]⟩
def gV : G := ⟨[0, 0, 0], [⟨0, 0, 1⟩, ⟨0, 2, 1⟩]⟩
def gT : G := ⟨[0, 0], []⟩
section
variable (P : Program) (F : String → Nat)
def K_l08_awake : Prop := FC P (F "l08.awake") [] (.bool true) []
end
section
variable {P : Program} {F : String → Nat} {α : Type}
theorem ex_ref : refD gP = .tup [.lst 1 [.int .i64 0, .int .i64 1, .int .i64 2], .int .i64 0] := by
 rw [show refD gP = .tup [.lst 1 (ints (stabL gP)), .int .i64 0] from if_pos (by decide +kernel), show stabL gP = [0, 1, 2] by decide +kernel]
 rfl
theorem ex_all : allP gP gP = ([⟨[0, 1, 2], [0, 1]⟩], 0) := by decide +kernel
theorem ex_two : allP gT gT = ([⟨[0, 1], []⟩, ⟨[1, 0], []⟩], 0) := by decide +kernel
theorem ex_orb : orbR gT = ([0, 0], 0) := by decide +kernel
theorem ex_rsn : rsnD gP gV = .tup [.agg [.int .i64 1, .lst 1 [.int .i64 0, .int .i64 0, .int .i64 0, .int .i64 0], .int .i64 1, .int .i64 2], .int .i64 0] := by
 have h : rsnR gP gV = (⟨1, [0, 0, 0, 0], 1, 2⟩, true) := by decide +kernel
 have hb : bothE gP gV = 0 := by decide +kernel
 rw [show rsnD gP gV = _ from if_pos hb, h]
 rfl
set_option maxRecDepth 100000 in
theorem w_l08_awake (h1 : K_iso_Refine P F) (h2 : K_iso_All P F) (h3 : K_iso_Orbits P F) (h4 : K_iso_Reason P F) (h5 : K_slices_Equal_I P F) (h6 : K_r08_SameDiffer P F) : W P (c_l08_awake F) (Done [.t 0] [] (.bool true) []) (init []) := by
 refine W_of ?_
 have r1 := h1 gP
 have r2 := h2 gP gP
 have r3 := h3 gT
 have r4 := h2 gT gT
 have r5 := h4 gP gV
 rw [ex_ref] at r1
 have q2 : (allP gP gP).2 = 0 ∧ (allP gP gP).1.length = 1 := by rw [ex_all]; exact ⟨rfl, rfl⟩
 have q4 : (allP gT gT).2 = 0 ∧ (allP gT gT).1.length = 2 := by rw [ex_two]; exact ⟨rfl, rfl⟩
 rw [q2.1] at r2
 rw [q4.1] at r4
 replace q2 := q2.2
 replace q4 := q4.2
 generalize (allP gP gP).1 = l2 at *
 generalize (allP gT gT).1 = l4 at *
 rw [ex_orb] at r3
 rw [ex_rsn] at r5
 have r6 := h5 [0, 1, 2] [0, 1, 2] (by decide)
 rw [decide_eq_true rfl] at r6
 have r7 := h5 [0, 0] [0, 0] (by decide)
 rw [decide_eq_true rfl] at r7
 have r8 := h6 ⟨1, [0, 0, 0, 0], 1, 2⟩ ⟨1, [0, 0, 0, 0], 1, 2⟩ (by decide)
 rw [decide_eq_true rfl] at r8
 simp only [gP, gV, gT, gD, mD, dfD, dfC] at *
 have d2 : decide ((l2.length : Int) = 1) = true := decide_eq_true (by omega)
 have d4 : decide ((l4.length : Int) = 2) = true := decide_eq_true (by omega)
 cases f2 : (pts l2).all D.flatE <;> cases f4 : (pts l4).all D.flatE
 all_goals
  simp (disch := omega) only [go_sem, ↓reduceIte]
  refine call_by r1 ?_
  simp (disch := omega) only [go_sem, ↓reduceIte]
  refine call_by r2 ?_
  simp (disch := omega) only [go_sem, ↓reduceIte, f2, f4, d2, d4]
  refine call_by r3 ?_
  simp (disch := omega) only [go_sem, ↓reduceIte, f2, f4, d2, d4]
  refine call_by r4 ?_
  simp (disch := omega) only [go_sem, ↓reduceIte, f2, f4, d2, d4]
  refine call_by r5 ?_
  simp (disch := omega) only [go_sem, ↓reduceIte, f2, f4, d2, d4]
  refine call_by r6 ?_
  simp (disch := omega) only [go_sem, ↓reduceIte, f2, f4, d2, d4]
  refine call_by r7 ?_
  simp (disch := omega) only [go_sem, ↓reduceIte, f2, f4, d2, d4]
  refine call_by r8 ?_
  simp (disch := omega) only [go_sem, ↓reduceIte, f2, f4, d2, d4]
theorem fewG_len {g : G} (h : few g = true) : g.n.length ≤ 45 ∧ g.e.length ≤ 90 := by
 simp only [few, Bool.and_eq_true, decide_eq_true_eq] at h
 omega
end
section
theorem joinG_two (a b : G) : joinG [a, b] = join2 a b := by
 have := joinG_one a
 simp only [joinG, List.foldl_cons, List.foldl_nil] at this ⊢
 rw [this]
theorem gt_app_l {α : Type} [Inhabited α] {x y : List α} {i : Int} (h0 : 0 ≤ i) (h : i < x.length) : gt (x ++ y) i = gt x i := by
 obtain ⟨j, rfl⟩ := Int.eq_ofNat_of_zero_le h0
 rw [gt_nat (by simp; omega), gt_nat (by omega), List.getElem_append_left (by omega)]
theorem gt_app_r {α : Type} [Inhabited α] {x y : List α} {i : Int} (h0 : 0 ≤ i) (h : i < y.length) : gt (x ++ y) (i + x.length) = gt y i := by
 obtain ⟨j, rfl⟩ := Int.eq_ofNat_of_zero_le h0
 rw [show ((j : Int) + x.length) = ((j + x.length : Nat) : Int) by omega, gt_nat (by simp; omega), gt_nat (by omega), List.getElem_append_right (by omega)]
 simp
theorem flatMap_nil' {α β : Type} {f : α → List β} : ∀ {l : List α}, (∀ x ∈ l, f x = []) → l.flatMap f = []
 | [], _ => rfl
 | x :: l, h => by rw [List.flatMap_cons, h x (by simp), flatMap_nil' fun y hy => h y (by simp [hy]), List.append_nil]
theorem flatMap_congr' {α β : Type} {f g : α → List β} : ∀ {l : List α}, (∀ x ∈ l, f x = g x) → l.flatMap f = l.flatMap g
 | [], _ => rfl
 | x :: l, h => by rw [List.flatMap_cons, List.flatMap_cons, h x (by simp), flatMap_congr' fun y hy => h y (by simp [hy])]
theorem trE_nil {c : List Int} {i : Nat} {x : E} (h1 : x.f ≠ i) (h2 : x.o ≠ i) : trE c i x = [] := by
 unfold trE
 rw [if_neg h1, if_neg h2]; rfl
theorem trE_sh {c d : List Int} {i j : Nat} {x y : E} (ht : x.t = y.t) (hf : x.f = i ↔ y.f = j) (ho : x.o = i ↔ y.o = j) (h1 : gt c x.o = gt d y.o) (h2 : gt c x.f = gt d y.f) : trE c i x = trE d j y := by
 unfold trE
 rw [ht, h1, h2]
 by_cases e1 : y.f = j <;> by_cases e2 : y.o = j <;> simp [hf, ho, e1, e2]
theorem sgn_join_l {a b : G} (va : InG a) (vb : InG b) {ca cb : List Int} (h1 : ca.length = a.n.length) {i : Nat} (hi : i < a.n.length) : sgnO (join2 a b).e (ca ++ cb) i = sgnO a.e ca i := by
 unfold sgnO
 rw [gt_app_l (by omega) (by omega)]
 congr 3
 simp only [join2, trL, List.flatMap_append]
 rw [flatMap_nil' (l := List.map _ _), List.append_nil]
 ·refine flatMap_congr' fun x hx => ?_
  have := va.2.2 x hx
  simp only [trE]
  rw [gt_app_l (i := x.o) (by omega) (by omega), gt_app_l (i := x.f) (by omega) (by omega)]
 ·intro x hx
  obtain ⟨y, hy, rfl⟩ := List.mem_map.1 hx
  have := vb.2.2 y hy
  exact trE_nil (by simp only [shJ]; omega) (by simp only [shJ]; omega)
theorem sgn_join_r {a b : G} (va : InG a) (vb : InG b) {ca cb : List Int} (h1 : ca.length = a.n.length) (h2 : cb.length = b.n.length) {i : Nat} (hi : i < b.n.length) : sgnO (join2 a b).e (ca ++ cb) (a.n.length + i) = sgnO b.e cb i := by
 unfold sgnO
 have e : ((a.n.length + i : Nat) : Int) = (i : Int) + ca.length := by omega
 rw [e, gt_app_r (by omega) (by omega)]
 congr 3
 simp only [join2, trL, List.flatMap_append]
 rw [flatMap_nil' (l := a.e), List.nil_append, List.flatMap_map]
 ·refine flatMap_congr' fun x hx => ?_
  have := vb.2.2 x hx
  refine trE_sh rfl (by simp only [shJ]; omega) (by simp only [shJ]; omega) ?_ ?_
  ·simp only [shJ]
   rw [← h1]
   exact gt_app_r (by omega) (by omega)
  ·simp only [shJ]
   rw [← h1]
   exact gt_app_r (by omega) (by omega)
 ·intro x hx
  have := va.2.2 x hx
  exact trE_nil (by omega) (by omega)
theorem nextL_join {a b : G} (va : InG a) (vb : InG b) {ca cb : List Int} (h1 : ca.length = a.n.length) (h2 : cb.length = b.n.length) : nextL (join2 a b) (ca ++ cb) = nextL a ca ++ nextL b cb := by
 have hn : (join2 a b).n.length = a.n.length + b.n.length := by simp [join2]
 refine List.ext_getElem (by simp [nextL, hn]) fun i hi _ => ?_
 simp only [nextL, List.length_map, List.length_range, hn] at hi
 rcases Nat.lt_or_ge i a.n.length with h | h
 ·rw [List.getElem_append_left (by simp [nextL]; omega)]
  simp only [nextL, List.getElem_map, List.getElem_range]
  exact sgn_join_l va vb h1 h
 ·rw [List.getElem_append_right (by simp [nextL]; omega)]
  simp only [nextL, List.getElem_map, List.getElem_range, List.length_map, List.length_range]
  obtain ⟨j, rfl⟩ : ∃ j, i = a.n.length + j := ⟨i - a.n.length, by omega⟩
  rw [show a.n.length + j - a.n.length = j by omega]
  exact sgn_join_r va vb h1 h2 (by omega)
theorem perm_sub {α : Type} [DecidableEq α] : ∀ {A B : List α}, A.Nodup → (∀ x ∈ A, x ∈ B) → A.length = B.length → A.Perm B
 | [], B, _, _, h => by rw [List.eq_nil_of_length_eq_zero (l := B) (by simpa using h.symm)]
 | x :: A, B, hn, hs, h => by
  rw [List.nodup_cons] at hn
  have hx := hs x (by simp)
  have hl := List.length_erase_of_mem hx
  have := perm_sub (A := A) (B := B.erase x) hn.2 (fun y hy => (List.mem_erase_of_ne (fun e => hn.1 (by rw [← e]; exact hy))).2 (hs y (by simp [hy]))) (by simp at h; omega)
  exact (this.cons x).trans (List.perm_cons_erase hx).symm
end
section
variable (P : Program) (F : String → Nat)
end
section
variable {P : Program} {F : String → Nat} {α : Type}
theorem smallG_few {g : G} {n : Int} (h : smallG g n = true) : g.n.length ≤ 45 ∧ g.e.length ≤ 90 := by
 unfold smallG at h
 cases hf : few g
 ·rw [hf] at h; cases h
 ·exact fewG_len hf
end
def numP (t f o : Int) (x : E) : Bool := decide (x.t = t) && (decide (x.f = f) && decide (x.o = o))
def numL (g : G) (t f o : Int) : Nat := (g.e.filter (numP t f o)).length
section
variable (P : Program) (F : String → Nat)
end
section
variable {P : Program} {F : String → Nat} {α : Type}
end
section
structure NIso (a b : G) (l : List Int) : Prop where
 len : l.length = a.n.length
 rng : ∀ i : Nat, i < a.n.length → 0 ≤ gt l (i : Int) ∧ gt l (i : Int) < b.n.length
 inj : ∀ i k : Nat, i < a.n.length → k < a.n.length → gt l (i : Int) = gt l (k : Int) → i = k
 ty : ∀ i : Nat, i < a.n.length → gt a.n (i : Int) = gt b.n (gt l (i : Int))
 num : ∀ (t : Int) (i k : Nat), i < a.n.length → k < a.n.length → numL a t i k = numL b t (gt l (i : Int)) (gt l (k : Int))
end
section
def mapE (l : List Int) (x : E) : E := ⟨x.t, gt l x.f, gt l x.o⟩
theorem NIso.nd {a b : G} {l : List Int} (h : NIso a b l) : l.Nodup := by
 rw [List.nodup_iff_pairwise_ne, List.pairwise_iff_getElem]
 intro i j hi hj hij e
 have hl := h.len
 have := h.inj i j (by omega) (by omega) (by rw [gt_nat hi, gt_nat hj]; exact e)
 omega
theorem NIso.surj {a b : G} {l : List Int} (h : NIso a b l) (hn : a.n.length = b.n.length) {f : Int} (h0 : 0 ≤ f) (h1 : f < b.n.length) : ∃ i : Nat, i < a.n.length ∧ gt l (i : Int) = f := by
 have hl := h.len
 have hp := perm_sub (A := l) (B := (List.range b.n.length).map fun i : Nat => (i : Int)) h.nd (fun x hx => by
  obtain ⟨i, hi, rfl⟩ := List.mem_iff_getElem.1 hx
  have := h.rng i (by omega)
  rw [gt_nat hi] at this
  obtain ⟨n, hn⟩ := Int.eq_ofNat_of_zero_le this.1
  exact List.mem_map.2 ⟨n, List.mem_range.2 (by omega), hn.symm⟩) (by simp; omega)
 have hf : f ∈ l := hp.mem_iff.2 (by
  obtain ⟨n, rfl⟩ := Int.eq_ofNat_of_zero_le h0
  exact List.mem_map.2 ⟨n, List.mem_range.2 (by omega), rfl⟩)
 obtain ⟨i, hi, rfl⟩ := List.mem_iff_getElem.1 hf
 exact ⟨i, by omega, gt_nat hi⟩
theorem NIso.inj' {a b : G} {l : List Int} (h : NIso a b l) {i k : Int} (h1 : 0 ≤ i ∧ i < a.n.length) (h2 : 0 ≤ k ∧ k < a.n.length) (e : gt l i = gt l k) : i = k := by
 obtain ⟨n, rfl⟩ := Int.eq_ofNat_of_zero_le h1.1
 obtain ⟨m, rfl⟩ := Int.eq_ofNat_of_zero_le h2.1
 have := h.inj n m (by omega) (by omega) e
 omega
theorem NIso.rng' {a b : G} {l : List Int} (h : NIso a b l) {i : Int} (h1 : 0 ≤ i ∧ i < a.n.length) : 0 ≤ gt l i ∧ gt l i < b.n.length := by
 obtain ⟨n, rfl⟩ := Int.eq_ofNat_of_zero_le h1.1
 exact h.rng n (by omega)
theorem numP_iff {t f o : Int} {x : E} : numP t f o x = true ↔ x = ⟨t, f, o⟩ := by
 obtain ⟨a, b, c⟩ := x
 simp [numP]
theorem numL_count (g : G) (t f o : Int) : numL g t f o = g.e.count ⟨t, f, o⟩ := by
 rw [numL, List.count_eq_countP, List.countP_eq_length_filter]
 congr 1
 refine List.filter_congr fun x _ => ?_
 rw [Bool.eq_iff_iff, numP_iff, beq_iff_eq]
theorem NIso.edges {a b : G} {l : List Int} (h : NIso a b l) (va : InG a) (vb : InG b) (hn : a.n.length = b.n.length) : (a.e.map (mapE l)).Perm b.e := by
 rw [List.perm_iff_count]
 rintro ⟨t, f, o⟩
 by_cases hf : (0 ≤ f ∧ f < b.n.length) ∧ (0 ≤ o ∧ o < b.n.length)
 ·obtain ⟨i, hi, rfl⟩ := h.surj hn hf.1.1 hf.1.2
  obtain ⟨k, hk, rfl⟩ := h.surj hn hf.2.1 hf.2.2
  rw [← numL_count, ← h.num t i k hi hk, numL_count, List.count_eq_countP, List.count_eq_countP, List.countP_map]
  refine List.countP_congr fun x hx => ?_
  have hv := va.2.2 x hx
  obtain ⟨xt, xf, xo⟩ := x
  simp only [Function.comp_apply, mapE, beq_iff_eq, E.mk.injEq] at hv ⊢
  constructor
  ·rintro ⟨h1, h2, h3⟩
   exact ⟨h1, h.inj' ⟨hv.1, hv.2.1⟩ ⟨by omega, by omega⟩ h2, h.inj' ⟨hv.2.2.1, hv.2.2.2⟩ ⟨by omega, by omega⟩ h3⟩
  ·rintro ⟨rfl, rfl, rfl⟩
   exact ⟨rfl, rfl, rfl⟩
 ·rw [List.count_eq_zero.2, List.count_eq_zero.2]
  ·intro hm
   have := vb.2.2 _ hm
   simp only at this
   omega
  ·intro hm
   obtain ⟨x, hx, e⟩ := List.mem_map.1 hm
   have hv := va.2.2 x hx
   have h1 := h.rng' (i := x.f) ⟨by omega, by omega⟩
   have h2 := h.rng' (i := x.o) ⟨by omega, by omega⟩
   simp only [mapE, E.mk.injEq] at e
   omega
theorem NIso.sgn {a b : G} {l ca cb : List Int} (h : NIso a b l) (va : InG a) (vb : InG b) (hn : a.n.length = b.n.length) (hc : ∀ i : Nat, i < a.n.length → gt ca (i : Int) = gt cb (gt l (i : Int))) {i j : Nat} (hi : i < a.n.length) (hj : gt l (i : Int) = j) :
  sgnO a.e ca i = sgnO b.e cb j := by
 have hc' : ∀ i : Int, 0 ≤ i → i < a.n.length → gt ca i = gt cb (gt l i) := fun i h0 h1 => by
  obtain ⟨n, rfl⟩ := Int.eq_ofNat_of_zero_le h0
  exact hc n (by omega)
 unfold sgnO
 rw [hc i hi, hj]
 congr 2
 refine sorted_one scmp_cmp (sortL_sorted _) (sortL_sorted _) ((sortL_perm _).trans (List.Perm.trans ?_ (sortL_perm _).symm))
 have hp := (h.edges va vb hn).flatMap_right (trE cb j)
 have e : trL a.e ca i = (a.e.map (mapE l)).flatMap (trE cb j) := by
  rw [List.flatMap_map, trL]
  refine flatMap_congr' fun x hx => ?_
  have hv := va.2.2 x hx
  refine trE_sh rfl ?_ ?_ (hc' _ (by omega) (by omega)) (hc' _ (by omega) (by omega))
  ·simp only [mapE]
   rw [← hj]
   exact ⟨fun e => by rw [e], fun e => h.inj' ⟨by omega, by omega⟩ ⟨by omega, by omega⟩ e⟩
  ·simp only [mapE]
   rw [← hj]
   exact ⟨fun e => by rw [e], fun e => h.inj' ⟨by omega, by omega⟩ ⟨by omega, by omega⟩ e⟩
 rw [e]
 exact hp
end
section
def Car (a : G) (l : List Int) (x y : List (List Int)) : Prop := ∀ i : Nat, i < a.n.length → gt x (i : Int) = gt y (gt l (i : Int))
theorem gt_map_c {x : List (List Int)} {f : List Int → Int} {i : Int} (h0 : 0 ≤ i) (h : i < x.length) : gt (x.map f) i = f (gt x i) := by
 obtain ⟨n, rfl⟩ := Int.eq_ofNat_of_zero_le h0
 rw [gt_nat (by simp; omega), gt_nat (by omega)]
 simp
theorem Car.next {a b : G} {l : List Int} {x y : List (List Int)} (h : Car a l x y) (hl : NIso a b l) (va : InG a) (vb : InG b) (hn : a.n.length = b.n.length) (hx : x.length = a.n.length) (hy : y.length = b.n.length) (S : List (List Int)) :
  Car a l (nextL a (colA x S)) (nextL b (colA y S)) := fun i hi => by
 have hr := hl.rng i hi
 obtain ⟨j, hj⟩ := Int.eq_ofNat_of_zero_le hr.1
 rw [nextL_gt hi, hj, nextL_gt (by omega)]
 refine hl.sgn va vb hn (fun k hk => ?_) hi hj
 have hrk := hl.rng k hk
 rw [colA, colA, gt_map_c (by omega) (by omega), gt_map_c hrk.1 (by omega), h k hk]
theorem Car.first {a b : G} {l : List Int} (hl : NIso a b l) : Car a l (frstL a) (frstL b) := fun i hi => by
 have hr := hl.rng i hi
 have ht := hl.ty i hi
 obtain ⟨j, hj⟩ := Int.eq_ofNat_of_zero_le hr.1
 rw [hj] at ht hr ⊢
 rw [gt_nat (by rw [frstL_length]; omega), gt_nat (by rw [frstL_length]; omega)]
 simp only [frstL, List.getElem_map]
 rw [gt_nat hi, gt_nat (by omega)] at ht
 rw [ht]
theorem Car.mem {a b : G} {l : List Int} {x y : List (List Int)} (h : Car a l x y) (hl : NIso a b l) (hn : a.n.length = b.n.length) (hx : x.length = a.n.length) (hy : y.length = b.n.length) (z : List Int) : z ∈ x ↔ z ∈ y := by
 constructor
 ·intro hz
  obtain ⟨i, hi, rfl⟩ := List.mem_iff_getElem.1 hz
  have := h i (by omega)
  rw [gt_nat hi] at this
  rw [this]
  have hr := hl.rng i (by omega)
  exact gt_mem hr.1 (by omega)
 ·intro hz
  obtain ⟨j, hj, rfl⟩ := List.mem_iff_getElem.1 hz
  obtain ⟨i, hi, e⟩ := hl.surj hn (f := (j : Int)) (by omega) (by omega)
  have := h i hi
  rw [e, gt_nat hj] at this
  rw [← this]
  exact gt_mem (by omega) (by omega)
end
end Go.Am
