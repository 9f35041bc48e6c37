/- slices.Concat; disjoint unions. -/
import Derived.Test.YtelmgaflhmcihaaGreatSpPa
import Derived.Test.YtelmgaflhmcihaaGreatSpPb
namespace Go.Am
open Go
set_option linter.unusedVariables false
set_option linter.unusedSimpArgs false
@[go_sem] def c_slices_Grow_I_r0 : LL := [qn 4 1]
@[go_sem] def c_slices_Grow_I_r1 : LL := [qm 5 1,qk .lss 6 5 0]
@[go_sem] def c_slices_Grow_I_r2 : LL := [⟨some 7,.bad,none⟩,⟨none,.bad,none⟩]
@[go_sem] def c_slices_Grow_I_r3 : LL := [qm 8 1,qm 9 0,⟨some 10,.cap (.t 9),none⟩,qm 11 0,qz 12 11,qo .sub 13 10 12,qo .sub 14 8 13,qm 1 14]
@[go_sem] def c_slices_Grow_I_r4 : LL := [qm 15 1,qk .gtr 16 15 0]
@[go_sem] def c_slices_Grow_I_r5 : LL := [qm 17 0,qm 18 0,⟨some 19,.cap (.t 18),none⟩,⟨some 20,.slc 1 (.t 17) none (some (.t 19)),none⟩,qm 21 1,⟨some 22,.appz 1 8 (.int .i64 (0)) (.t 20) (.t 21),none⟩,qm 23 0,
 qz 24 23,⟨some 25,.slc 1 (.t 22) none (some (.t 24)),none⟩,qm 0 25]
@[go_sem] def c_slices_Grow_I_r6 : LL := [qm 26 0,qm 4 26]
@[go_sem] def c_slices_Grow_I (F : Fn) : LC := (.seq (.reg c_slices_Grow_I_r0 [0,1]) (.seq (.seq (.reg c_slices_Grow_I_r1 [0,1,6]) (.cond (.t 6) (.reg c_slices_Grow_I_r2 [0,1]) .skip)) (.seq (.seq (.reg c_slices_Grow_I_r3 [0,1]) (.seq (.reg c_slices_Grow_I_r4 [0,1,16]) (.cond (.t 16) (.reg c_slices_Grow_I_r5 [0]) .skip))) (.seq (.reg c_slices_Grow_I_r6 [4]) .ret))))
def h_slices_Grow_I : Hints := hOf [] (c_slices_Grow_I fun _ => 0)
@[go_sem] def c_slices_Concat_I_r0 : LL := [qn 2 1]
@[go_sem] def c_slices_Concat_I_r1 : LL := [qi 3 0]
@[go_sem] def c_slices_Concat_I_r2 : LL := [qm 9 0,qz 10 9,qi 11 0]
@[go_sem] def c_slices_Concat_I_r3 : LL := [qo .lss 12 11 10]
@[go_sem] def c_slices_Concat_I_r4 : LL := [qd 13 1 9 11,ql 14 1 13,qm 5 14]
@[go_sem] def c_slices_Concat_I_r5 : LL := [qm 15 3,qm 16 5,qz 17 16,qo .add 18 15 17,qm 3 18]
@[go_sem] def c_slices_Concat_I_r6 : LL := [qm 19 3,qk .lss 20 19 0]
@[go_sem] def c_slices_Concat_I_r7 : LL := [⟨some 21,.bad,none⟩,⟨none,.bad,none⟩]
@[go_sem] def c_slices_Concat_I_r8 : LL := [qk .add 22 11 1,qm 11 22]
def c_slices_Concat_I_b9 : LC := (.seq (.reg c_slices_Concat_I_r3 [0,3,9,10,11,12]) (.seq (.cond (.t 12) .skip (.exit 0)) (.seq (.block 1 (.seq (.reg c_slices_Concat_I_r4 [0,3,5,9,10,11]) (.seq (.reg c_slices_Concat_I_r5 [0,3,9,10,11]) (.seq (.reg c_slices_Concat_I_r6 [0,3,9,10,11,20]) (.cond (.t 20) (.reg c_slices_Concat_I_r7 [0,3,9,10,11]) .skip))))) (.reg c_slices_Concat_I_r8 [0,3,9,10,11]))))
@[go_sem] def c_slices_Concat_I_r10 (F : Fn) : LL := [qm 23 3,qc 24 (F "slices.Grow.I") [.k (.nl 0),.t 23],qm 6 24]
@[go_sem] def c_slices_Concat_I_r11 : LL := [qm 25 0,qz 26 25,qi 27 0]
@[go_sem] def c_slices_Concat_I_r12 : LL := [qo .lss 28 27 26]
@[go_sem] def c_slices_Concat_I_r13 : LL := [qd 29 1 25 27,ql 30 1 29,qm 8 30]
@[go_sem] def c_slices_Concat_I_r14 : LL := [qm 31 6,qm 32 8,qp 33 1 8 31 32,qm 6 33]
@[go_sem] def c_slices_Concat_I_r15 : LL := [qk .add 34 27 1,qm 27 34]
def c_slices_Concat_I_b16 : LC := (.seq (.reg c_slices_Concat_I_r12 [6,25,26,27,28]) (.seq (.cond (.t 28) .skip (.exit 2)) (.seq (.block 3 (.seq (.reg c_slices_Concat_I_r13 [6,8,25,26,27]) (.reg c_slices_Concat_I_r14 [6,25,26,27]))) (.reg c_slices_Concat_I_r15 [6,25,26,27]))))
@[go_sem] def c_slices_Concat_I_r17 : LL := [qm 35 6,qm 2 35]
@[go_sem] def c_slices_Concat_I (F : Fn) : LC := (.seq (.reg c_slices_Concat_I_r0 [0]) (.seq (.reg c_slices_Concat_I_r1 [0,3]) (.seq (.seq (.reg c_slices_Concat_I_r2 [0,3,9,10,11]) (.block 0 (.loop [0,3,9,10,11] c_slices_Concat_I_b9))) (.seq (.reg (c_slices_Concat_I_r10 F) [0,6]) (.seq (.seq (.reg c_slices_Concat_I_r11 [6,25,26,27]) (.block 2 (.loop [6,25,26,27] c_slices_Concat_I_b16))) (.seq (.reg c_slices_Concat_I_r17 [2]) .ret))))))
def h_slices_Concat_I : Hints := hOf [] (c_slices_Concat_I fun _ => 0)
@[go_sem] def c_graph_Union_r0 : LL := [qB 2 0,qB 3 1,qa 4 [.nl 1,.nl 3],qa 5 [.nl 1,.nl 1],qa 6 [.nl 1,.nl 1],qi 7 0]
@[go_sem] def c_graph_Union_r1 : LL := [qL 18 2 2,qL 19 2 3,⟨some 20,.buildSl 2 48 (.agg [.lst 1 [],.lst 3 []]) 2 [(0,.t 18),(1,.t 19)],none⟩,qz 21 20,qi 22 0]
@[go_sem] def c_graph_Union_r2 : LL := [qo .lss 23 22 21]
@[go_sem] def c_graph_Union_r3 : LL := [qd 24 2 20 22,qL 25 2 24,qa 9 [.nl 1,.nl 3],qs 2 9 25]
@[go_sem] def c_graph_Union_r4 (F : Fn) : LL := [qL 26 2 9,qc 27 (F "graph.Valid") [.t 26],qm 10 27]
@[go_sem] def c_graph_Union_r5 : LL := [qm 28 10,qk .neq 29 28 0]
@[go_sem] def c_graph_Union_r6 : LL := [qu 30 [.nl 1,.nl 3] [],qu 31 [.nl 1,.nl 1] [],qu 32 [.nl 1,.nl 1] [],qm 33 10,qs 2 4 30,qs 2 5 31,qs 2 6 32,qm 7 33]
@[go_sem] def c_graph_Union_r7 : LL := [qk .add 34 22 1,qm 22 34]
def c_graph_Union_b8 (F : Fn) : LC := (.seq (.reg c_graph_Union_r2 [2,3,4,5,6,20,21,22,23]) (.seq (.cond (.t 23) .skip (.exit 0)) (.seq (.block 1 (.seq (.reg c_graph_Union_r3 [2,3,4,5,6,9,20,21,22]) (.seq (.reg (c_graph_Union_r4 F) [2,3,4,5,6,10,20,21,22]) (.seq (.reg c_graph_Union_r5 [2,3,4,5,6,10,20,21,22,29]) (.cond (.t 29) (.seq (.reg c_graph_Union_r6 [4,5,6,7]) .ret) .skip))))) (.reg c_graph_Union_r7 [2,3,4,5,6,20,21,22]))))
@[go_sem] def c_graph_Union_r9 : LL := [qf 35 0 2,ql 36 1 35,qz 37 36,qf 38 1 2,ql 39 1 38,qz 40 39,qm 11 37,qm 12 40]
@[go_sem] def c_graph_Union_r10 : LL := [qm 41 11,qf 42 0 3,ql 43 1 42,qz 44 43,qo .add 45 41 44,qk .gtr 46 45 40,qm 47 46,qg 47 false (qm 48 12),qg 47 false (qf 49 1 3),qg 47 false (ql 50 1 49),qg 47 false (qz 51 50),
 qg 47 false (qo .add 52 48 51),qg 47 false (qk .gtr 53 52 80),qQ 54 47 53]
@[go_sem] def c_graph_Union_r11 : LL := [qu 55 [.nl 1,.nl 3] [],qu 56 [.nl 1,.nl 1] [],qu 57 [.nl 1,.nl 1] [],qs 2 4 55,qs 2 5 56,qs 2 6 57,qi 7 3]
@[go_sem] def c_graph_Union_r12 (F : Fn) : LL := [qf 58 0 2,ql 59 1 58,qf 60 0 3,ql 61 1 60,⟨some 62,.buildSl 1 24 (.lst 1 []) 2 [(0,.t 59),(1,.t 61)],none⟩,qc 63 (F "slices.Concat.I") [.t 62],qf 64 1 2,ql 65 1 64,qc 66 (F "slices.Clone.E") [.t 65],
 qu 67 [.nl 1,.nl 3] [(0,1,.t 63),(1,1,.t 66)],qa 13 [.nl 1,.nl 3],qs 2 13 67]
@[go_sem] def c_graph_Union_r13 : LL := [qf 68 1 3,ql 69 1 68,qz 70 69,qi 71 0]
@[go_sem] def c_graph_Union_r14 : LL := [qo .lss 72 71 70]
@[go_sem] def c_graph_Union_r15 : LL := [qd 73 3 69 71,qL 74 3 73,qa 15 [.int .i64 (0),.int .i64 (0),.int .i64 (0)],qs 3 15 74]
@[go_sem] def c_graph_Union_r16 : LL := [qf 75 1 13,ql 76 1 75,qf 77 0 15,ql 78 1 77,qf 79 1 15,ql 80 1 79,qm 81 11,qo .add 82 80 81,qf 83 2 15,ql 84 1 83,qm 85 11,qo .add 86 84 85,
 qu 87 [.int .i64 (0),.int .i64 (0),.int .i64 (0)] [(0,1,.t 78),(1,1,.t 82),(2,1,.t 86)],
 ⟨some 88,.buildSl 3 24 (.agg [.int .i64 (0),.int .i64 (0),.int .i64 (0)]) 1 [(0,.t 87)],none⟩,qp 89 3 24 76 88,qf 90 1 13,qs 1 90 89]
@[go_sem] def c_graph_Union_r17 : LL := [qk .add 91 71 1,qm 71 91]
def c_graph_Union_b18 : LC := (.seq (.reg c_graph_Union_r14 [3,4,5,6,11,12,13,69,70,71,72]) (.seq (.cond (.t 72) .skip (.exit 2)) (.seq (.block 3 (.seq (.reg c_graph_Union_r15 [3,4,5,6,11,12,13,15,69,70,71]) (.reg c_graph_Union_r16 [3,4,5,6,11,12,13,69,70,71]))) (.reg c_graph_Union_r17 [3,4,5,6,11,12,13,69,70,71]))))
@[go_sem] def c_graph_Union_r19 (F : Fn) : LL := [qm 92 11,qc 93 (F "graph.numbers") [.k (.int .i64 (0)),.t 92],qm 94 12,qc 95 (F "graph.numbers") [.k (.int .i64 (0)),.t 94],qu 96 [.nl 1,.nl 1] [(0,1,.t 93),(1,1,.t 95)],qa 16 [.nl 1,.nl 1],
 qs 2 16 96]
@[go_sem] def c_graph_Union_r20 (F : Fn) : LL := [qm 97 11,qf 98 0 3,ql 99 1 98,qz 100 99,qc 101 (F "graph.numbers") [.t 97,.t 100],qm 102 12,qf 103 1 3,ql 104 1 103,qz 105 104,qc 106 (F "graph.numbers") [.t 102,.t 105],
 qu 107 [.nl 1,.nl 1] [(0,1,.t 101),(1,1,.t 106)],qa 17 [.nl 1,.nl 1],qs 2 17 107]
@[go_sem] def c_graph_Union_r21 : LL := [qL 108 2 13,qL 109 2 16,qL 110 2 17,qs 2 4 108,qs 2 5 109,qs 2 6 110,qi 7 0]
@[go_sem] def c_graph_Union (F : Fn) : LC := (.seq (.reg c_graph_Union_r0 [2,3,4,5,6]) (.seq (.seq (.reg c_graph_Union_r1 [2,3,4,5,6,20,21,22]) (.block 0 (.loop [2,3,4,5,6,20,21,22] (c_graph_Union_b8 F)))) (.seq (.dreg [] c_graph_Union_r9 [2,3,4,5,6,11,12]) (.seq (.seq (.reg c_graph_Union_r10 [2,3,4,5,6,11,12,54]) (.cond (.t 54) (.seq (.reg c_graph_Union_r11 [4,5,6,7]) .ret) .skip)) (.seq (.dreg [(4,none,[],true),(5,none,[],true),(7,(some 64),[4,5],false)] (c_graph_Union_r12 F) [3,4,5,6,11,12,13]) (.seq (.seq (.reg c_graph_Union_r13 [3,4,5,6,11,12,13,69,70,71]) (.block 2 (.loop [3,4,5,6,11,12,13,69,70,71] c_graph_Union_b18))) (.seq (.reg (c_graph_Union_r19 F) [3,4,5,6,11,12,13,16]) (.seq (.dreg [(4,none,[],true),(7,(some 64),[4],false)] (c_graph_Union_r20 F) [4,5,6,13,16,17]) (.seq (.dreg [(1,none,[],true),(2,none,[],true),(3,none,[1,2],false),(4,none,[2],false)] c_graph_Union_r21 [4,5,6,7]) .ret)))))))))
def h_graph_Union : Hints := hOf [] (c_graph_Union fun _ => 0)
def shE1 (n : Int) (x : E) : E := ⟨x.t, x.f + n, x.o + n⟩
def uniG (a b : G) : G × Mo × Mo × Int :=
 if validG a ≠ 0 then (⟨[], []⟩, ⟨[], []⟩, ⟨[], []⟩, validG a) else if validG b ≠ 0 then (⟨[], []⟩, ⟨[], []⟩, ⟨[], []⟩, validG b)
 else if 40 < a.n.length + b.n.length ∨ 80 < a.e.length + b.e.length then (⟨[], []⟩, ⟨[], []⟩, ⟨[], []⟩, 3)
 else (⟨a.n ++ b.n, a.e ++ b.e.map (shE1 a.n.length)⟩, ⟨nums 0 a.n.length, nums 0 a.e.length⟩, ⟨nums a.n.length b.n.length, nums a.e.length b.e.length⟩, 0)
def uniD (r : G × Mo × Mo × Int) : D := .tup [gA r.1, mA r.2.1, mA r.2.2.1, .int .i64 r.2.2.2]
section
variable (P : Program) (F : String → Nat)
def K_graph_Union : Prop := ∀ a b : G, FC P (F "graph.Union") [gD a, gD b] (uniD (uniG a b)) []
def K_slices_Grow_I : Prop := ∀ n : Nat, n ≤ 10000000000000 → FC P (F "slices.Grow.I") [.nl 1, .int .i64 n] (.arr 1 []) []
def K_slices_Concat_I : Prop := ∀ a b : List Int, a.length ≤ 1000000000000 → b.length ≤ 1000000000000 → FC P (F "slices.Concat.I") [.lst 1 [.lst 1 (ints a), .lst 1 (ints b)]] (.arr 1 (ints (a ++ b))) []
end
section
variable {P : Program} {F : String → Nat} {α : Type}
def catL (a b : List Int) : Nat → List Int
 | 0 => []
 | 1 => a
 | _ => a ++ b
theorem FC.nl {P : Program} {f a b : Nat} {args : List D} {r : D} {outs : List (Nat × D)} (h : FC P f (.nl a :: args) r outs) : FC P f (.nl b :: args) r outs := by
 unfold FC at *
 simp only [DRs, DR] at *
 exact h
theorem w_slices_Grow_I (n : Nat) (hn : n ≤ 10000000000000) : W P (c_slices_Grow_I F) (Done [.t 4] [] (.arr 1 []) []) (init [.nl 1, .int .i64 n]) := by
 refine W_of ?_
 simp (disch := omega) only [go_sem, ↓reduceIte]
 refine bran_dec (fun c => ?_) (fun c => ?_)
 ·omega
 ·simp (disch := omega) only [go_sem, ↓reduceIte]
  refine bran_dec (fun c => ?_) (fun c => ?_)
  ·simp (disch := omega) only [go_sem, ↓reduceIte]
   rw [if_neg (by omega)]
   rfl
  ·simp (disch := omega) only [go_sem, ↓reduceIte]
theorem w_slices_Concat_I (hg : K_slices_Grow_I P F) (a b : List Int) (ha : a.length ≤ 1000000000000) (hb : b.length ≤ 1000000000000) : W P (c_slices_Concat_I F) (Done [.t 2] [] (.arr 1 (ints (a ++ b))) []) (init [.lst 1 [.lst 1 (ints a), .lst 1 (ints b)]]) := by
 refine W_of ?_
 simp (disch := omega) only [go_sem, ↓reduceIte]
 refine W_loop (fun i : Nat => ⟨[(0, D.lst 1 [D.lst 1 (ints a), D.lst 1 (ints b)]), (3, D.int IntKind.i64 (catL a b i).length), (9, D.lst 1 [D.lst 1 (ints a), D.lst 1 (ints b)]), (10, D.int IntKind.i64 (2 : Nat)), (11, D.int IntKind.i64 i)], [], 0⟩) (fun i => i ≤ 2) (fun i => 2 - i) 0 ?_ ?_ ?_
 ·simp (disch := omega) only [go_sem, ↓reduceIte]
  rfl
 ·omega
 ·intro i hi
  have h3 : i = 0 ∨ i = 1 ∨ i = 2 := by omega
  rcases h3 with rfl | rfl | rfl
  ·simp (disch := omega) only [go_sem, ↓reduceIte, c_slices_Concat_I_b9, catL]
   refine bran_dec (fun c => ?_) (fun c => absurd c (by omega))
   simp (disch := omega) only [go_sem, ↓reduceIte, catL]
   refine bran_dec (fun c => by omega) (fun c => ?_)
   simp (disch := omega) only [go_sem, ↓reduceIte]
   exact ⟨1, by simp [catL], by omega, by omega⟩
  ·simp (disch := omega) only [go_sem, ↓reduceIte, c_slices_Concat_I_b9, catL]
   refine bran_dec (fun c => ?_) (fun c => absurd c (by omega))
   simp (disch := omega) only [go_sem, ↓reduceIte, catL]
   refine bran_dec (fun c => by omega) (fun c => ?_)
   simp (disch := omega) only [go_sem, ↓reduceIte]
   exact ⟨2, by simp [catL], by omega, by omega⟩
  ·simp (disch := omega) only [go_sem, ↓reduceIte, c_slices_Concat_I_b9]
   refine bran_dec (fun c => absurd c (by omega)) (fun c => ?_)
   simp (disch := omega) only [go_sem, ↓reduceIte]
   have r := FC.nl (b := 0) (hg (catL a b 2).length (by simp [catL]; omega))
   refine call_by r ?_
   simp (disch := omega) only [go_sem, ↓reduceIte]
   refine W_loop (fun i : Nat => ⟨[(6, D.sl 0 0 (catL a b i).length), (25, D.lst 1 [D.lst 1 (ints a), D.lst 1 (ints b)]), (26, D.int IntKind.i64 (2 : Nat)), (27, D.int IntKind.i64 i)], [(0, Ent.arr 1 (ints (catL a b i)))], 1⟩) (fun i => i ≤ 2) (fun i => 2 - i) 0 ?_ ?_ ?_
   ·simp (disch := omega) only [go_sem, ↓reduceIte]
    rfl
   ·omega
   ·intro i hi
    have h3 : i = 0 ∨ i = 1 ∨ i = 2 := by omega
    rcases h3 with rfl | rfl | rfl
    ·simp (disch := omega) only [go_sem, ↓reduceIte, c_slices_Concat_I_b16, catL]
     refine bran_dec (fun c => ?_) (fun c => absurd c (by omega))
     simp (disch := omega) only [go_sem, ↓reduceIte, catL]
     exact ⟨1, by simp, by omega, by omega⟩
    ·simp (disch := omega) only [go_sem, ↓reduceIte, c_slices_Concat_I_b16, catL]
     refine bran_dec (fun c => ?_) (fun c => absurd c (by omega))
     simp (disch := omega) only [go_sem, ↓reduceIte, catL]
     exact ⟨2, by simp, by omega, by omega⟩
    ·simp (disch := omega) only [go_sem, ↓reduceIte, c_slices_Concat_I_b16, catL]
     refine bran_dec (fun c => absurd c (by omega)) (fun c => ?_)
     simp (disch := omega) only [go_sem, ↓reduceIte, catL]
theorem w_graph_Union (hv : K_graph_Valid P F) (hc : K_slices_Concat_I P F) (hcl : K_slices_Clone_E P F) (hn : K_graph_numbers P F) (a b : G) : W P (c_graph_Union F) (Done [.c 4 true 2, .c 5 true 2, .c 6 true 2, .t 7] [] (uniD (uniG a b)) []) (init [gD a, gD b]) := by
 refine W_of ?_
 obtain ⟨an, ae⟩ := a
 obtain ⟨bn, be⟩ := b
 simp (disch := omega) only [go_sem, ↓reduceIte, gD]
 refine W_loop (fun i : Nat => ⟨[(2, D.pt 0 0), (3, D.pt 1 0), (4, D.pt 4 0), (5, D.pt 7 0), (6, D.pt 10 0), (20, D.sl 11 0 2), (21, D.int IntKind.i64 (2 : Nat)), (22, D.int IntKind.i64 i)],
   [(0, Ent.box [D.lst 1 (ints an), D.lst 3 (eds ae)]), (1, Ent.box [D.lst 1 (ints bn), D.lst 3 (eds be)]),
    (2, Ent.arr 1 []), (3, Ent.arr 3 []), (4, Ent.box [D.sl 2 0 0, D.sl 3 0 0]), (5, Ent.arr 1 []),
    (6, Ent.arr 1 []), (7, Ent.box [D.sl 5 0 0, D.sl 6 0 0]), (8, Ent.arr 1 []), (9, Ent.arr 1 []),
    (10, Ent.box [D.sl 8 0 0, D.sl 9 0 0]),
    (11, Ent.arr 2 [D.agg [D.lst 1 (ints an), D.lst 3 (eds ae)], D.agg [D.lst 1 (ints bn), D.lst 3 (eds be)]])], 12⟩)
  (fun i => i ≤ 2 ∧ (1 ≤ i → validG ⟨an, ae⟩ = 0) ∧ (2 ≤ i → validG ⟨bn, be⟩ = 0)) (fun i => 2 - i) 0 ?_ ?_ ?_
 ·simp (disch := omega) only [go_sem, ↓reduceIte]
  rfl
 ·simp
 ·rintro i ⟨hi, p1, p2⟩
  have h3 : i = 0 ∨ i = 1 ∨ i = 2 := by omega
  rcases h3 with rfl | rfl | rfl
  ·simp (disch := omega) only [go_sem, ↓reduceIte, c_graph_Union_b8]
   refine bran_dec (fun c => ?_) (fun c => absurd c (by omega))
   simp (disch := omega) only [go_sem, ↓reduceIte]
   refine call_by (hv ⟨an, ae⟩) ?_
   simp (disch := omega) only [go_sem, ↓reduceIte]
   refine bran_ndec (fun c1 => ?_) (fun c1 => ?_)
   ·simp (disch := omega) only [go_sem, ↓reduceIte]
    simp [uniG, c1, uniD, gA, mA, ints, eds]
   ·simp (disch := omega) only [go_sem, ↓reduceIte]
    exact ⟨1, by simp, ⟨by omega, fun _ => c1, by omega⟩, by omega⟩
  ·have c1 := p1 (by omega)
   simp (disch := omega) only [go_sem, ↓reduceIte, c_graph_Union_b8]
   refine bran_dec (fun c => ?_) (fun c => absurd c (by omega))
   simp (disch := omega) only [go_sem, ↓reduceIte]
   refine call_by (hv ⟨bn, be⟩) ?_
   simp (disch := omega) only [go_sem, ↓reduceIte]
   refine bran_ndec (fun c2 => ?_) (fun c2 => ?_)
   ·simp (disch := omega) only [go_sem, ↓reduceIte]
    simp [uniG, c1, c2, uniD, gA, mA, ints, eds]
   ·simp (disch := omega) only [go_sem, ↓reduceIte]
    exact ⟨2, by simp, ⟨by omega, fun _ => c1, fun _ => c2⟩, by omega⟩
  ·have c1 := p1 (by omega)
   have c2 := p2 (by omega)
   obtain ⟨v1, v2, v3, v4⟩ := valid_spec c1
   simp only at v1 v2 v3 v4
   obtain ⟨u1, u2, u3, u4⟩ := valid_spec c2
   simp only at u1 u2 u3 u4
   simp (disch := omega) only [go_sem, ↓reduceIte, c_graph_Union_b8]
   refine bran_dec (fun c => absurd c (by omega)) (fun c => ?_)
   simp (disch := omega) only [go_sem, ↓reduceIte]
   have big : 40 < an.length + bn.length ∨ 80 < ae.length + be.length → uniG ⟨an, ae⟩ ⟨bn, be⟩ = (⟨[], []⟩, ⟨[], []⟩, ⟨[], []⟩, 3) := fun h => by
    simp only [uniG, c1, c2, ne_eq, not_true_eq_false, if_false, if_pos h]
   refine bran_dec (fun c3 => ?_) (fun c3 => ?_)
   ·simp (disch := omega) only [go_sem, ↓reduceIte, c3]
    rw [big (by omega)]
    simp [uniD, gA, mA, ints, eds]
   ·simp (disch := omega) only [go_sem, ↓reduceIte, c3]
    refine bran_dec (fun c4 => ?_) (fun c4 => ?_)
    ·simp (disch := omega) only [go_sem, ↓reduceIte]
     rw [big (by omega)]
     simp [uniD, gA, mA, ints, eds]
    ·have hg : uniG ⟨an, ae⟩ ⟨bn, be⟩ = (⟨an ++ bn, ae ++ be.map (shE1 an.length)⟩, ⟨nums 0 an.length, nums 0 ae.length⟩, ⟨nums an.length bn.length, nums ae.length be.length⟩, 0) := by
      simp only [uniG, c1, c2, ne_eq, not_true_eq_false, if_false]
      rw [if_neg (by omega)]
     simp (disch := omega) only [go_sem, ↓reduceIte]
     refine call_by (hc an bn (by omega) (by omega)) ?_
     simp (disch := omega) only [go_sem, ↓reduceIte]
     refine call_by (hcl ae (by omega)) ?_
     simp (disch := omega) only [go_sem, ↓reduceIte]
     refine W_loop (fun i : Nat => ⟨[(3, D.pt 0 0), (4, D.pt 3 0), (5, D.pt 6 0), (6, D.pt 9 0), (11, D.int IntKind.i64 an.length),
       (12, D.int IntKind.i64 ae.length), (13, D.pt 12 0), (69, D.lst 3 (eds be)), (70, D.int IntKind.i64 be.length), (71, D.int IntKind.i64 i)],
      [(0, Ent.box [D.lst 1 (ints bn), D.lst 3 (eds be)]), (1, Ent.arr 1 []), (2, Ent.arr 3 []), (3, Ent.box [D.sl 1 0 0, D.sl 2 0 0]), (4, Ent.arr 1 []), (5, Ent.arr 1 []), (6, Ent.box [D.sl 4 0 0, D.sl 5 0 0]),
       (7, Ent.arr 1 []), (8, Ent.arr 1 []), (9, Ent.box [D.sl 7 0 0, D.sl 8 0 0]), (10, Ent.arr 1 (ints (an ++ bn))), (11, Ent.arr 3 (eds (ae ++ (be.take i).map (shE1 an.length)))),
       (12, Ent.box [D.sl 10 0 (an.length + bn.length), D.sl 11 0 (ae.length + i)])], 13⟩) (fun i => i ≤ be.length) (fun i => be.length - i) 0 ?_ ?_ ?_
     ·simp (disch := omega) only [go_sem, ↓reduceIte]
      simp
     ·omega
     ·intro i hi
      have el : (ae ++ (be.take i).map (shE1 an.length)).length = ae.length + i := by simp; omega
      simp (disch := omega) only [go_sem, ↓reduceIte, c_graph_Union_b18]
      refine bran_dec (fun c => ?_) (fun c => ?_)
      ·have hf := fits_spec (u4 _ (gt_mem (by omega) c))
       simp (disch := omega) only [go_sem, ↓reduceIte, el]
       exact ⟨i + 1, by rw [take_gt (by omega)]; simp [shE1, Nat.add_assoc], by omega, by omega⟩
      ·obtain rfl : i = be.length := by omega
       simp (disch := omega) only [go_sem, ↓reduceIte, el]
       refine call_by (hn _ _ (by omega) (by omega) (by omega)) ?_
       simp (disch := omega) only [go_sem, ↓reduceIte, nums_len]
       refine call_by (hn _ _ (by omega) (by omega) (by omega)) ?_
       simp (disch := omega) only [go_sem, ↓reduceIte, nums_len]
       refine call_by (hn _ _ (by omega) (by omega) (by omega)) ?_
       simp (disch := omega) only [go_sem, ↓reduceIte, nums_len]
       refine call_by (hn _ _ (by omega) (by omega) (by omega)) ?_
       simp (disch := omega) only [go_sem, ↓reduceIte, nums_len, List.length_map]
       rw [hg]
       simp [uniD, gA, mA]
end
def unG (a b : G) : G := ⟨a.n ++ b.n, a.e ++ b.e.map (shE1 a.n.length)⟩
def inR (a b : G) : Mo := ⟨nums a.n.length b.n.length, nums a.e.length b.e.length⟩
def cop (h k : Mo) : Mo := ⟨h.n ++ k.n, h.e ++ k.e⟩
def Big (b c : G) : Prop := 40 < b.n.length + c.n.length ∨ 80 < b.e.length + c.e.length
instance (b c : G) : Decidable (Big b c) := inferInstanceAs (Decidable (_ ∨ _))
structure Sp where
 a : G
 b : G
 c : G
 f : Mo
 g : Mo
 deriving DecidableEq, Inhabited
def spE (s : Sp) : Int := if validM s.a s.b s.f ≠ 0 then validM s.a s.b s.f else validM s.a s.c s.g
def poErr (s : Sp) : Int := if spE s ≠ 0 then spE s else if Big s.b s.c then 3 else 0
def poF (s : Sp) : Mo := thenM s.f (idM s.b)
def poH (s : Sp) : Mo := thenM s.g (inR s.b s.c)
def poG (s : Sp) : G := gluG (unG s.b s.c) (poF s) (poH s)
def poQ (s : Sp) : Mo := gluM (unG s.b s.c) (poF s) (poH s)
def poP (s : Sp) : Mo := thenM (idM s.b) (poQ s)
def poK (s : Sp) : Mo := thenM (inR s.b s.c) (poQ s)
def poR (s : Sp) : G × Mo × Mo × Int := if poErr s = 0 then (poG s, poP s, poK s, 0) else (g0, m0, m0, poErr s)
def ontoL (n : Nat) (p h q k : List Int) : List Int := setL k q (setL h p (List.replicate n 0) p.length) q.length
def medU (s : Sp) (h k : Mo) : Mo := ⟨ontoL (poG s).n.length (poP s).n h.n (poK s).n k.n, ontoL (poG s).e.length (poP s).e h.e (poK s).e k.e⟩
def cocE (s : Sp) (x : G) (h k : Mo) : Int := if spE s ≠ 0 then spE s else if validM s.b x h ≠ 0 then validM s.b x h else if validM s.c x k ≠ 0 then validM s.c x k else if Big s.b s.c then 3 else if thenM s.f h = thenM s.g k then 0 else 11
def medP (s : Sp) (x : G) (h k : Mo) : Mo × Int := if cocE s x h k = 0 then (medU s h k, 0) else (m0, cocE s x h k)
def chkP (s : Sp) (x : G) (h k : Mo) : Bool := decide (cocE s x h k = 0) && (injM (poG s) x (medU s h k) && surM (poG s) x (medU s h k))
section
theorem nums_gtF {f : Int} {n i : Nat} (hi : i < n) : gt (nums f n) i = f + i := by
 unfold nums
 rw [gt_nat (by simp; exact hi)]
 simp
theorem gt_appL {α : Type} [Inhabited α] {l m : List α} {i : Nat} (h : i < l.length) : gt (l ++ m) i = gt l i := by
 rw [gt_nat (by simp; omega), gt_nat h, List.getElem_append_left h]
theorem gt_appR {α : Type} [Inhabited α] {l m : List α} {i : Nat} (h : i < m.length) : gt (l ++ m) ((l.length : Int) + i) = gt m i := by
 rw [show (l.length : Int) + i = ((l.length + i : Nat) : Int) by omega, gt_nat (by simp; omega), gt_nat h, List.getElem_append_right (by omega)]
 simp
theorem thr_assoc {l b c : List Int} (h : ∀ i : Nat, i < l.length → 0 ≤ gt l i ∧ gt l i < b.length) : thr (thr l b) c = thr l (thr b c) :=
 list_ext_gt (by simp only [thr_len]) fun i hi => by
  rw [thr_len, thr_len] at hi
  obtain ⟨k, hk, hk2⟩ := gtI (h i hi)
  rw [thr_gt (by rw [thr_len]; exact hi), thr_gt hi, thr_gt hi, hk2, thr_gt hk]
theorem then_assoc {a b c : G} {m n o : Mo} (hm : MOk a b m) (hn : MOk b c n) : thenM (thenM m n) o = thenM m (thenM n o) := by
 have l1 := hn.ln
 have l2 := hn.le
 refine mo_ext (thr_assoc fun i hi => ?_) (thr_assoc fun i hi => ?_)
 ·rw [l1]; exact (hm.nd i (by rw [← hm.ln]; exact hi)).1
 ·rw [l2]; exact (hm.ed i (by rw [← hm.le]; exact hi)).1
theorem then_okP {a b c : G} {m n : Mo} (hm : MOk a b m) (hn : MOk b c n) : MOk a c (thenM m n) := by
 have l1 := hm.ln
 have l2 := hm.le
 refine ⟨hm.va, hn.vb, by simp only [thenM, thr_len]; exact l1, by simp only [thenM, thr_len]; exact l2, fun i hi => ?_, fun i hi => ?_⟩
 ·obtain ⟨h1, h2⟩ := hm.nd i hi
  obtain ⟨k, hk, hk2⟩ := gtI h1
  simp only [thenM]
  rw [thr_gt (by omega), hk2]
  rw [hk2] at h2
  obtain ⟨h3, h4⟩ := hn.nd k hk
  exact ⟨h3, by rw [h4, h2]⟩
 ·obtain ⟨h1, h2, h3, h4⟩ := hm.ed i hi
  obtain ⟨k, hk, hk2⟩ := gtI h1
  obtain ⟨_, f1, f2⟩ := edge_fits hm.va (i := i) (by omega)
  obtain ⟨p, hp, hp2⟩ := gtI f1
  obtain ⟨q, hq, hq2⟩ := gtI f2
  simp only [thenM]
  rw [thr_gt (by omega), hk2]
  rw [hk2] at h2 h3 h4
  obtain ⟨g1, g2, g3, g4⟩ := hn.ed k hk
  refine ⟨g1, by rw [h2, g2], ?_, ?_⟩
  ·rw [hp2, thr_gt (by omega), ← g3, ← h3, hp2]
  ·rw [hq2, thr_gt (by omega), ← g4, ← h4, hq2]
theorem un_len (b c : G) : (unG b c).n.length = b.n.length + c.n.length ∧ (unG b c).e.length = b.e.length + c.e.length := by simp [unG]
theorem un_ok {b c : G} (vb : validG b = 0) (vc : validG c = 0) (hs : ¬ Big b c) : validG (unG b c) = 0 := by
 have v1 := valid_spec vb
 have v2 := valid_spec vc
 have hl := un_len b c
 unfold Big at hs
 refine valid_mk (by omega) (by omega) (fun x hx => ?_) (fun x hx => ?_)
 ·rcases List.mem_append.1 hx with hx | hx
  ·exact v1.2.2.1 x hx
  ·exact v2.2.2.1 x hx
 ·rw [hl.1]
  rcases List.mem_append.1 hx with hx | hx
  ·have := fits_spec (v1.2.2.2 x hx)
   exact fits_mk this.1 (by omega) (by omega)
  ·obtain ⟨y, hy, rfl⟩ := List.mem_map.1 hx
   have := fits_spec (v2.2.2.2 y hy)
   exact fits_mk this.1 (by simp only [shE1]; omega) (by simp only [shE1]; omega)
theorem inL_ok {b c : G} (vb : validG b = 0) (vc : validG c = 0) (hs : ¬ Big b c) : MOk b (unG b c) (idM b) := by
 have hl := un_len b c
 have hi := idM_ok vb
 refine ⟨vb, un_ok vb vc hs, hi.ln, hi.le, fun i h => ?_, fun i h => ?_⟩
 ·simp only [idM, unG]
  rw [nums_gt h, gt_appL h]
  exact ⟨by simp; omega, rfl⟩
 ·obtain ⟨h1, h2, h3, h4⟩ := hi.ed i h
  simp only [idM, unG] at *
  rw [nums_gt h] at h2 h3 h4 ⊢
  rw [gt_appL h]
  exact ⟨by simp; omega, h2, h3, h4⟩
theorem inR_ok {b c : G} (vb : validG b = 0) (vc : validG c = 0) (hs : ¬ Big b c) : MOk c (unG b c) (inR b c) := by
 have hl := un_len b c
 refine ⟨vc, un_ok vb vc hs, by simp [inR, nums_len], by simp [inR, nums_len], fun i h => ?_, fun i h => ?_⟩
 ·simp only [inR, unG]
  rw [nums_gtF h, gt_appR h]
  exact ⟨by simp; omega, rfl⟩
 ·obtain ⟨_, t2, t3⟩ := edge_fits vc (i := i) (by omega)
  obtain ⟨p, hp, hp2⟩ := gtI t2
  obtain ⟨q, hq, hq2⟩ := gtI t3
  simp only [inR, unG]
  rw [nums_gtF h, gt_appR (by simpa using h), gt_map h]
  refine ⟨by simp; omega, rfl, ?_, ?_⟩
  ·simp only [shE1]
   rw [hp2, nums_gtF hp]; omega
  ·simp only [shE1]
   rw [hq2, nums_gtF hq]; omega
theorem split_i {b c i : Nat} (h : i < b + c) : i < b ∨ ∃ j : Nat, j < c ∧ i = b + j := by
 by_cases x : i < b
 ·exact .inl x
 ·exact .inr ⟨i - b, by omega, by omega⟩
theorem cop_gtN {b c x : G} {h k : Mo} (hh : MOk b x h) (hk : MOk c x k) {i : Nat} (hi : i < c.n.length) : gt (cop h k).n ((b.n.length : Int) + i) = gt k.n i := by
 have := hh.ln
 have := hk.ln
 simp only [cop]
 rw [← hh.ln, gt_appR (by omega)]
theorem cop_gtE {b c x : G} {h k : Mo} (hh : MOk b x h) (hk : MOk c x k) {i : Nat} (hi : i < c.e.length) : gt (cop h k).e ((b.e.length : Int) + i) = gt k.e i := by
 have := hh.le
 have := hk.le
 simp only [cop]
 rw [← hh.le, gt_appR (by omega)]
theorem cop_ok {b c x : G} {h k : Mo} (hh : MOk b x h) (hk : MOk c x k) (hs : ¬ Big b c) : MOk (unG b c) x (cop h k) := by
 have hl := un_len b c
 have l1 := hh.ln
 have l2 := hh.le
 have l3 := hk.ln
 have l4 := hk.le
 have cl : ∀ i : Nat, i < b.n.length → gt (cop h k).n i = gt h.n i := fun i hi => gt_appL (by omega)
 have ce : ∀ i : Nat, i < b.e.length → gt (cop h k).e i = gt h.e i := fun i hi => gt_appL (by omega)
 have ul : ∀ i : Nat, i < b.n.length → gt (unG b c).n i = gt b.n i := fun i hi => gt_appL (by omega)
 have ue : ∀ i : Nat, i < b.e.length → gt (unG b c).e i = gt b.e i := fun i hi => gt_appL (by omega)
 refine ⟨un_ok hh.va hk.va hs, hh.vb, by rw [hl.1]; simp [cop]; omega, by rw [hl.2]; simp [cop]; omega, fun i hi => ?_, fun i hi => ?_⟩
 ·rw [hl.1] at hi
  rcases split_i hi with h1 | ⟨j, h1, rfl⟩
  ·rw [cl i h1, ul i h1]; exact hh.nd i h1
  ·rw [show ((b.n.length + j : Nat) : Int) = (b.n.length : Int) + j by omega, cop_gtN hh hk h1]
   simp only [unG]
   rw [gt_appR h1]
   exact hk.nd j h1
 ·rw [hl.2] at hi
  rcases split_i hi with h1 | ⟨j, h1, rfl⟩
  ·rw [ce i h1, ue i h1]
   obtain ⟨_, t2, t3⟩ := edge_fits hh.va (i := i) (by omega)
   obtain ⟨p, hp, hp2⟩ := gtI t2
   obtain ⟨q, hq, hq2⟩ := gtI t3
   have e := hh.ed i h1
   rw [hp2, hq2] at e ⊢
   rw [cl p hp, cl q hq]
   exact e
  ·rw [show ((b.e.length + j : Nat) : Int) = (b.e.length : Int) + j by omega, cop_gtE hh hk h1]
   simp only [unG]
   rw [gt_appR (by simpa using h1), gt_map h1]
   obtain ⟨_, t2, t3⟩ := edge_fits hk.va (i := j) (by omega)
   obtain ⟨p, hp, hp2⟩ := gtI t2
   obtain ⟨q, hq, hq2⟩ := gtI t3
   have e := hk.ed j h1
   simp only [shE1]
   rw [hp2, hq2] at e ⊢
   rw [show (p : Int) + b.n.length = (b.n.length : Int) + p by omega, show (q : Int) + b.n.length = (b.n.length : Int) + q by omega, cop_gtN hh hk hp, cop_gtN hh hk hq]
   exact e
theorem cop_L {b c x : G} {h k : Mo} (hh : MOk b x h) (hk : MOk c x k) : thenM (idM b) (cop h k) = h := by
 have l1 := hh.ln
 have l2 := hh.le
 refine mo_ext (list_ext_gt ?_ fun i hi => ?_) (list_ext_gt ?_ fun i hi => ?_)
 ·simp only [thenM, thr_len, idM, nums_len]; omega
 ·simp only [thenM, thr_len, idM, nums_len] at hi ⊢
  rw [thr_gt (by rw [nums_len]; exact hi), nums_gt hi]
  exact gt_appL (by omega)
 ·simp only [thenM, thr_len, idM, nums_len]; omega
 ·simp only [thenM, thr_len, idM, nums_len] at hi ⊢
  rw [thr_gt (by rw [nums_len]; exact hi), nums_gt hi]
  exact gt_appL (by omega)
theorem cop_R {b c x : G} {h k : Mo} (hh : MOk b x h) (hk : MOk c x k) : thenM (inR b c) (cop h k) = k := by
 have l1 := hk.ln
 have l2 := hk.le
 refine mo_ext (list_ext_gt ?_ fun i hi => ?_) (list_ext_gt ?_ fun i hi => ?_)
 ·simp only [thenM, thr_len, inR, nums_len]; omega
 ·simp only [thenM, thr_len, inR, nums_len] at hi ⊢
  rw [thr_gt (by rw [nums_len]; exact hi), nums_gtF hi]
  exact cop_gtN hh hk hi
 ·simp only [thenM, thr_len, inR, nums_len]; omega
 ·simp only [thenM, thr_len, inR, nums_len] at hi ⊢
  rw [thr_gt (by rw [nums_len]; exact hi), nums_gtF hi]
  exact cop_gtE hh hk hi
theorem un_one {b c x : G} {u v : Mo} (hu : MOk (unG b c) x u) (hv : MOk (unG b c) x v) (h1 : thenM (idM b) u = thenM (idM b) v) (h2 : thenM (inR b c) u = thenM (inR b c) v) : u = v := by
 have hl := un_len b c
 refine mo_ext (list_ext_gt (by rw [hu.ln, hv.ln]) fun i hi => ?_) (list_ext_gt (by rw [hu.le, hv.le]) fun i hi => ?_)
 ·rw [hu.ln, hl.1] at hi
  rcases split_i hi with h | ⟨j, h, rfl⟩
  ·have := thenM_n h1 (i := i) (by simp [idM, nums_len]; exact h) (by simp [idM, nums_len]; exact h)
   simp only [idM] at this
   rwa [nums_gt h] at this
  ·have := thenM_n h2 (i := j) (by simp [inR, nums_len]; exact h) (by simp [inR, nums_len]; exact h)
   simp only [inR] at this
   rw [nums_gtF h] at this
   rw [show ((b.n.length + j : Nat) : Int) = (b.n.length : Int) + j by omega]
   exact this
 ·rw [hu.le, hl.2] at hi
  rcases split_i hi with h | ⟨j, h, rfl⟩
  ·have := thenM_e h1 (i := i) (by simp [idM, nums_len]; exact h) (by simp [idM, nums_len]; exact h)
   simp only [idM] at this
   rwa [nums_gt h] at this
  ·have := thenM_e h2 (i := j) (by simp [inR, nums_len]; exact h) (by simp [inR, nums_len]; exact h)
   simp only [inR] at this
   rw [nums_gtF h] at this
   rw [show ((b.e.length + j : Nat) : Int) = (b.e.length : Int) + j by omega]
   exact this
structure SOk (s : Sp) : Prop where
 f : MOk s.a s.b s.f
 g : MOk s.a s.c s.g
 s : ¬ Big s.b s.c
theorem spE_ok {s : Sp} : spE s = 0 ↔ MOk s.a s.b s.f ∧ MOk s.a s.c s.g := by
 rw [← mok, ← mok]
 unfold spE
 split
 ·rename_i h; exact ⟨fun e => absurd e h, fun e => absurd e.1 h⟩
 ·rename_i h; exact ⟨fun e => ⟨Decidable.not_not.1 h, e⟩, fun e => e.2⟩
theorem poErr_ok {s : Sp} : poErr s = 0 ↔ SOk s := by
 unfold poErr
 split
 ·rename_i h; exact ⟨fun e => absurd e h, fun e => absurd (spE_ok.2 ⟨e.f, e.g⟩) h⟩
 ·rename_i h
  have h := spE_ok.1 (Decidable.not_not.1 h)
  split
  ·rename_i hb; exact ⟨fun e => absurd e (by decide), fun e => absurd hb e.s⟩
  ·rename_i hb; exact ⟨fun _ => ⟨h.1, h.2, hb⟩, fun _ => rfl⟩
section
variable {s : Sp}
theorem SOk.uF (h : SOk s) : MOk s.a (unG s.b s.c) (poF s) := then_okP h.f (inL_ok h.f.vb h.g.vb h.s)
theorem SOk.uH (h : SOk s) : MOk s.a (unG s.b s.c) (poH s) := then_okP h.g (inR_ok h.f.vb h.g.vb h.s)
theorem SOk.q (h : SOk s) : MOk (unG s.b s.c) (poG s) (poQ s) := glu_ok h.uF h.uH
theorem SOk.p (h : SOk s) : MOk s.b (poG s) (poP s) := then_okP (inL_ok h.f.vb h.g.vb h.s) h.q
theorem SOk.k (h : SOk s) : MOk s.c (poG s) (poK s) := then_okP (inR_ok h.f.vb h.g.vb h.s) h.q
theorem SOk.comm (h : SOk s) : thenM s.f (poP s) = thenM s.g (poK s) := by
 unfold poP poK
 rw [← then_assoc h.f (inL_ok h.f.vb h.g.vb h.s), ← then_assoc h.g (inR_ok h.f.vb h.g.vb h.s)]
 exact glu_eq h.uF h.uH
theorem SOk.med (hs : SOk s) {x : G} {h k : Mo} (hh : MOk s.b x h) (hk : MOk s.c x k) (e : thenM s.f h = thenM s.g k) : ∃ u, MOk (poG s) x u ∧ thenM (poP s) u = h ∧ thenM (poK s) u = k := by
 have hc := cop_ok hh hk hs.s
 have il := inL_ok hs.f.vb hs.g.vb hs.s
 have ir := inR_ok hs.f.vb hs.g.vb hs.s
 have e2 : thenM (poF s) (cop h k) = thenM (poH s) (cop h k) := by
  unfold poF poH
  rw [then_assoc hs.f il, then_assoc hs.g ir, cop_L hh hk, cop_R hh hk, e]
 obtain ⟨u, hu, hu2⟩ := glu_univ hs.uF hs.uH hc e2
 refine ⟨u, hu, ?_, ?_⟩
 ·unfold poP
  rw [then_assoc il hs.q]
  unfold poQ
  rw [hu2, cop_L hh hk]
 ·unfold poK
  rw [then_assoc ir hs.q]
  unfold poQ
  rw [hu2, cop_R hh hk]
theorem SOk.one (hs : SOk s) {x : G} {u v : Mo} (hu : MOk (poG s) x u) (hv : MOk (poG s) x v) (h1 : thenM (poP s) u = thenM (poP s) v) (h2 : thenM (poK s) u = thenM (poK s) v) : u = v := by
 have il := inL_ok hs.f.vb hs.g.vb hs.s
 have ir := inR_ok hs.f.vb hs.g.vb hs.s
 refine glu_one hs.uF hs.uH hu hv (un_one (then_okP hs.q hu) (then_okP hs.q hv) ?_ ?_)
 ·exact (then_assoc il hs.q).symm.trans (h1.trans (then_assoc il hs.q))
 ·exact (then_assoc ir hs.q).symm.trans (h2.trans (then_assoc ir hs.q))
theorem SOk.surN (hs : SOk s) {j : Nat} (hj : j < (poG s).n.length) : (∃ i : Nat, i < s.b.n.length ∧ gt (poP s).n i = j) ∨ ∃ i : Nat, i < s.c.n.length ∧ gt (poK s).n i = j := by
 obtain ⟨i, hi, hi2⟩ := glu_surN hs.uF hs.uH hj
 rw [(un_len _ _).1] at hi
 rcases split_i hi with h | ⟨k, h, rfl⟩
 ·refine .inl ⟨i, h, ?_⟩
  simp only [poP, thenM, idM]
  rw [thr_gt (by rw [nums_len]; exact h), nums_gt h]
  exact hi2
 ·refine .inr ⟨k, h, ?_⟩
  simp only [poK, thenM, inR]
  rw [thr_gt (by rw [nums_len]; exact h), nums_gtF h, show (s.b.n.length : Int) + k = ((s.b.n.length + k : Nat) : Int) by omega]
  exact hi2
theorem SOk.surE (hs : SOk s) {j : Nat} (hj : j < (poG s).e.length) : (∃ i : Nat, i < s.b.e.length ∧ gt (poP s).e i = j) ∨ ∃ i : Nat, i < s.c.e.length ∧ gt (poK s).e i = j := by
 obtain ⟨i, hi, hi2⟩ := glu_surE hs.uF hs.uH hj
 rw [(un_len _ _).2] at hi
 rcases split_i hi with h | ⟨k, h, rfl⟩
 ·refine .inl ⟨i, h, ?_⟩
  simp only [poP, thenM, idM]
  rw [thr_gt (by rw [nums_len]; exact h), nums_gt h]
  exact hi2
 ·refine .inr ⟨k, h, ?_⟩
  simp only [poK, thenM, inR]
  rw [thr_gt (by rw [nums_len]; exact h), nums_gtF h, show (s.b.e.length : Int) + k = ((s.b.e.length + k : Nat) : Int) by omega]
  exact hi2
theorem onto_eq {p h q k w : List Int} (h1 : ∀ i : Nat, i < p.length → 0 ≤ gt p i ∧ gt w (gt p i) = gt h i) (h2 : ∀ i : Nat, i < q.length → 0 ≤ gt q i ∧ gt w (gt q i) = gt k i) (hc : ∀ j : Nat, j < w.length → (∃ i : Nat, i < p.length ∧ gt p i = j) ∨ ∃ i : Nat, i < q.length ∧ gt q i = j) :
  ontoL w.length p h q k = w := by
 unfold ontoL
 refine list_ext_gt (by simp [setL_len]) fun j hj => ?_
 simp only [setL_len, List.length_replicate] at hj
 rcases setL_gt (z := setL h p (List.replicate w.length 0) p.length) h2 j (by simp [setL_len]; exact hj) with e | ⟨e, e2⟩
 ·exact e
 ·rw [e]
  rcases setL_gt (z := List.replicate w.length 0) h1 j (by simp; exact hj) with d | ⟨_, d⟩
  ·exact d
  ·rcases hc j hj with ⟨i, i1, i2⟩ | ⟨i, i1, i2⟩
   ·exact absurd i2 (d i i1)
   ·exact absurd i2 (e2 i i1)
theorem SOk.medU (hs : SOk s) {x : G} {u : Mo} (hu : MOk (poG s) x u) : medU s (thenM (poP s) u) (thenM (poK s) u) = u := by
 have lp := hs.p.ln
 have lk := hs.k.ln
 have mp := hs.p.le
 have mk := hs.k.le
 refine mo_ext ?_ ?_
 ·simp only [Am.medU]
  rw [← hu.ln]
  refine onto_eq (fun i hi => ⟨?_, ?_⟩) (fun i hi => ⟨?_, ?_⟩) fun j hj => ?_
  ·exact (hs.p.nd i (by omega)).1.1
  ·simp only [thenM]; rw [thr_gt hi]
  ·exact (hs.k.nd i (by omega)).1.1
  ·simp only [thenM]; rw [thr_gt hi]
  ·rw [hu.ln] at hj
   rw [lp, lk]; exact hs.surN hj
 ·simp only [Am.medU]
  rw [← hu.le]
  refine onto_eq (fun i hi => ⟨?_, ?_⟩) (fun i hi => ⟨?_, ?_⟩) fun j hj => ?_
  ·exact (hs.p.ed i (by omega)).1.1
  ·simp only [thenM]; rw [thr_gt hi]
  ·exact (hs.k.ed i (by omega)).1.1
  ·simp only [thenM]; rw [thr_gt hi]
  ·rw [hu.le] at hj
   rw [mp, mk]; exact hs.surE hj
theorem cocE_ok {x : G} {h k : Mo} : cocE s x h k = 0 ↔ SOk s ∧ MOk s.b x h ∧ MOk s.c x k ∧ thenM s.f h = thenM s.g k := by
 unfold cocE
 split
 ·rename_i e; exact ⟨fun h => absurd h e, fun h => absurd (spE_ok.2 ⟨h.1.f, h.1.g⟩) e⟩
 rename_i e1
 have e1 := spE_ok.1 (Decidable.not_not.1 e1)
 split
 ·rename_i e; exact ⟨fun h => absurd h e, fun h => absurd (mok.2 h.2.1) e⟩
 rename_i e2
 have e2 := mok.1 (Decidable.not_not.1 e2)
 split
 ·rename_i e; exact ⟨fun h => absurd h e, fun h => absurd (mok.2 h.2.2.1) e⟩
 rename_i e3
 have e3 := mok.1 (Decidable.not_not.1 e3)
 split
 ·rename_i e; exact ⟨fun h => absurd h (by decide), fun h => absurd e h.1.s⟩
 rename_i e4
 split
 ·rename_i e; exact ⟨fun _ => ⟨⟨e1.1, e1.2, e4⟩, e2, e3, e⟩, fun _ => rfl⟩
 ·rename_i e; exact ⟨fun h => absurd h (by decide), fun h => absurd h.2.2.2 e⟩
end
end
attribute [local irreducible] W
@[go_sem] def c_pushout_span_r0 : LL := [qB 1 0,qi 2 0]
@[go_sem] def c_pushout_span_r1 (F : Fn) : LL := [qf 4 0 1,qL 5 2 4,qf 6 2 1,qL 7 2 6,qf 8 6 1,qL 9 2 8,qc 10 (F "morphism.Valid") [.t 5,.t 7,.t 9],qm 3 10]
@[go_sem] def c_pushout_span_r2 : LL := [qm 11 3,qk .neq 12 11 0]
@[go_sem] def c_pushout_span_r3 : LL := [qm 13 3,qm 2 13]
@[go_sem] def c_pushout_span_r4 (F : Fn) : LL := [qf 14 0 1,qL 15 2 14,qf 16 4 1,qL 17 2 16,qf 18 8 1,qL 19 2 18,qc 20 (F "morphism.Valid") [.t 15,.t 17,.t 19],qm 2 20]
@[go_sem] def c_pushout_span (F : Fn) : LC := (.seq (.reg c_pushout_span_r0 [1]) (.seq (.seq (.reg (c_pushout_span_r1 F) [1,3]) (.seq (.reg c_pushout_span_r2 [1,3,12]) (.cond (.t 12) (.seq (.reg c_pushout_span_r3 [2]) .ret) .skip))) (.seq (.reg (c_pushout_span_r4 F) [2]) .ret)))
def h_pushout_span : Hints := hOf [] (c_pushout_span fun _ => 0)
@[go_sem] def c_pushout_glue_r0 : LL := [qB 1 0,qa 2 [.nl 1,.nl 3],qa 3 [.nl 1,.nl 1],qa 4 [.nl 1,.nl 1],qi 5 0]
@[go_sem] def c_pushout_glue_r1 (F : Fn) : LL := [qf 13 2 1,qL 14 2 13,qf 15 4 1,qL 16 2 15,qc 17 (F "graph.Union") [.t 14,.t 16],qm 12 17,qx 18 12 0,qx 19 12 1,qx 20 12 2,qx 21 12 3,qa 6 [.nl 1,.nl 3],qa 7 [.nl 1,.nl 1],
 qa 8 [.nl 1,.nl 1],qs 2 6 18,qs 2 7 19,qs 2 8 20,qm 9 21]
@[go_sem] def c_pushout_glue_r2 : LL := [qm 22 9,qk .neq 23 22 0]
@[go_sem] def c_pushout_glue_r3 : LL := [qu 24 [.nl 1,.nl 3] [],qu 25 [.nl 1,.nl 1] [],qu 26 [.nl 1,.nl 1] [],qm 27 9,qs 2 2 24,qs 2 3 25,qs 2 4 26,qm 5 27]
@[go_sem] def c_pushout_glue_r4 (F : Fn) : LL := [qL 29 2 6,qf 30 6 1,qf 31 0 30,ql 32 1 31,qf 33 8 1,qf 34 0 33,ql 35 1 34,qf 36 0 7,ql 37 1 36,qf 38 0 8,ql 39 1 38,qc 40 (F "pushout.pairs") [.t 32,.t 35,.t 37,.t 39],qf 41 6 1,qf 42 1 41,
 ql 43 1 42,qf 44 8 1,qf 45 1 44,ql 46 1 45,qf 47 1 7,ql 48 1 47,qf 49 1 8,ql 50 1 49,qc 51 (F "pushout.pairs") [.t 43,.t 46,.t 48,.t 50],qc 52 (F "pushout.quotient") [.t 29,.t 40,.t 51],qm 28 52,qx 53 28 0,
 qx 54 28 1,qx 55 28 2,qa 10 [.nl 1,.nl 3],qa 11 [.nl 1,.nl 1],qs 2 10 53,qs 2 11 54,qm 9 55]
@[go_sem] def c_pushout_glue_r5 : LL := [qm 56 9,qk .neq 57 56 0]
@[go_sem] def c_pushout_glue_r6 : LL := [qu 58 [.nl 1,.nl 3] [],qu 59 [.nl 1,.nl 1] [],qu 60 [.nl 1,.nl 1] [],qm 61 9,qs 2 2 58,qs 2 3 59,qs 2 4 60,qm 5 61]
@[go_sem] def c_pushout_glue_r7 (F : Fn) : LL := [qL 62 2 10,qL 63 2 7,qL 64 2 11,qc 65 (F "pushout.then") [.t 63,.t 64],qL 66 2 8,qL 67 2 11,qc 68 (F "pushout.then") [.t 66,.t 67],qs 2 2 62,qs 2 3 65,qs 2 4 68,qi 5 0]
@[go_sem] def c_pushout_glue (F : Fn) : LC := (.seq (.reg c_pushout_glue_r0 [1,2,3,4]) (.seq (.reg (c_pushout_glue_r1 F) [1,2,3,4,6,7,8,9]) (.seq (.seq (.reg c_pushout_glue_r2 [1,2,3,4,6,7,8,9,23]) (.cond (.t 23) (.seq (.reg c_pushout_glue_r3 [2,3,4,5]) .ret) .skip)) (.seq (.dreg [(0,none,[],true),(11,none,[0],true),(14,(some 12288),[11],false),(17,(some 98304),[11],false),(19,(some 262144),[11],false),(21,(some 1048576),[11],false),(22,none,[0],false)] (c_pushout_glue_r4 F) [2,3,4,7,8,9,10,11]) (.seq (.seq (.reg c_pushout_glue_r5 [2,3,4,7,8,9,10,11,57]) (.cond (.t 57) (.seq (.reg c_pushout_glue_r6 [2,3,4,5]) .ret) .skip)) (.seq (.dreg [(0,none,[],true),(3,none,[0],true),(4,(some 0),[3],false),(5,(some 0),[3],false),(6,none,[0],false)] (c_pushout_glue_r7 F) [2,3,4,5]) .ret))))))
def h_pushout_glue : Hints := hOf [] (c_pushout_glue fun _ => 0)
@[go_sem] def c_pushout_Of_r0 : LL := [qB 1 0,qa 2 [.nl 1,.nl 3],qa 3 [.nl 1,.nl 1],qa 4 [.nl 1,.nl 1],qi 5 0]
@[go_sem] def c_pushout_Of_r1 (F : Fn) : LL := [qL 7 10 1,qc 8 (F "pushout.span") [.t 7],qm 6 8]
@[go_sem] def c_pushout_Of_r2 : LL := [qm 9 6,qk .neq 10 9 0]
@[go_sem] def c_pushout_Of_r3 : LL := [qu 11 [.nl 1,.nl 3] [],qu 12 [.nl 1,.nl 1] [],qu 13 [.nl 1,.nl 1] [],qm 14 6,qs 2 2 11,qs 2 3 12,qs 2 4 13,qm 5 14]
@[go_sem] def c_pushout_Of_r4 (F : Fn) : LL := [qL 15 10 1,qc 16 (F "pushout.glue") [.t 15],qx 17 16 0,qx 18 16 1,qx 19 16 2,qx 20 16 3,qs 2 2 17,qs 2 3 18,qs 2 4 19,qm 5 20]
@[go_sem] def c_pushout_Of (F : Fn) : LC := (.seq (.reg c_pushout_Of_r0 [1,2,3,4]) (.seq (.seq (.reg (c_pushout_Of_r1 F) [1,2,3,4,6]) (.seq (.reg c_pushout_Of_r2 [1,2,3,4,6,10]) (.cond (.t 10) (.seq (.reg c_pushout_Of_r3 [2,3,4,5]) .ret) .skip))) (.seq (.reg (c_pushout_Of_r4 F) [2,3,4,5]) .ret)))
def h_pushout_Of : Hints := hOf [] (c_pushout_Of fun _ => 0)
@[go_sem] def c_pushout_filled_r0 : LL := [qn 6 1]
@[go_sem] def c_pushout_filled_r1 : LL := [qm 12 0,⟨some 13,.makeSl 1 8 (.int .i64 (0)) (.t 12),none⟩,qm 7 13]
@[go_sem] def c_pushout_filled_r2 : LL := [qm 14 1,qz 15 14,qi 16 0]
@[go_sem] def c_pushout_filled_r3 : LL := [qo .lss 17 16 15]
@[go_sem] def c_pushout_filled_r4 : LL := [qm 18 16,qd 19 1 14 16,ql 20 1 19,qm 8 18,qm 9 20]
@[go_sem] def c_pushout_filled_r5 : LL := [qm 21 9,qz 22 21,qi 23 0]
@[go_sem] def c_pushout_filled_r6 : LL := [qo .lss 24 23 22]
@[go_sem] def c_pushout_filled_r7 : LL := [qm 25 23,qd 26 1 21 23,ql 27 1 26,qm 10 25,qm 11 27]
@[go_sem] def c_pushout_filled_r8 : LL := [qm 28 7,qm 29 11,qm 30 2,qm 31 8,qd 32 1 30 31,ql 33 1 32,qm 34 10,qd 35 1 33 34,ql 36 1 35,qd 37 1 28 29,qs 1 37 36]
@[go_sem] def c_pushout_filled_r9 : LL := [qk .add 38 23 1,qm 23 38]
def c_pushout_filled_b10 : LC := (.seq (.reg c_pushout_filled_r6 [2,7,8,14,15,16,21,22,23,24]) (.seq (.cond (.t 24) .skip (.exit 2)) (.seq (.block 3 (.seq (.reg c_pushout_filled_r7 [2,7,8,10,11,14,15,16,21,22,23]) (.reg c_pushout_filled_r8 [2,7,8,14,15,16,21,22,23]))) (.reg c_pushout_filled_r9 [2,7,8,14,15,16,21,22,23]))))
@[go_sem] def c_pushout_filled_r11 : LL := [qk .add 39 16 1,qm 16 39]
def c_pushout_filled_b12 : LC := (.seq (.reg c_pushout_filled_r3 [2,7,14,15,16,17]) (.seq (.cond (.t 17) .skip (.exit 0)) (.seq (.block 1 (.seq (.reg c_pushout_filled_r4 [2,7,8,9,14,15,16]) (.seq (.reg c_pushout_filled_r5 [2,7,8,14,15,16,21,22,23]) (.block 2 (.loop [2,7,8,14,15,16,21,22,23] c_pushout_filled_b10))))) (.reg c_pushout_filled_r11 [2,7,14,15,16]))))
@[go_sem] def c_pushout_filled_r13 : LL := [qm 40 7,qm 6 40]
@[go_sem] def c_pushout_filled (F : Fn) : LC := (.seq (.reg c_pushout_filled_r0 [0,1,2]) (.seq (.reg c_pushout_filled_r1 [1,2,7]) (.seq (.seq (.reg c_pushout_filled_r2 [2,7,14,15,16]) (.block 0 (.loop [2,7,14,15,16] c_pushout_filled_b12))) (.seq (.reg c_pushout_filled_r13 [6]) .ret))))
def h_pushout_filled : Hints := hOf [] (c_pushout_filled fun _ => 0)
@[go_sem] def c_pushout_Mediate_r0 : LL := [qB 4 0,qB 5 1,qB 6 2,qB 7 3,qa 8 [.nl 1,.nl 1],qi 9 0]
@[go_sem] def c_pushout_Mediate_r1 (F : Fn) : LL := [qL 17 10 4,qc 18 (F "pushout.span") [.t 17],qm 10 18]
@[go_sem] def c_pushout_Mediate_r2 : LL := [qm 19 10,qk .neq 20 19 0]
@[go_sem] def c_pushout_Mediate_r3 : LL := [qu 21 [.nl 1,.nl 1] [],qm 22 10,qs 2 8 21,qm 9 22]
@[go_sem] def c_pushout_Mediate_r4 (F : Fn) : LL := [qf 23 2 4,qL 24 2 23,qL 25 2 5,qL 26 2 6,qc 27 (F "morphism.Valid") [.t 24,.t 25,.t 26],qm 11 27]
@[go_sem] def c_pushout_Mediate_r5 : LL := [qm 28 11,qk .neq 29 28 0]
@[go_sem] def c_pushout_Mediate_r6 : LL := [qu 30 [.nl 1,.nl 1] [],qm 31 11,qs 2 8 30,qm 9 31]
@[go_sem] def c_pushout_Mediate_r7 (F : Fn) : LL := [qf 32 4 4,qL 33 2 32,qL 34 2 5,qL 35 2 7,qc 36 (F "morphism.Valid") [.t 33,.t 34,.t 35],qm 12 36]
@[go_sem] def c_pushout_Mediate_r8 : LL := [qm 37 12,qk .neq 38 37 0]
@[go_sem] def c_pushout_Mediate_r9 : LL := [qu 39 [.nl 1,.nl 1] [],qm 40 12,qs 2 8 39,qm 9 40]
@[go_sem] def c_pushout_Mediate_r10 (F : Fn) : LL := [qL 42 10 4,qc 43 (F "pushout.glue") [.t 42],qm 41 43,qx 44 41 0,qx 45 41 1,qx 46 41 2,qx 47 41 3,qa 13 [.nl 1,.nl 3],qa 14 [.nl 1,.nl 1],qa 15 [.nl 1,.nl 1],qs 2 13 44,qs 2 14 45,qs 2 15 46,
 qm 16 47]
@[go_sem] def c_pushout_Mediate_r11 : LL := [qm 48 16,qk .neq 49 48 0]
@[go_sem] def c_pushout_Mediate_r12 : LL := [qu 50 [.nl 1,.nl 1] [],qm 51 16,qs 2 8 50,qm 9 51]
@[go_sem] def c_pushout_Mediate_r13 (F : Fn) : LL := [qf 52 6 4,qL 53 2 52,qL 54 2 6,qc 55 (F "pushout.then") [.t 53,.t 54],qf 56 8 4,qL 57 2 56,qL 58 2 7,qc 59 (F "pushout.then") [.t 57,.t 58],qc 60 (F "morphism.Same") [.t 55,.t 59],qv 61 60]
@[go_sem] def c_pushout_Mediate_r14 : LL := [qu 62 [.nl 1,.nl 1] [],qs 2 8 62,qi 9 11]
@[go_sem] def c_pushout_Mediate_r15 (F : Fn) : LL := [qf 63 0 13,ql 64 1 63,qz 65 64,qf 66 0 14,ql 67 1 66,qf 68 0 15,ql 69 1 68,⟨some 70,.buildSl 1 24 (.lst 1 []) 2 [(0,.t 67),(1,.t 69)],none⟩,qf 71 0 6,ql 72 1 71,qf 73 0 7,
 ql 74 1 73,⟨some 75,.buildSl 1 24 (.lst 1 []) 2 [(0,.t 72),(1,.t 74)],none⟩,qc 76 (F "pushout.filled") [.t 65,.t 70,.t 75],qf 77 1 13,ql 78 1 77,qz 79 78,qf 80 1 14,ql 81 1 80,qf 82 1 15,
 ql 83 1 82,⟨some 84,.buildSl 1 24 (.lst 1 []) 2 [(0,.t 81),(1,.t 83)],none⟩,qf 85 1 6,ql 86 1 85,qf 87 1 7,ql 88 1 87,
 ⟨some 89,.buildSl 1 24 (.lst 1 []) 2 [(0,.t 86),(1,.t 88)],none⟩,qc 90 (F "pushout.filled") [.t 79,.t 84,.t 89],qu 91 [.nl 1,.nl 1] [(0,1,.t 76),(1,1,.t 90)],qs 2 8 91,qi 9 0]
@[go_sem] def c_pushout_Mediate (F : Fn) : LC := (.seq (.reg c_pushout_Mediate_r0 [4,5,6,7,8]) (.seq (.seq (.reg (c_pushout_Mediate_r1 F) [4,5,6,7,8,10]) (.seq (.reg c_pushout_Mediate_r2 [4,5,6,7,8,10,20]) (.cond (.t 20) (.seq (.reg c_pushout_Mediate_r3 [8,9]) .ret) .skip))) (.seq (.seq (.reg (c_pushout_Mediate_r4 F) [4,5,6,7,8,11]) (.seq (.reg c_pushout_Mediate_r5 [4,5,6,7,8,11,29]) (.cond (.t 29) (.seq (.reg c_pushout_Mediate_r6 [8,9]) .ret) .skip))) (.seq (.seq (.reg (c_pushout_Mediate_r7 F) [4,6,7,8,12]) (.seq (.reg c_pushout_Mediate_r8 [4,6,7,8,12,38]) (.cond (.t 38) (.seq (.reg c_pushout_Mediate_r9 [8,9]) .ret) .skip))) (.seq (.reg (c_pushout_Mediate_r10 F) [4,6,7,8,13,14,15,16]) (.seq (.seq (.reg c_pushout_Mediate_r11 [4,6,7,8,13,14,15,16,49]) (.cond (.t 49) (.seq (.reg c_pushout_Mediate_r12 [8,9]) .ret) .skip)) (.seq (.seq (.dreg [(3,none,[],true),(5,(some 16),[3],false),(6,(some 0),[3],false)] (c_pushout_Mediate_r13 F) [6,7,8,13,14,15,61]) (.cond (.t 61) (.seq (.reg c_pushout_Mediate_r14 [8,9]) .ret) .skip)) (.seq (.dreg [(1,none,[],true),(4,none,[],true),(6,none,[],true),(7,none,[1],true),(9,(some 256),[7],true),(11,(some 1024),[7],true),(12,(some 3840),[1,4,6,7],true),(13,none,[],true),(15,(some 16384),[7,12,13],true),(18,(some 131072),[7,12,13],true),(20,(some 524288),[7,12,13],true),(21,(some 1966080),[1,4,6,7,9,11,12,13,15],true),(23,(some 4194304),[7,12,13,21],false),(25,(some 16777216),[7,12,13,21],false),(26,(some 62914560),[1,4,6,7,9,11,12,13,15,18,20,21],false)] (c_pushout_Mediate_r15 F) [8,9]) .ret))))))))
def h_pushout_Mediate : Hints := hOf [] (c_pushout_Mediate fun _ => 0)
@[go_sem] def c_pushout_Check_r0 : LL := [qB 4 0,qB 5 1,qB 6 2,qB 7 3,qb 8 false]
@[go_sem] def c_pushout_Check_r1 (F : Fn) : LL := [qL 15 10 4,qL 16 2 5,qL 17 2 6,qL 18 2 7,qc 19 (F "pushout.Mediate") [.t 15,.t 16,.t 17,.t 18],qm 14 19,qx 20 14 0,qx 21 14 1,qa 9 [.nl 1,.nl 1],qs 2 9 20,qm 10 21]
@[go_sem] def c_pushout_Check_r2 : LL := [qm 22 10,qk .neq 23 22 0]
@[go_sem] def c_pushout_Check_r3 : LL := [qb 8 false]
@[go_sem] def c_pushout_Check_r4 (F : Fn) : LL := [qL 25 10 4,qc 26 (F "pushout.glue") [.t 25],qm 24 26,qx 27 24 0,qx 28 24 1,qx 29 24 2,qx 30 24 3,qa 11 [.nl 1,.nl 3],qa 12 [.nl 1,.nl 1],qa 13 [.nl 1,.nl 1],qs 2 11 27,qs 2 12 28,qs 2 13 29,
 qm 10 30]
@[go_sem] def c_pushout_Check_r5 (F : Fn) : LL := [qm 31 10,qk .eql 32 31 0,qm 33 32,qg 33 true (qL 34 2 11),qg 33 true (qL 35 2 5),qg 33 true (qL 36 2 9),qg 33 true (qc 37 (F "morphism.Injective") [.t 34,.t 35,.t 36]),qP 38 33 37,qm 39 38,
 qg 39 true (qL 40 2 11),qg 39 true (qL 41 2 5),qg 39 true (qL 42 2 9),qg 39 true (qc 43 (F "morphism.Surjective") [.t 40,.t 41,.t 42]),qP 44 39 43,qm 8 44]
@[go_sem] def c_pushout_Check (F : Fn) : LC := (.seq (.reg c_pushout_Check_r0 [4,5,6,7]) (.seq (.reg (c_pushout_Check_r1 F) [4,5,9,10]) (.seq (.seq (.reg c_pushout_Check_r2 [4,5,9,23]) (.cond (.t 23) (.seq (.reg c_pushout_Check_r3 [8]) .ret) .skip)) (.seq (.reg (c_pushout_Check_r4 F) [5,9,10,11]) (.seq (.reg (c_pushout_Check_r5 F) [8]) .ret)))))
def h_pushout_Check : Hints := hOf [] (c_pushout_Check fun _ => 0)
def spD (s : Sp) : D := .agg [.lst 1 (ints s.a.n), .lst 3 (eds s.a.e), .lst 1 (ints s.b.n), .lst 3 (eds s.b.e), .lst 1 (ints s.c.n), .lst 3 (eds s.c.e), .lst 1 (ints s.f.n), .lst 1 (ints s.f.e), .lst 1 (ints s.g.n), .lst 1 (ints s.g.e)]
def poD (r : G × Mo × Mo × Int) : D := .tup [gA r.1, mA r.2.1, mA r.2.2.1, .int .i64 r.2.2.2]
def Sp.sm (s : Sp) : Prop := s.f.sm ∧ s.g.sm
def fillA (n : Nat) (p h q k : List Int) : Nat → List Int
 | 0 => List.replicate n 0
 | 1 => setL h p (List.replicate n 0) p.length
 | _ => ontoL n p h q k
section
variable (P : Program) (F : String → Nat)
def K_pushout_span : Prop := ∀ s : Sp, FC P (F "pushout.span") [spD s] (.int .i64 (spE s)) []
def K_pushout_glue : Prop := ∀ s : Sp, spE s = 0 → FC P (F "pushout.glue") [spD s] (poD (poR s)) []
def K_pushout_Of : Prop := ∀ s : Sp, FC P (F "pushout.Of") [spD s] (poD (poR s)) []
def OnOk (n : Nat) (p h : List Int) : Prop := p.length ≤ 1000 ∧ h.length = p.length ∧ ∀ i : Nat, i < p.length → 0 ≤ gt p i ∧ gt p i < n
def K_pushout_filled : Prop := ∀ (n : Nat) (p h q k : List Int), n ≤ 1000 → OnOk n p h → OnOk n q k → FC P (F "pushout.filled") [.int .i64 n, .lst 1 [.lst 1 (ints p), .lst 1 (ints q)], .lst 1 [.lst 1 (ints h), .lst 1 (ints k)]] (.arr 1 (ints (ontoL n p h q k))) []
def K_pushout_Mediate : Prop := ∀ (s : Sp) (x : G) (h k : Mo), FC P (F "pushout.Mediate") [spD s, gD x, mD h, mD k] (.tup [mA (medP s x h k).1, .int .i64 (medP s x h k).2]) []
def K_pushout_Check : Prop := ∀ (s : Sp) (x : G) (h k : Mo), FC P (F "pushout.Check") [spD s, gD x, mD h, mD k] (.bool (chkP s x h k)) []
end
section
variable {P : Program} {F : String → Nat} {α : Type}
theorem w_pushout_span (hv : K_morphism_Valid P F) (s : Sp) : W P (c_pushout_span F) (Done [.t 2] [] (.int .i64 (spE s)) []) (init [spD s]) := by
 refine W_of ?_
 have r1 := hv s.a s.b s.f
 have r2 := hv s.a s.c s.g
 have : spE s = if validM s.a s.b s.f ≠ 0 then validM s.a s.b s.f else validM s.a s.c s.g := rfl
 rw [this]
 generalize validM s.a s.b s.f = u at *
 generalize validM s.a s.c s.g = v at *
 simp only [gD, mD] at r1 r2
 simp (disch := omega) only [go_sem, ↓reduceIte, spD]
 refine call_by r1 ?_
 simp (disch := omega) only [go_sem, ↓reduceIte]
 refine bran_ndec (fun c => ?_) (fun c => ?_)
 ·simp (disch := omega) only [go_sem, ↓reduceIte]
  try simp [c]
 ·subst c
  simp (disch := omega) only [go_sem, ↓reduceIte]
  refine call_by r2 ?_
  simp (disch := omega) only [go_sem, ↓reduceIte]
  try simp
theorem uniG_ok {b c : G} (vb : validG b = 0) (vc : validG c = 0) : uniG b c = if Big b c then (g0, m0, m0, 3) else (unG b c, idM b, inR b c, 0) := by
 unfold uniG
 rw [if_neg (by simp [vb]), if_neg (by simp [vc])]
 by_cases hb : Big b c
 ·rw [if_pos hb]
  unfold Big at hb
  rw [if_pos hb]; rfl
 ·rw [if_neg hb]
  unfold Big at hb
  rw [if_neg hb]; rfl
theorem poR_ok {s : Sp} (h : SOk s) : poR s = (poG s, poP s, poK s, 0) := by unfold poR; rw [if_pos (poErr_ok.2 h)]
theorem poR_big {s : Sp} (h : spE s = 0) (hb : Big s.b s.c) : poR s = (g0, m0, m0, 3) := by
 have : poErr s = 3 := by unfold poErr; rw [if_neg (by simp [h]), if_pos hb]
 unfold poR
 rw [this]; rfl
set_option maxHeartbeats 1000000 in
theorem w_pushout_glue (hu : K_graph_Union P F) (hp : K_pushout_pairs P F) (hq : K_pushout_quotient P F) (ht : K_pushout_then P F) (s : Sp) (he : spE s = 0) : W P (c_pushout_glue F) (Done [.c 2 true 2, .c 3 true 2, .c 4 true 2, .t 5] [] (poD (poR s)) []) (init [spD s]) := by
 refine W_of ?_
 obtain ⟨hf, hg⟩ := spE_ok.1 he
 have r1 := hu s.b s.c
 rw [uniG_ok hf.vb hg.vb] at r1
 by_cases hb : Big s.b s.c
 ·rw [if_pos hb] at r1
  rw [poR_big he hb]
  simp only [uniD, gD, gA, mA, g0, m0] at r1
  simp (disch := omega) only [go_sem, ↓reduceIte, spD]
  refine call_by r1 ?_
  simp (disch := omega) only [go_sem, ↓reduceIte]
  refine bran_ndec (fun _ => ?_) (fun h => absurd h (by decide))
  simp (disch := omega) only [go_sem, ↓reduceIte]
  simp [poD, g0, m0, gA, mA, ints, eds]
 ·rw [if_neg hb] at r1
  have hs : SOk s := ⟨hf, hg, hb⟩
  rw [poR_ok hs]
  have vu := un_ok hf.vb hg.vb hb
  have il := inL_ok hf.vb hg.vb hb
  have ir := inR_ok hf.vb hg.vb hb
  have va := valid_spec hf.va
  have vb := valid_spec hf.vb
  have vc := valid_spec hg.vb
  have ln := hf.ln
  have le := hf.le
  have mn := hg.ln
  have me := hg.le
  have bf := validM_bd (mok.2 hf)
  have bg := validM_bd (mok.2 hg)
  have bi := validM_bd (mok.2 il)
  have br := validM_bd (mok.2 ir)
  have iln := il.ln
  have ile := il.le
  have irn := ir.ln
  have ire := ir.le
  have p1 := hp s.f.n s.g.n (idM s.b).n (inR s.b s.c).n (by omega) (by omega) (by rw [iln]; exact bf.1) (by rw [irn]; exact bg.1)
  have p2 := hp s.f.e s.g.e (idM s.b).e (inR s.b s.c).e (by omega) (by omega) (by rw [ile]; exact bf.2) (by rw [ire]; exact bg.2)
  have q := hq (unG s.b s.c) (prL (poF s).n (poH s).n (poF s).n.length) (prL (poF s).e (poH s).e (poF s).e.length) vu
   (by rw [prL_len]; simp only [poF, thenM, thr_len]; omega) (by rw [prL_len]; simp only [poF, thenM, thr_len]; omega) (glu_prN hs.uF hs.uH) (glu_prE hs.uF hs.uH)
  rw [show quoG (unG s.b s.c) (genL (unG s.b s.c).n.length (prL (poF s).n (poH s).n (poF s).n.length)) (genL (unG s.b s.c).e.length (prL (poF s).e (poH s).e (poF s).e.length)) = poG s from rfl,
   show quoM (genL (unG s.b s.c).n.length (prL (poF s).n (poH s).n (poF s).n.length)) (genL (unG s.b s.c).e.length (prL (poF s).e (poH s).e (poF s).e.length)) = poQ s from rfl] at q
  rw [show prL (thr s.f.n (idM s.b).n) (thr s.g.n (inR s.b s.c).n) (thr s.f.n (idM s.b).n).length = prL (poF s).n (poH s).n (poF s).n.length from rfl] at p1
  rw [show prL (thr s.f.e (idM s.b).e) (thr s.g.e (inR s.b s.c).e) (thr s.f.e (idM s.b).e).length = prL (poF s).e (poH s).e (poF s).e.length from rfl] at p2
  have qn := hs.q.ln
  have qe := hs.q.le
  have t1 := ht (idM s.b) (poQ s) (by omega) (by omega) (by rw [qn]; exact bi.1) (by rw [qe]; exact bi.2)
  have t2 := ht (inR s.b s.c) (poQ s) (by omega) (by omega) (by rw [qn]; exact br.1) (by rw [qe]; exact br.2)
  rw [show thenM (idM s.b) (poQ s) = poP s from rfl] at t1
  rw [show thenM (inR s.b s.c) (poQ s) = poK s from rfl] at t2
  generalize prL (poF s).n (poH s).n (poF s).n.length = l1 at *
  generalize prL (poF s).e (poH s).e (poF s).e.length = l2 at *
  clear bf bg bi br il ir hs vu va vb vc hf hg he hb iln ile irn ire qn qe
  generalize poG s = d at *
  generalize poQ s = qq at *
  generalize poP s = pp at *
  generalize poK s = kk at *
  generalize unG s.b s.c = uu at *
  generalize idM s.b = ii at *
  generalize inR s.b s.c = jj at *
  obtain ⟨dn, de⟩ := d
  obtain ⟨un, ue⟩ := uu
  obtain ⟨qn, qe⟩ := qq
  obtain ⟨pn, pe⟩ := pp
  obtain ⟨kn, ke⟩ := kk
  obtain ⟨i1, i2⟩ := ii
  obtain ⟨j1, j2⟩ := jj
  simp only [uniD, gD, gA, mD, mA, spD, poD] at *
  simp (disch := omega) only [go_sem, ↓reduceIte]
  refine call_by r1 ?_
  simp (disch := omega) only [go_sem, ↓reduceIte]
  refine call_by p1 ?_
  simp (disch := omega) only [go_sem, ↓reduceIte]
  refine call_by p2 ?_
  simp (disch := omega) only [go_sem, ↓reduceIte]
  refine call_by q ?_
  simp (disch := omega) only [go_sem, ↓reduceIte]
  refine call_by t1 ?_
  simp (disch := omega) only [go_sem, ↓reduceIte]
  refine call_by t2 ?_
  simp (disch := omega) only [go_sem, ↓reduceIte]
  try rfl
theorem w_pushout_Of (hp : K_pushout_span P F) (hg : K_pushout_glue P F) (s : Sp) : W P (c_pushout_Of F) (Done [.c 2 true 2, .c 3 true 2, .c 4 true 2, .t 5] [] (poD (poR s)) []) (init [spD s]) := by
 refine W_of ?_
 have r1 := hp s
 by_cases c : spE s = 0
 ·have r2 := hg s c
  rw [c] at r1
  generalize poR s = r at *
  obtain ⟨⟨dn, de⟩, ⟨pn, pe⟩, ⟨kn, ke⟩, er⟩ := r
  simp only [spD, poD, gA, mA] at *
  simp (disch := omega) only [go_sem, ↓reduceIte]
  refine call_by r1 ?_
  simp (disch := omega) only [go_sem, ↓reduceIte]
  refine call_by r2 ?_
  simp (disch := omega) only [go_sem, ↓reduceIte]
  try rfl
 ·have : poR s = (g0, m0, m0, spE s) := by
   have : poErr s = spE s := by unfold poErr; rw [if_pos c]
   unfold poR; rw [this, if_neg c]
  rw [this]
  generalize spE s = e at *
  simp only [spD] at *
  simp (disch := omega) only [go_sem, ↓reduceIte]
  refine call_by r1 ?_
  simp (disch := omega) only [go_sem, ↓reduceIte, c]
  simp [poD, g0, m0, gA, mA, ints, eds]
set_option maxHeartbeats 1000000 in
theorem w_pushout_filled (n : Nat) (p h q k : List Int) (hn : n ≤ 1000) (h1 : OnOk n p h) (h2 : OnOk n q k) :
  W P (c_pushout_filled F) (Done [.t 6] [] (.arr 1 (ints (ontoL n p h q k))) []) (init [.int .i64 n, .lst 1 [.lst 1 (ints p), .lst 1 (ints q)], .lst 1 [.lst 1 (ints h), .lst 1 (ints k)]]) := by
 refine W_of ?_
 obtain ⟨p1, p2, p3⟩ := h1
 obtain ⟨q1, q2, q3⟩ := h2
 have a0 : fillA n p h q k 0 = List.replicate n 0 := rfl
 have a1 : fillA n p h q k 1 = setL h p (fillA n p h q k 0) p.length := rfl
 have a2 : fillA n p h q k 2 = setL k q (fillA n p h q k 1) q.length := rfl
 have aE : ontoL n p h q k = fillA n p h q k 2 := rfl
 have al : ∀ i, i ≤ 2 → (fillA n p h q k i).length = n := fun i hi => by
  have h3 : i = 0 ∨ i = 1 ∨ i = 2 := by omega
  rcases h3 with rfl | rfl | rfl
  ·rw [a0]; simp
  ·rw [a1, setL_len, a0]; simp
  ·rw [a2, setL_len, a1, setL_len, a0]; simp
 rw [aE]
 clear aE
 generalize fillA n p h q k = A at *
 have sl : ∀ (x y z : List Int) (i : Nat), (setL x y z i).length = z.length := fun x y z i => setL_len x y z i
 have ss : ∀ (x y z : List Int) (i : Nat), setL x y z (i + 1) = (setL x y z i).set (gt y i).toNat (gt x i) := fun x y z i => rfl
 simp (disch := omega) only [go_sem, ↓reduceIte]
 refine W_loop (fun i : Nat => ⟨[(2, .lst 1 [.lst 1 (ints h), .lst 1 (ints k)]), (7, .sl 0 0 n), (14, .lst 1 [.lst 1 (ints p), .lst 1 (ints q)]), (15, .int .i64 (2 : Nat)), (16, .int .i64 i)], [(0, .arr 1 (ints (A i)))], 1⟩) (fun i => i ≤ 2) (fun i => 2 - i) 0 ?_ ?_ ?_
 ·simp (disch := omega) only [go_sem, ↓reduceIte, a0]
  rfl
 ·simp
 ·intro i hi
  have h3 : i = 0 ∨ i = 1 ∨ i = 2 := by omega
  rcases h3 with rfl | rfl | rfl
  ·have l0 := al 0 (by omega)
   simp (disch := omega) only [go_sem, ↓reduceIte, c_pushout_filled_b12]
   refine bran_dec (fun c => ?_) (fun c => absurd c (by omega))
   simp (disch := omega) only [go_sem, ↓reduceIte, l0]
   refine W_loop (fun j : Nat => ⟨[(2, .lst 1 [.lst 1 (ints h), .lst 1 (ints k)]), (7, .sl 0 0 n), (8, .int .i64 (0 : Nat)), (14, .lst 1 [.lst 1 (ints p), .lst 1 (ints q)]), (15, .int .i64 (2 : Nat)), (16, .int .i64 (0 : Nat)), (21, .lst 1 (ints p)), (22, .int .i64 p.length), (23, .int .i64 j)], [(0, .arr 1 (ints (setL h p (A 0) j)))], 1⟩) (fun j => j ≤ p.length) (fun j => p.length - j) 0 ?_ ?_ ?_
   ·simp (disch := omega) only [go_sem, ↓reduceIte, setL]
    rfl
   ·simp
   ·intro j hj
    have lj := sl h p (A 0) j
    rw [l0] at lj
    have sj := ss h p (A 0) j
    by_cases c : j < p.length
    ·have g1 : decide ((j : Int) < p.length) = true := decide_eq_true (by omega)
     obtain ⟨b1, b2⟩ := p3 j c
     generalize setL h p (A 0) j = z at *
     simp (disch := omega) only [go_sem, ↓reduceIte, c_pushout_filled_b10, g1, lj]
     exact ⟨j + 1, by simp [sj], by omega, by omega⟩
    ·have g1 : decide ((j : Int) < p.length) = false := decide_eq_false (by omega)
     obtain rfl : j = p.length := by omega
     simp (disch := omega) only [go_sem, ↓reduceIte, c_pushout_filled_b10, g1, lj]
     exact ⟨1, by simp [a1], by omega, by omega⟩
  ·have l0 := al 1 (by omega)
   simp (disch := omega) only [go_sem, ↓reduceIte, c_pushout_filled_b12]
   refine bran_dec (fun c => ?_) (fun c => absurd c (by omega))
   simp (disch := omega) only [go_sem, ↓reduceIte, l0]
   refine W_loop (fun j : Nat => ⟨[(2, .lst 1 [.lst 1 (ints h), .lst 1 (ints k)]), (7, .sl 0 0 n), (8, .int .i64 (1 : Nat)), (14, .lst 1 [.lst 1 (ints p), .lst 1 (ints q)]), (15, .int .i64 (2 : Nat)), (16, .int .i64 (1 : Nat)), (21, .lst 1 (ints q)), (22, .int .i64 q.length), (23, .int .i64 j)], [(0, .arr 1 (ints (setL k q (A 1) j)))], 1⟩) (fun j => j ≤ q.length) (fun j => q.length - j) 0 ?_ ?_ ?_
   ·simp (disch := omega) only [go_sem, ↓reduceIte, setL]
    rfl
   ·simp
   ·intro j hj
    have lj := sl k q (A 1) j
    rw [l0] at lj
    have sj := ss k q (A 1) j
    by_cases c : j < q.length
    ·have g1 : decide ((j : Int) < q.length) = true := decide_eq_true (by omega)
     obtain ⟨b1, b2⟩ := q3 j c
     generalize setL k q (A 1) j = z at *
     simp (disch := omega) only [go_sem, ↓reduceIte, c_pushout_filled_b10, g1, lj]
     exact ⟨j + 1, by simp [sj], by omega, by omega⟩
    ·have g1 : decide ((j : Int) < q.length) = false := decide_eq_false (by omega)
     obtain rfl : j = q.length := by omega
     simp (disch := omega) only [go_sem, ↓reduceIte, c_pushout_filled_b10, g1, lj]
     exact ⟨2, by simp [a2], by omega, by omega⟩
  ·have l0 := al 2 (by omega)
   simp (disch := omega) only [go_sem, ↓reduceIte, c_pushout_filled_b12]
   refine bran_dec (fun c => absurd c (by omega)) (fun c => ?_)
   simp (disch := omega) only [go_sem, ↓reduceIte, l0]
end
section
variable (P : Program) (F : String → Nat)
end
section
variable {P : Program} {F : String → Nat} {α : Type}
theorem coc_bad {s : Sp} {x : G} {h k : Mo} (e : cocE s x h k ≠ 0) : medP s x h k = (m0, cocE s x h k) := by unfold medP; rw [if_neg e]
theorem coc_ok {s : Sp} {x : G} {h k : Mo} (e : cocE s x h k = 0) : medP s x h k = (medU s h k, 0) := by unfold medP; rw [if_pos e]
theorem on_ok {b d : G} {p h : Mo} {x : G} (hp : MOk b d p) (hh : MOk b x h) : OnOk d.n.length p.n h.n ∧ OnOk d.e.length p.e h.e := by
 have vb := valid_spec hp.va
 have l1 := hp.ln
 have l2 := hp.le
 have l3 := hh.ln
 have l4 := hh.le
 exact ⟨⟨by omega, by omega, fun i hi => (hp.nd i (by omega)).1⟩, ⟨by omega, by omega, fun i hi => (hp.ed i (by omega)).1⟩⟩
set_option maxHeartbeats 2000000 in
theorem w_pushout_Mediate (hp : K_pushout_span P F) (hv : K_morphism_Valid P F) (hg : K_pushout_glue P F) (ht : K_pushout_then P F) (hsm : K_morphism_Same P F) (hfi : K_pushout_filled P F) (s : Sp) (x : G) (h k : Mo) :
  W P (c_pushout_Mediate F) (Done [.c 8 true 2, .t 9] [] (.tup [mA (medP s x h k).1, .int .i64 (medP s x h k).2]) []) (init [spD s, gD x, mD h, mD k]) := by
 refine W_of ?_
 have r1 := hp s
 have r2 := hv s.b x h
 have r3 := hv s.c x k
 have hE : cocE s x h k = if spE s ≠ 0 then spE s else if validM s.b x h ≠ 0 then validM s.b x h else if validM s.c x k ≠ 0 then validM s.c x k else if Big s.b s.c then 3 else if thenM s.f h = thenM s.g k then 0 else 11 := rfl
 by_cases c1 : spE s = 0
 ·rw [if_neg (by simp [c1])] at hE
  by_cases c2 : validM s.b x h = 0
  ·rw [if_neg (by simp [c2])] at hE
   by_cases c3 : validM s.c x k = 0
   ·rw [if_neg (by simp [c3])] at hE
    have r4 := hg s c1
    rw [c1] at r1
    rw [c2] at r2
    rw [c3] at r3
    obtain ⟨hf, hgg⟩ := spE_ok.1 c1
    have hh := mok.1 c2
    have hk := mok.1 c3
    by_cases hb : Big s.b s.c
    ·rw [if_pos hb] at hE
     rw [coc_bad (by rw [hE]; decide), hE]
     rw [poR_big c1 hb] at r4
     simp only [poD, g0, m0, gD, gA, mD, mA, spD] at *
     simp (disch := omega) only [go_sem, ↓reduceIte]
     refine call_by r1 ?_
     simp (disch := omega) only [go_sem, ↓reduceIte]
     refine call_by r2 ?_
     simp (disch := omega) only [go_sem, ↓reduceIte]
     refine call_by r3 ?_
     simp (disch := omega) only [go_sem, ↓reduceIte]
     refine call_by r4 ?_
     simp (disch := omega) only [go_sem, ↓reduceIte]
     refine bran_ndec (fun _ => ?_) (fun h => absurd h (by decide))
     simp (disch := omega) only [go_sem, ↓reduceIte]
     simp [ints, mA, m0]
    ·rw [if_neg hb] at hE
     have hs : SOk s := ⟨hf, hgg, hb⟩
     rw [poR_ok hs] at r4
     have va := valid_spec hf.va
     have vb := valid_spec hf.vb
     have vc := valid_spec hgg.vb
     have vd := valid_spec hs.p.vb
     have ln := hf.ln
     have le := hf.le
     have mn := hgg.ln
     have me := hgg.le
     have h1 := hh.ln
     have h2 := hh.le
     have k1 := hk.ln
     have k2 := hk.le
     have bf := validM_bd (mok.2 hf)
     have bg := validM_bd (mok.2 hgg)
     have t1 := ht s.f h (by omega) (by omega) (by rw [h1]; exact bf.1) (by rw [h2]; exact bf.2)
     have t2 := ht s.g k (by omega) (by omega) (by rw [k1]; exact bg.1) (by rw [k2]; exact bg.2)
     have sm := hsm (thenM s.f h) (thenM s.g k) (by simp only [thenM, thr_len]; unfold maxL; omega) (by simp only [thenM, thr_len]; unfold maxL; omega)
     obtain ⟨o1, o2⟩ := on_ok hs.p hh
     obtain ⟨o3, o4⟩ := on_ok hs.k hk
     have f1 := hfi _ _ _ _ _ (by omega) o1 o3
     have f2 := hfi _ _ _ _ _ (by omega) o2 o4
     have hmU : medU s h k = ⟨ontoL (poG s).n.length (poP s).n h.n (poK s).n k.n, ontoL (poG s).e.length (poP s).e h.e (poK s).e k.e⟩ := rfl
     have q1 := hs.p.ln
     have q2 := hs.p.le
     have q3 := hs.k.ln
     have q4 := hs.k.le
     generalize ontoL (poG s).n.length (poP s).n h.n (poK s).n k.n = u1 at *
     generalize ontoL (poG s).e.length (poP s).e h.e (poK s).e k.e = u2 at *
     by_cases c4 : thenM s.f h = thenM s.g k
     ·rw [if_pos c4] at hE
      rw [coc_ok hE, hmU]
      rw [decide_eq_true c4] at sm
      clear o1 o2 o3 o4 bf bg hs hf hgg hh hk hb c1 c2 c3 hE hmU c4 hp hv hg ht hsm hfi
      generalize thenM s.f h = fh at *
      generalize thenM s.g k = gk at *
      generalize poG s = d at *
      generalize poP s = pp at *
      generalize poK s = kk at *
      obtain ⟨dn, de⟩ := d
      obtain ⟨pn, pe⟩ := pp
      obtain ⟨kn, ke⟩ := kk
      obtain ⟨f1', f2'⟩ := fh
      obtain ⟨g1, g2⟩ := gk
      simp only [poD, gD, gA, mD, mA, spD] at *
      simp (disch := omega) only [go_sem, ↓reduceIte]
      refine call_by r1 ?_
      simp (disch := omega) only [go_sem, ↓reduceIte]
      refine call_by r2 ?_
      simp (disch := omega) only [go_sem, ↓reduceIte]
      refine call_by r3 ?_
      simp (disch := omega) only [go_sem, ↓reduceIte]
      refine call_by r4 ?_
      simp (disch := omega) only [go_sem, ↓reduceIte]
      refine call_by t1 ?_
      simp (disch := omega) only [go_sem, ↓reduceIte]
      refine call_by t2 ?_
      simp (disch := omega) only [go_sem, ↓reduceIte]
      refine call_by sm ?_
      simp (disch := omega) only [go_sem, ↓reduceIte]
      refine call_by f1 ?_
      simp (disch := omega) only [go_sem, ↓reduceIte]
      refine call_by f2 ?_
      simp (disch := omega) only [go_sem, ↓reduceIte]
      try rfl
     ·rw [if_neg c4] at hE
      rw [coc_bad (by rw [hE]; decide), hE]
      rw [decide_eq_false c4] at sm
      clear o1 o2 o3 o4 bf bg hs hf hgg hh hk hb c1 c2 c3 hE hmU c4 hp hv hg ht hsm hfi
      generalize thenM s.f h = fh at *
      generalize thenM s.g k = gk at *
      generalize poG s = d at *
      generalize poP s = pp at *
      generalize poK s = kk at *
      obtain ⟨dn, de⟩ := d
      obtain ⟨pn, pe⟩ := pp
      obtain ⟨kn, ke⟩ := kk
      obtain ⟨f1', f2'⟩ := fh
      obtain ⟨g1, g2⟩ := gk
      simp only [poD, gD, gA, mD, mA, spD] at *
      simp (disch := omega) only [go_sem, ↓reduceIte]
      refine call_by r1 ?_
      simp (disch := omega) only [go_sem, ↓reduceIte]
      refine call_by r2 ?_
      simp (disch := omega) only [go_sem, ↓reduceIte]
      refine call_by r3 ?_
      simp (disch := omega) only [go_sem, ↓reduceIte]
      refine call_by r4 ?_
      simp (disch := omega) only [go_sem, ↓reduceIte]
      refine call_by t1 ?_
      simp (disch := omega) only [go_sem, ↓reduceIte]
      refine call_by t2 ?_
      simp (disch := omega) only [go_sem, ↓reduceIte]
      refine call_by sm ?_
      simp (disch := omega) only [go_sem, ↓reduceIte]
      simp [m0, ints, mA]
   ·rw [if_pos c3] at hE
    rw [coc_bad (by rw [hE]; exact c3), hE]
    rw [c1] at r1
    rw [c2] at r2
    generalize validM s.c x k = v at *
    clear hE
    simp only [gD, mD, spD] at *
    simp (disch := omega) only [go_sem, ↓reduceIte]
    refine call_by r1 ?_
    simp (disch := omega) only [go_sem, ↓reduceIte]
    refine call_by r2 ?_
    simp (disch := omega) only [go_sem, ↓reduceIte]
    refine call_by r3 ?_
    simp (disch := omega) only [go_sem, ↓reduceIte, c3]
    simp [m0, mA, ints]
  ·rw [if_pos c2] at hE
   rw [coc_bad (by rw [hE]; exact c2), hE]
   rw [c1] at r1
   generalize validM s.b x h = v at *
   clear hE
   simp only [gD, mD, spD] at *
   simp (disch := omega) only [go_sem, ↓reduceIte]
   refine call_by r1 ?_
   simp (disch := omega) only [go_sem, ↓reduceIte]
   refine call_by r2 ?_
   simp (disch := omega) only [go_sem, ↓reduceIte, c2]
   simp [m0, mA, ints]
 ·rw [if_pos c1] at hE
  rw [coc_bad (by rw [hE]; exact c1), hE]
  generalize spE s = v at *
  clear hE
  simp only [gD, mD, spD] at *
  simp (disch := omega) only [go_sem, ↓reduceIte]
  refine call_by r1 ?_
  simp (disch := omega) only [go_sem, ↓reduceIte, c1]
  simp [m0, mA, ints]
theorem w_pushout_Check (hm : K_pushout_Mediate P F) (hg : K_pushout_glue P F) (hi : K_morphism_Injective P F) (hj : K_morphism_Surjective P F) (s : Sp) (x : G) (h k : Mo) : W P (c_pushout_Check F) (Done [.t 8] [] (.bool (chkP s x h k)) []) (init [spD s, gD x, mD h, mD k]) := by
 refine W_of ?_
 have r1 := hm s x h k
 have hC : chkP s x h k = (decide (cocE s x h k = 0) && (injM (poG s) x (medU s h k) && surM (poG s) x (medU s h k))) := rfl
 rw [hC]
 by_cases c : cocE s x h k = 0
 ·obtain ⟨hs, _⟩ := cocE_ok.1 c
  have r2 := hg s (spE_ok.2 ⟨hs.f, hs.g⟩)
  rw [coc_ok c] at r1
  rw [poR_ok hs] at r2
  rw [decide_eq_true c]
  have r3 := hi (poG s) x (medU s h k)
  have r4 := hj (poG s) x (medU s h k)
  clear hs c hC
  generalize injM (poG s) x (medU s h k) = b1 at *
  generalize surM (poG s) x (medU s h k) = b2 at *
  generalize medU s h k = u at *
  generalize poG s = d at *
  generalize poP s = pp at *
  generalize poK s = kk at *
  obtain ⟨dn, de⟩ := d
  obtain ⟨pn, pe⟩ := pp
  obtain ⟨kn, ke⟩ := kk
  obtain ⟨un, ue⟩ := u
  simp only [poD, gD, gA, mD, mA, spD] at *
  simp (disch := omega) only [go_sem, ↓reduceIte]
  refine call_by r1 ?_
  simp (disch := omega) only [go_sem, ↓reduceIte]
  refine call_by r2 ?_
  simp (disch := omega) only [go_sem, ↓reduceIte]
  refine call_by r3 ?_
  cases b1
  ·simp (disch := omega) only [go_sem, ↓reduceIte]
  ·simp (disch := omega) only [go_sem, ↓reduceIte]
   refine call_by r4 ?_
   simp (disch := omega) only [go_sem, ↓reduceIte]
 ·rw [coc_bad c] at r1
  rw [decide_eq_false c]
  generalize cocE s x h k = v at *
  simp only [gD, mD, spD, mA, m0] at *
  simp (disch := omega) only [go_sem, ↓reduceIte]
  refine call_by r1 ?_
  simp (disch := omega) only [go_sem, ↓reduceIte, c]
end
section
variable {α : Type}
theorem idx_none (p : α → Bool) : ∀ (l : List α) (i : Int), 0 ≤ i → idx p l i = -1 → ∀ x ∈ l, p x = false
 | [], _, _, _, x, hx => by simp at hx
 | a :: l, i, h0, h, x, hx => by
  simp only [idx] at h
  split at h
  ·omega
  ·rename_i ha
   rcases List.mem_cons.1 hx with rfl | hx
   ·simpa using ha
   ·exact idx_none p l (i + 1) (by omega) h x hx
theorem idx_some [Inhabited α] (p : α → Bool) : ∀ (l : List α) (i : Int), idx p l i ≠ -1 → ∃ k : Nat, idx p l i = i + k ∧ k < l.length ∧ p (gt l k) = true ∧ ∀ x ∈ l.take k, p x = false
 | [], _, h => absurd rfl h
 | a :: l, i, h => by
  simp only [idx] at h ⊢
  split
  ·rename_i ha
   exact ⟨0, by simp, by simp, by simpa [gt] using ha, by simp⟩
  ·rename_i ha
   rw [if_neg ha] at h
   obtain ⟨k, h1, h2, h3, h4⟩ := idx_some p l (i + 1) h
   refine ⟨k + 1, by rw [h1]; push_cast; omega, by simpa using h2, ?_, ?_⟩
   ·rw [gt_nat (by simpa using h2)]
    rw [gt_nat h2] at h3
    simpa using h3
   ·rw [List.take_succ_cons]
    intro x hx
    rcases List.mem_cons.1 hx with rfl | hx
    ·simpa using ha
    ·exact h4 x hx
end
@[go_sem] def c_pullback_pairs_r0 : LL := [qn 4 2]
@[go_sem] def c_pullback_pairs_r1 : LL := [qn 5 2]
@[go_sem] def c_pullback_pairs_r2 : LL := [qm 10 0,qz 11 10,qi 12 0]
@[go_sem] def c_pullback_pairs_r3 : LL := [qo .lss 13 12 11]
@[go_sem] def c_pullback_pairs_r4 : LL := [qm 14 12,qd 15 1 10 12,ql 16 1 15,qm 6 14,qm 7 16]
@[go_sem] def c_pullback_pairs_r5 : LL := [qm 17 1,qz 18 17,qi 19 0]
@[go_sem] def c_pullback_pairs_r6 : LL := [qo .lss 20 19 18]
@[go_sem] def c_pullback_pairs_r7 : LL := [qm 21 19,qd 22 1 17 19,ql 23 1 22,qm 8 21,qm 9 23]
@[go_sem] def c_pullback_pairs_r8 : LL := [qm 24 7,qm 25 9,qo .eql 26 24 25]
@[go_sem] def c_pullback_pairs_r9 : LL := [qm 27 5,qm 28 6,qm 29 8,qu 30 [.int .i64 (0),.int .i64 (0)] [(0,1,.t 28),(1,1,.t 29)],⟨some 31,.buildSl 2 16 (.agg [.int .i64 (0),.int .i64 (0)]) 1 [(0,.t 30)],none⟩,
 qp 32 2 16 27 31,qm 5 32]
@[go_sem] def c_pullback_pairs_r10 : LL := [qk .add 33 19 1,qm 19 33]
def c_pullback_pairs_b11 : LC := (.seq (.reg c_pullback_pairs_r6 [1,5,6,7,10,11,12,17,18,19,20]) (.seq (.cond (.t 20) .skip (.exit 2)) (.seq (.block 3 (.seq (.reg c_pullback_pairs_r7 [1,5,6,7,8,9,10,11,12,17,18,19]) (.seq (.reg c_pullback_pairs_r8 [1,5,6,7,8,10,11,12,17,18,19,26]) (.cond (.t 26) (.reg c_pullback_pairs_r9 [1,5,6,7,10,11,12,17,18,19]) .skip)))) (.reg c_pullback_pairs_r10 [1,5,6,7,10,11,12,17,18,19]))))
@[go_sem] def c_pullback_pairs_r12 : LL := [qk .add 34 12 1,qm 12 34]
def c_pullback_pairs_b13 : LC := (.seq (.reg c_pullback_pairs_r3 [1,5,10,11,12,13]) (.seq (.cond (.t 13) .skip (.exit 0)) (.seq (.block 1 (.seq (.reg c_pullback_pairs_r4 [1,5,6,7,10,11,12]) (.seq (.reg c_pullback_pairs_r5 [1,5,6,7,10,11,12,17,18,19]) (.block 2 (.loop [1,5,6,7,10,11,12,17,18,19] c_pullback_pairs_b11))))) (.reg c_pullback_pairs_r12 [1,5,10,11,12]))))
@[go_sem] def c_pullback_pairs_r14 : LL := [qm 35 5,qm 4 35]
@[go_sem] def c_pullback_pairs (F : Fn) : LC := (.seq (.reg c_pullback_pairs_r0 [0,1]) (.seq (.reg c_pullback_pairs_r1 [0,1,5]) (.seq (.seq (.reg c_pullback_pairs_r2 [1,5,10,11,12]) (.block 0 (.loop [1,5,10,11,12] c_pullback_pairs_b13))) (.seq (.reg c_pullback_pairs_r14 [4]) .ret))))
def h_pullback_pairs : Hints := hOf [] (c_pullback_pairs fun _ => 0)
@[go_sem] def c_pullback_sides_r0 : LL := [qn 2 1,qn 3 1]
@[go_sem] def c_pullback_sides_r1 : LL := [qn 4 1,qn 5 1]
@[go_sem] def c_pullback_sides_r2 : LL := [qm 8 0,qz 9 8,qi 10 0]
@[go_sem] def c_pullback_sides_r3 : LL := [qo .lss 11 10 9]
@[go_sem] def c_pullback_sides_r4 : LL := [qd 12 2 8 10,qL 13 2 12,qa 7 [.int .i64 (0),.int .i64 (0)],qs 2 7 13]
@[go_sem] def c_pullback_sides_r5 : LL := [qm 14 4,qf 15 0 7,ql 16 1 15,⟨some 17,.buildSl 1 8 (.int .i64 (0)) 1 [(0,.t 16)],none⟩,qp 18 1 8 14 17,qm 19 5,qf 20 1 7,ql 21 1 20,
 ⟨some 22,.buildSl 1 8 (.int .i64 (0)) 1 [(0,.t 21)],none⟩,qp 23 1 8 19 22,qm 4 18,qm 5 23]
@[go_sem] def c_pullback_sides_r6 : LL := [qk .add 24 10 1,qm 10 24]
def c_pullback_sides_b7 : LC := (.seq (.reg c_pullback_sides_r3 [4,5,8,9,10,11]) (.seq (.cond (.t 11) .skip (.exit 0)) (.seq (.block 1 (.seq (.reg c_pullback_sides_r4 [4,5,7,8,9,10]) (.dreg [(2,none,[],true),(3,none,[],true),(4,none,[],true),(7,(some 64),[3,4],false),(8,(some 192),[2,3,4],false)] c_pullback_sides_r5 [4,5,8,9,10]))) (.reg c_pullback_sides_r6 [4,5,8,9,10]))))
@[go_sem] def c_pullback_sides_r8 : LL := [qm 25 4,qm 26 5,qm 2 25,qm 3 26]
@[go_sem] def c_pullback_sides (F : Fn) : LC := (.seq (.reg c_pullback_sides_r0 [0]) (.seq (.reg c_pullback_sides_r1 [0,4,5]) (.seq (.seq (.reg c_pullback_sides_r2 [4,5,8,9,10]) (.block 0 (.loop [4,5,8,9,10] c_pullback_sides_b7))) (.seq (.reg c_pullback_sides_r8 [2,3]) .ret))))
def h_pullback_sides : Hints := hOf [] (c_pullback_sides fun _ => 0)
@[go_sem] def c_slices_Index_apiPair_r0 : LL := [qB 3 1,qi 4 0]
@[go_sem] def c_slices_Index_apiPair_r1 : LL := [qm 6 0,qz 7 6,qi 8 0]
@[go_sem] def c_slices_Index_apiPair_r2 : LL := [qo .lss 9 8 7]
@[go_sem] def c_slices_Index_apiPair_r3 : LL := [qm 10 8,qm 5 10]
@[go_sem] def c_slices_Index_apiPair_r4 : LL := [qL 11 2 3,qm 12 0,qm 13 5,qd 14 2 12 13,qL 15 2 14,⟨some 16,.eqA 2 false (.t 11) (.t 15),none⟩]
@[go_sem] def c_slices_Index_apiPair_r5 : LL := [qm 17 5,qm 4 17]
@[go_sem] def c_slices_Index_apiPair_r6 : LL := [qk .add 18 8 1,qm 8 18]
def c_slices_Index_apiPair_b7 : LC := (.seq (.reg c_slices_Index_apiPair_r2 [0,3,7,8,9]) (.seq (.cond (.t 9) .skip (.exit 0)) (.seq (.block 1 (.seq (.reg c_slices_Index_apiPair_r3 [0,3,5,7,8]) (.seq (.dreg [] c_slices_Index_apiPair_r4 [0,3,5,7,8,16]) (.cond (.t 16) (.seq (.reg c_slices_Index_apiPair_r5 [4]) .ret) .skip)))) (.reg c_slices_Index_apiPair_r6 [0,3,7,8]))))
@[go_sem] def c_slices_Index_apiPair_r8 : LL := [qi 4 (-1)]
@[go_sem] def c_slices_Index_apiPair (F : Fn) : LC := (.seq (.reg c_slices_Index_apiPair_r0 [0,3]) (.seq (.seq (.reg c_slices_Index_apiPair_r1 [0,3,7,8]) (.block 0 (.loop [0,3,7,8] c_slices_Index_apiPair_b7))) (.seq (.reg c_slices_Index_apiPair_r8 [4]) .ret)))
def h_slices_Index_apiPair : Hints := hOf [] (c_slices_Index_apiPair fun _ => 0)
attribute [go_sem low] prs_atn
def rowP (f g : List Int) (i k : Nat) : List Pr := ((List.range k).filter fun k : Nat => decide (gt f i = gt g k)).map fun k : Nat => ⟨i, k⟩
def pairsI (f g : List Int) (i : Nat) : List Pr := (List.range i).flatMap fun i => rowP f g i g.length
def pairsL (f g : List Int) : List Pr := pairsI f g f.length
theorem rowP_zero (f g : List Int) (i : Nat) : rowP f g i 0 = [] := rfl
theorem rowP_succ (f g : List Int) (i k : Nat) : rowP f g i (k + 1) = if gt f i = gt g k then rowP f g i k ++ [⟨i, k⟩] else rowP f g i k := by
 simp only [rowP, List.range_succ, List.filter_append, List.filter_cons, List.filter_nil, List.map_append, decide_eq_true_eq]
 split <;> simp
theorem rowP_len (f g : List Int) (i k : Nat) : (rowP f g i k).length ≤ k := by
 simp only [rowP, List.length_map]
 exact Nat.le_trans (List.length_filter_le _ _) (by simp)
theorem pairsI_zero (f g : List Int) : pairsI f g 0 = [] := rfl
theorem pairsI_succ (f g : List Int) (i : Nat) : pairsI f g (i + 1) = pairsI f g i ++ rowP f g i g.length := by simp [pairsI, List.range_succ]
theorem pairsI_len (f g : List Int) (i : Nat) : (pairsI f g i).length ≤ i * g.length := by
 induction i with
 | zero => simp [pairsI_zero]
 | succ i ih => rw [pairsI_succ, List.length_append, Nat.succ_mul]; have := rowP_len f g i g.length; omega
def accP (f g : List Int) (i k : Nat) : List Pr := pairsI f g i ++ rowP f g i k
theorem accP_zero (f g : List Int) (i : Nat) : accP f g i 0 = pairsI f g i := by simp [accP, rowP_zero]
theorem accP_succ (f g : List Int) (i k : Nat) : accP f g i (k + 1) = if gt f i = gt g k then accP f g i k ++ [⟨i, k⟩] else accP f g i k := by
 simp only [accP, rowP_succ]; split <;> simp
theorem accP_end (f g : List Int) (i : Nat) : accP f g i g.length = pairsI f g (i + 1) := by simp [accP, pairsI_succ]
theorem accP_len {f g : List Int} (hf : f.length ≤ 10000) (hg : g.length ≤ 10000) {i k : Nat} (h1 : i < f.length) (h2 : k ≤ g.length) : (accP f g i k).length ≤ 100000000 := by
 unfold accP
 rw [List.length_append]
 have a1 := pairsI_len f g i
 have a2 := rowP_len f g i k
 have a3 : i * g.length ≤ 9999 * 10000 := Nat.mul_le_mul (by omega) hg
 omega
def asA (l : List Pr) : List Int := l.map (·.a)
def asB (l : List Pr) : List Int := l.map (·.b)
section
variable (P : Program) (F : String → Nat)
def K_pullback_pairs : Prop := ∀ f g : List Int, f.length ≤ 10000 → g.length ≤ 10000 → FC P (F "pullback.pairs") [.lst 1 (ints f), .lst 1 (ints g)] (.arr 2 (prs (pairsL f g))) []
def K_pullback_sides : Prop := ∀ l : List Pr, l.length ≤ 10000 → FC P (F "pullback.sides") [.lst 2 (prs l)] (.tup [.arr 1 (ints (asA l)), .arr 1 (ints (asB l))]) []
def K_slices_Index_apiPair : Prop := ∀ (l : List Pr) (a b : Int), l.length ≤ maxL → FC P (F "slices.Index.apiPair") [.lst 2 (prs l), .agg [.int .i64 a, .int .i64 b]] (.int .i64 (idx (fun p => decide (p = ⟨a, b⟩)) l 0)) []
end
section
variable {P : Program} {F : String → Nat} {α : Type}
theorem w_pullback_pairs (f g : List Int) (hf : f.length ≤ 10000) (hg : g.length ≤ 10000) : W P (c_pullback_pairs F) (Done [.t 4] [] (.arr 2 (prs (pairsL f g))) []) (init [.lst 1 (ints f), .lst 1 (ints g)]) := by
 refine W_of ?_
 simp (disch := omega) only [go_sem, ↓reduceIte]
 refine W_loop (fun i : Nat => ⟨[(1, .lst 1 (ints g)), (5, .sl 0 0 (pairsI f g i).length), (10, .lst 1 (ints f)), (11, .int .i64 f.length), (12, .int .i64 i)], [(0, .arr 2 (prs (pairsI f g i)))], 1⟩) (fun i => i ≤ f.length) (fun i => f.length - i) 0 ?_ ?_ ?_
 ·simp (disch := omega) only [go_sem, ↓reduceIte, pairsI_zero]
  rfl
 ·simp
 ·intro i hi
  simp (disch := omega) only [go_sem, ↓reduceIte, c_pullback_pairs_b13]
  refine bran_dec (fun c => ?_) (fun c => ?_)
  ·simp (disch := omega) only [go_sem, ↓reduceIte]
   refine W_loop (fun k : Nat => ⟨[(1, .lst 1 (ints g)), (5, .sl 0 0 (accP f g i k).length), (6, .int .i64 i), (7, .int .i64 (gt f i)), (10, .lst 1 (ints f)), (11, .int .i64 f.length), (12, .int .i64 i), (17, .lst 1 (ints g)), (18, .int .i64 g.length), (19, .int .i64 k)],
    [(0, .arr 2 (prs (accP f g i k)))], 1⟩) (fun k => k ≤ g.length) (fun k => g.length - k) 0 ?_ ?_ ?_
   ·simp (disch := omega) only [go_sem, ↓reduceIte, accP_zero]
    rfl
   ·simp
   ·intro k hk
    have b1 := accP_len hf hg (i := i) (k := k) (by omega) (by omega)
    simp (disch := omega) only [go_sem, ↓reduceIte, c_pullback_pairs_b11]
    refine bran_dec (fun d => ?_) (fun d => ?_)
    ·have hs := accP_succ f g i k
     simp (disch := omega) only [go_sem, ↓reduceIte]
     refine bran_dec (fun e => ?_) (fun e => ?_)
     ·rw [if_pos e] at hs
      simp (disch := omega) only [go_sem, ↓reduceIte]
      exact ⟨k + 1, by simp [hs], by omega, by omega⟩
     ·rw [if_neg e] at hs
      simp (disch := omega) only [go_sem, ↓reduceIte]
      exact ⟨k + 1, by simp [hs], by omega, by omega⟩
    ·obtain rfl : k = g.length := by omega
     simp (disch := omega) only [go_sem, ↓reduceIte]
     exact ⟨i + 1, by simp [accP_end], by omega, by omega⟩
  ·obtain rfl : i = f.length := by omega
   simp (disch := omega) only [go_sem, ↓reduceIte]
   rfl
theorem asA_take {l : List Pr} {i : Nat} (h : i < l.length) : asA (l.take (i + 1)) = asA (l.take i) ++ [(gt l i).a] := by rw [take_gt h]; simp [asA]
theorem asB_take {l : List Pr} {i : Nat} (h : i < l.length) : asB (l.take (i + 1)) = asB (l.take i) ++ [(gt l i).b] := by rw [take_gt h]; simp [asB]
theorem asA_len {l : List Pr} {i : Nat} (h : i ≤ l.length) : (asA (l.take i)).length = i := by simp [asA]; omega
theorem asB_len {l : List Pr} {i : Nat} (h : i ≤ l.length) : (asB (l.take i)).length = i := by simp [asB]; omega
theorem w_pullback_sides (l : List Pr) (hl : l.length ≤ 10000) : W P (c_pullback_sides F) (Done [.t 2, .t 3] [] (.tup [.arr 1 (ints (asA l)), .arr 1 (ints (asB l))]) []) (init [.lst 2 (prs l)]) := by
 refine W_of ?_
 simp (disch := omega) only [go_sem, ↓reduceIte]
 refine W_loop (fun i : Nat => ⟨[(4, .sl 0 0 i), (5, .sl 1 0 i), (8, .lst 2 (prs l)), (9, .int .i64 l.length), (10, .int .i64 i)], [(0, .arr 1 (ints (asA (l.take i)))), (1, .arr 1 (ints (asB (l.take i))))], 2⟩) (fun i => i ≤ l.length) (fun i => l.length - i) 0 ?_ ?_ ?_
 ·simp (disch := omega) only [go_sem, ↓reduceIte]
  rfl
 ·simp
 ·intro i hi
  have e1 := asA_len hi
  have e2 := asB_len hi
  simp (disch := omega) only [go_sem, ↓reduceIte, c_pullback_sides_b7]
  refine bran_dec (fun c => ?_) (fun c => ?_)
  ·simp (disch := omega) only [go_sem, ↓reduceIte, e1, e2]
   exact ⟨i + 1, by simp [asA_take (show i < l.length by omega), asB_take (show i < l.length by omega)], by omega, by omega⟩
  ·simp (disch := omega) only [go_sem, ↓reduceIte, e1, e2]
   rw [List.take_of_length_le (by omega)]
end
section
variable {P : Program} {F : String → Nat} {α : Type}
theorem w_slices_Index_apiPair (l : List Pr) (a b : Int) (hl : l.length ≤ maxL) : W P (c_slices_Index_apiPair F) (Done [.t 4] [] (.int .i64 (idx (fun p => decide (p = ⟨a, b⟩)) l 0)) []) (init [.lst 2 (prs l), .agg [.int .i64 a, .int .i64 b]]) := by
 refine W_of ?_
 unfold maxL at hl
 simp (disch := omega) only [go_sem, ↓reduceIte]
 refine W_loop (fun i : Nat => ⟨[(0, .lst 2 (prs l)), (3, .pt 0 0), (7, .int .i64 l.length), (8, .int .i64 i)], [(0, .box [.int .i64 a, .int .i64 b])], 1⟩) (fun i => i ≤ l.length ∧ idx (fun p => decide (p = ⟨a, b⟩)) l 0 = idx (fun p => decide (p = ⟨a, b⟩)) (l.drop i) i) (fun i => l.length - i) 0 ?_ ?_ ?_
 ·simp (disch := omega) only [go_sem, ↓reduceIte]
  rfl
 ·simp
 ·rintro i ⟨hi, he⟩
  simp (disch := omega) only [go_sem, ↓reduceIte, c_slices_Index_apiPair_b7]
  refine bran_dec (fun h => ?_) (fun h => ?_)
  ·have hd := idx_drop (fun p => decide (p = ⟨a, b⟩)) l i (by omega)
   have hq : (decide (a = (gt l i).a) && decide (b = (gt l i).b)) = decide (gt l i = ⟨a, b⟩) := by
    rw [Bool.eq_iff_iff]; simp [eqPr]; constructor <;> rintro ⟨h, k⟩ <;> exact ⟨h.symm, k.symm⟩
   simp (disch := omega) only [go_sem, ↓reduceIte, hq]
   refine bran_dec (fun h2 => ?_) (fun h2 => ?_)
   ·simp (disch := omega) only [go_sem, ↓reduceIte]
    rw [he, hd, if_pos (by simpa using h2)]
   ·simp (disch := omega) only [go_sem, ↓reduceIte]
    exact ⟨i + 1, by simp, ⟨by omega, by rw [he, hd, if_neg (by simpa using h2)]⟩, by omega⟩
  ·simp (disch := omega) only [go_sem, ↓reduceIte]
   rw [he, List.drop_of_length_le (by omega)]
   rfl
end
end Go.Am
