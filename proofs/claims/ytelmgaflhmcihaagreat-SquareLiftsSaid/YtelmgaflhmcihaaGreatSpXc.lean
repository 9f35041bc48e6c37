/- Graphs over a graph: over, Over. -/
import Derived.Test.YtelmgaflhmcihaaGreatSpPa
import Derived.Test.YtelmgaflhmcihaaGreatSpPb
import Derived.Test.YtelmgaflhmcihaaGreatSpPc
import Derived.Test.YtelmgaflhmcihaaGreatSpPd
import Derived.Test.YtelmgaflhmcihaaGreatSpPe
import Derived.Test.YtelmgaflhmcihaaGreatSpXa
import Derived.Test.YtelmgaflhmcihaaGreatSpXb
namespace Go.Am
open Go
set_option linter.unusedVariables false
set_option linter.unusedSimpArgs false
attribute [local irreducible] W
@[go_sem] def c_r11_over_r0 : LL := [qn 4 1]
@[go_sem] def c_r11_over_r1 : LL := [qn 5 1]
@[go_sem] def c_r11_over_r2 : LL := [qi 6 0]
@[go_sem] def c_r11_over_r3 : LL := [qm 7 6,qm 8 0,qz 9 8,qo .lss 10 7 9]
@[go_sem] def c_r11_over_r4 : LL := [qm 13 0,qm 14 6,qd 15 1 13 14,ql 16 1 15,qm 17 1,qo .eql 18 16 17]
@[go_sem] def c_r11_over_r5 : LL := [qm 19 5,qm 20 6,⟨some 21,.buildSl 1 8 (.int .i64 (0)) 1 [(0,.t 20)],none⟩,qp 22 1 8 19 21,qm 5 22]
@[go_sem] def c_r11_over_r6 : LL := [qm 11 6,qk .add 12 11 1,qm 6 12]
def c_r11_over_b7 : LC := (.seq (.seq (.reg c_r11_over_r3 [0,1,5,6,10]) (.cond (.t 10) .skip (.exit 0))) (.seq (.block 1 (.seq (.reg c_r11_over_r4 [0,1,5,6,18]) (.cond (.t 18) (.reg c_r11_over_r5 [0,1,5,6]) .skip))) (.reg c_r11_over_r6 [0,1,5,6])))
@[go_sem] def c_r11_over_r8 : LL := [qm 23 5,qm 4 23]
@[go_sem] def c_r11_over (F : Fn) : LC := (.seq (.reg c_r11_over_r0 [0,1]) (.seq (.reg c_r11_over_r1 [0,1,5]) (.seq (.seq (.reg c_r11_over_r2 [0,1,5,6]) (.block 0 (.loop [0,1,5,6] c_r11_over_b7))) (.seq (.reg c_r11_over_r8 [4]) .ret))))
def h_r11_over : Hints := hn [] [(0,[0,1]),(1,[0,1,5]),(2,[0,1,5,6]),(3,[0,1,5,6,10]),(4,[0,1,5,6]),(5,[0,1,5,6,18]),(6,[0,1,5,6]),(7,[4])] [(3,[0,1,5,6])]
@[go_sem] def c_r11_Over_r0 : LL := [qB 2 0,qB 3 1,qa 4 [.nl 1,.nl 3],qa 5 [.nl 1,.nl 1]]
@[go_sem] def c_r11_Over_r1 : LL := [qa 6 [.nl 1,.nl 3]]
@[go_sem] def c_r11_Over_r2 : LL := [qa 7 [.nl 1,.nl 1]]
@[go_sem] def c_r11_Over_r3 : LL := [qi 8 0]
@[go_sem] def c_r11_Over_r4 : LL := [qm 14 8,qf 15 0 3,ql 16 1 15,qz 17 16,qo .lss 18 14 17,qm 19 18,qg 19 true (qm 20 8),qg 19 true (qk .lss 21 20 8),qP 22 19 21,qm 23 22,qg 23 true (qf 24 0 2),
 qg 23 true (ql 25 1 24),qg 23 true (qz 26 25),qg 23 true (qk .gtr 27 26 0),qP 28 23 27]
@[go_sem] def c_r11_Over_r5 : LL := [qf 31 0 3,ql 32 1 31,qm 33 8,qd 34 1 32 33,ql 35 1 34,⟨some 36,.conv .i64 (.t 35),none⟩,qf 37 0 2,ql 38 1 37,qz 39 38,qo .rem 40 36 39,qm 9 40]
@[go_sem] def c_r11_Over_r6 : LL := [qf 41 0 6,ql 42 1 41,qf 43 0 2,ql 44 1 43,qm 45 9,qd 46 1 44 45,ql 47 1 46,⟨some 48,.buildSl 1 8 (.int .i64 (0)) 1 [(0,.t 47)],none⟩,qp 49 1 8 42 48,qf 50 0 7,ql 51 1 50,qm 52 9,
 ⟨some 53,.buildSl 1 8 (.int .i64 (0)) 1 [(0,.t 52)],none⟩,qp 54 1 8 51 53,qf 55 0 6,qs 1 55 49,qf 56 0 7,qs 1 56 54]
@[go_sem] def c_r11_Over_r7 : LL := [qm 29 8,qk .add 30 29 1,qm 8 30]
def c_r11_Over_b8 : LC := (.seq (.seq (.reg c_r11_Over_r4 [2,3,4,5,6,7,8,28]) (.cond (.t 28) .skip (.exit 0))) (.seq (.block 1 (.seq (.dreg [] c_r11_Over_r5 [2,3,4,5,6,7,8,9]) (.dreg [(1,none,[],true),(3,none,[],true),(5,none,[],true),(6,none,[],true),(7,none,[1],true),(8,none,[],true),(10,(some 512),[7,8],true),(12,(some 2048),[1,3,5,6,7,8,10],false)] c_r11_Over_r6 [2,3,4,5,6,7,8]))) (.reg c_r11_Over_r7 [2,3,4,5,6,7,8])))
@[go_sem] def c_r11_Over_r9 : LL := [qi 10 0]
@[go_sem] def c_r11_Over_r10 : LL := [qm 57 10,qf 58 1 3,ql 59 1 58,qz 60 59,qo .lss 61 57 60,qm 62 61,qg 62 true (qm 63 10),qg 62 true (qk .lss 64 63 10),qP 65 62 64,qm 66 65,qg 66 true (qf 67 1 2),
 qg 66 true (ql 68 1 67),qg 66 true (qz 69 68),qg 66 true (qk .gtr 70 69 0),qP 71 66 70]
@[go_sem] def c_r11_Over_r11 : LL := [qf 74 1 3,ql 75 1 74,qm 76 10,qd 77 3 75 76,⟨some 78,.iaa 3 1 (.t 77) (.k (.int .i64 (0))),none⟩,ql 79 1 78,⟨some 80,.conv .i64 (.t 79),none⟩,qf 81 1 2,ql 82 1 81,qz 83 82,
 qo .rem 84 80 83,qm 11 84]
@[go_sem] def c_r11_Over_r12 (F : Fn) : LL := [qf 85 0 7,ql 86 1 85,qf 87 1 2,ql 88 1 87,qm 89 11,qd 90 3 88 89,qf 91 1 90,ql 92 1 91,qc 93 (F "r11.over") [.t 86,.t 92],qf 94 0 7,ql 95 1 94,qf 96 1 2,ql 97 1 96,qm 98 11,qd 99 3 97 98,
 qf 100 2 99,ql 101 1 100,qc 102 (F "r11.over") [.t 95,.t 101],qm 12 93,qm 13 102]
@[go_sem] def c_r11_Over_r13 : LL := [qm 103 12,qz 104 103,qk .eql 105 104 0,qm 106 105,qg 106 false (qm 107 13),qg 106 false (qz 108 107),qg 106 false (qk .eql 109 108 0),qQ 110 106 109]
@[go_sem] def c_r11_Over_r14 : LL := [qf 111 1 6,ql 112 1 111,qf 113 1 2,ql 114 1 113,qm 115 11,qd 116 3 114 115,qf 117 0 116,ql 118 1 117,qm 119 12,qf 120 1 3,ql 121 1 120,qm 122 10,qd 123 3 121 122,
 ⟨some 124,.iaa 3 1 (.t 123) (.k (.int .i64 (1))),none⟩,ql 125 1 124,⟨some 126,.conv .i64 (.t 125),none⟩,qm 127 12,qz 128 127,qo .rem 129 126 128,qd 130 1 119 129,ql 131 1 130,
 qm 132 13,qf 133 1 3,ql 134 1 133,qm 135 10,qd 136 3 134 135,⟨some 137,.iaa 3 1 (.t 136) (.k (.int .i64 (2))),none⟩,ql 138 1 137,⟨some 139,.conv .i64 (.t 138),none⟩,qm 140 13,
 qz 141 140,qo .rem 142 139 141,qd 143 1 132 142,ql 144 1 143,qu 145 [.int .i64 (0),.int .i64 (0),.int .i64 (0)] [(0,1,.t 118),(1,1,.t 131),(2,1,.t 144)],
 ⟨some 146,.buildSl 3 24 (.agg [.int .i64 (0),.int .i64 (0),.int .i64 (0)]) 1 [(0,.t 145)],none⟩,qp 147 3 24 112 146,qf 148 1 6,qs 1 148 147]
@[go_sem] def c_r11_Over_r15 : LL := [qf 149 1 7,ql 150 1 149,qm 151 11,⟨some 152,.buildSl 1 8 (.int .i64 (0)) 1 [(0,.t 151)],none⟩,qp 153 1 8 150 152,qf 154 1 7,qs 1 154 153]
@[go_sem] def c_r11_Over_r16 : LL := [qm 72 10,qk .add 73 72 1,qm 10 73]
def c_r11_Over_b17 (F : Fn) : LC := (.seq (.seq (.reg c_r11_Over_r10 [2,3,4,5,6,7,10,71]) (.cond (.t 71) .skip (.exit 2))) (.seq (.block 3 (.seq (.dreg [] c_r11_Over_r11 [2,3,4,5,6,7,10,11]) (.seq (.dreg [(8,none,[],true),(10,(some 512),[8],false),(12,(some 2048),[8],false),(14,(some 14336),[8],false),(16,(some 63488),[8],false)] (c_r11_Over_r12 F) [2,3,4,5,6,7,10,11,12,13]) (.seq (.seq (.reg c_r11_Over_r13 [2,3,4,5,6,7,10,11,12,13,110]) (.cond (.t 110) (.exit 3) .skip)) (.seq (.dreg [(1,none,[],true),(35,none,[1],false)] c_r11_Over_r14 [2,3,4,5,6,7,10,11]) (.reg c_r11_Over_r15 [2,3,4,5,6,7,10])))))) (.reg c_r11_Over_r16 [2,3,4,5,6,7,10])))
@[go_sem] def c_r11_Over_r18 : LL := [qL 155 2 6,qL 156 2 7,qs 2 4 155,qs 2 5 156]
@[go_sem] def c_r11_Over (F : Fn) : LC := (.seq (.reg c_r11_Over_r0 [2,3,4,5]) (.seq (.reg c_r11_Over_r1 [2,3,4,5,6]) (.seq (.reg c_r11_Over_r2 [2,3,4,5,6,7]) (.seq (.seq (.reg c_r11_Over_r3 [2,3,4,5,6,7,8]) (.block 0 (.loop [2,3,4,5,6,7,8] c_r11_Over_b8))) (.seq (.seq (.reg c_r11_Over_r9 [2,3,4,5,6,7,10]) (.block 2 (.loop [2,3,4,5,6,7,10] (c_r11_Over_b17 F)))) (.seq (.dreg [(1,none,[],true),(2,none,[1],false)] c_r11_Over_r18 [4,5]) .ret))))))
def h_r11_Over : Hints := hn [] [(0,[2,3,4,5]),(1,[2,3,4,5,6]),(2,[2,3,4,5,6,7]),(3,[2,3,4,5,6,7,8]),(4,[2,3,4,5,6,7,8,28]),(5,[2,3,4,5,6,7,8]),(6,[2,3,4,5,6,7,8,9]),(7,[2,3,4,5,6,7,8]),(8,[2,3,4,5,6,7,10]),(9,[2,3,4,5,6,7,10,71]),(10,[2,3,4,5,6,7,10]),(11,[2,3,4,5,6,7,10,11]),(12,[2,3,4,5,6,7,10,11,12,13]),(13,[2,3,4,5,6,7,10,11,12,13,110]),(14,[2,3,4,5,6,7,10,11]),(15,[2,3,4,5,6,7,10]),(16,[4,5])] [(4,[2,3,4,5,6,7,8]),(9,[2,3,4,5,6,7,10])]
def ovL (l : List Int) (n : Int) : List Int := sel (fun i : Nat => decide (gt l i = n)) l.length
def ovN (d : G) (x : Dr) : List Int := if d.n.length = 0 then [] else (x.n.take 8).map fun v => v.tmod d.n.length
def ovS (d : G) (ns : List Int) (s : List E × List Int) (t : E) : List E × List Int :=
 if (ovL ns (gt d.e (t.t.tmod d.e.length)).f).length = 0 ∨ (ovL ns (gt d.e (t.t.tmod d.e.length)).o).length = 0 then s else
 (s.1 ++ [⟨(gt d.e (t.t.tmod d.e.length)).t, gt (ovL ns (gt d.e (t.t.tmod d.e.length)).f) (t.f.tmod (ovL ns (gt d.e (t.t.tmod d.e.length)).f).length), gt (ovL ns (gt d.e (t.t.tmod d.e.length)).o) (t.o.tmod (ovL ns (gt d.e (t.t.tmod d.e.length)).o).length)⟩], s.2 ++ [t.t.tmod d.e.length])
def ovE (d : G) (ns : List Int) (l : List E) : List E × List Int := l.foldl (ovS d ns) ([], [])
def overE (d : G) (x : Dr) : List E × List Int := if d.e.length = 0 then ([], []) else ovE d (ovN d x) (x.e.take 10)
def overG (d : G) (x : Dr) : G := ⟨(ovN d x).map (gt d.n), (overE d x).1⟩
def overM (d : G) (x : Dr) : Mo := ⟨ovN d x, (overE d x).2⟩
section
variable (P : Program) (F : String → Nat)
def K_r11_over : Prop := ∀ (l : List Int) (n : Int), l.length ≤ 10000 → FC P (F "r11.over") [.lst 1 (ints l), .int .i64 n] (.arr 1 (ints (ovL l n))) []
def K_r11_Over : Prop := ∀ (d : G) (x : Dr), validG d = 0 → x.ok → x.n.length ≤ maxL → x.e.length ≤ maxL → FC P (F "r11.Over") [gD d, drD x] (.tup [gA (overG d x), mA (overM d x)]) []
end
section
variable {P : Program} {F : String → Nat} {α : Type}
theorem w_r11_over (l : List Int) (n : Int) (hl : l.length ≤ 10000) : W P (c_r11_over F) (Done [.t 4] [] (.arr 1 (ints (ovL l n))) []) (init [.lst 1 (ints l), .int .i64 n]) := by
 refine W_of ?_
 simp (disch := omega) only [go_sem, ↓reduceIte]
 refine W_loop (fun i : Nat => ⟨[(0, .lst 1 (ints l)), (1, .int .i64 n), (5, .sl 0 0 (sel (fun i : Nat => decide (gt l i = n)) i).length), (6, .int .i64 i)], [(0, .arr 1 (ints (sel (fun i : Nat => decide (gt l i = n)) i)))], 1⟩) (fun i => i ≤ l.length) (fun i => l.length - i) 0 ?_ ?_ ?_
 ·simp (disch := omega) only [go_sem, ↓reduceIte, sel_zero]
  rfl
 ·simp
 ·intro i hi
  have e1 := sel_len (fun i : Nat => decide (gt l i = n)) i
  have hs := sel_succ (fun i : Nat => decide (gt l i = n)) i
  simp only [decide_eq_true_eq] at hs
  simp (disch := omega) only [go_sem, ↓reduceIte, c_r11_over_b7]
  refine bran_dec (fun c => ?_) (fun c => ?_)
  ·simp (disch := omega) only [go_sem, ↓reduceIte]
   refine bran_dec (fun d => ?_) (fun d => ?_)
   ·rw [if_pos d] at hs
    simp (disch := omega) only [go_sem, ↓reduceIte]
    exact ⟨i + 1, by simp [hs], by omega, by omega⟩
   ·rw [if_neg d] at hs
    simp (disch := omega) only [go_sem, ↓reduceIte]
    exact ⟨i + 1, by simp [hs], by omega, by omega⟩
  ·obtain rfl : i = l.length := by omega
   simp (disch := omega) only [go_sem, ↓reduceIte]
   rfl
set_option maxRecDepth 100000 in
set_option maxHeartbeats 4000000 in
theorem w_r11_Over (ho : K_r11_over P F) (d : G) (x : Dr) (vd : validG d = 0) (hx : x.ok) (h1 : x.n.length ≤ maxL) (h2 : x.e.length ≤ maxL) : W P (c_r11_Over F) (Done [.c 4 true 2, .c 5 true 2] [] (.tup [gA (overG d x), mA (overM d x)]) []) (init [gD d, drD x]) := by
 refine W_of ?_
 obtain ⟨xn, xe⟩ := x
 obtain ⟨o1, o2⟩ := hx
 obtain ⟨d1, d2, _, d4⟩ := valid_spec vd
 obtain ⟨dn, de⟩ := d
 simp only at h1 h2 o1 o2 d1 d2 d4
 unfold maxL at h1 h2
 simp only [gD, drD]
 simp (disch := omega) only [go_sem, ↓reduceIte]
 have mlA : ∀ i, ((xn.take i).map fun v => v.tmod (dn.length : Int)).length = min i xn.length := fun i => by simp
 have mlB : ∀ i, ((xn.take i).map fun v => gt dn (v.tmod (dn.length : Int))).length = min i xn.length := fun i => by simp
 refine W_loop (fun i : Nat => ⟨[(2, D.pt 0 0), (3, D.pt 1 0), (4, D.pt 4 0), (5, D.pt 7 0), (6, D.pt 10 0), (7, D.pt 13 0), (8, D.int IntKind.i64 i)],
   [(0, Ent.box [D.lst 1 (ints dn), D.lst 3 (eds de)]), (1, Ent.box [D.lst 1 (u8s xn), D.lst 3 (trs xe)]), (2, Ent.arr 1 []), (3, Ent.arr 3 []), (4, Ent.box [D.sl 2 0 0, D.sl 3 0 0]), (5, Ent.arr 1 []), (6, Ent.arr 1 []), (7, Ent.box [D.sl 5 0 0, D.sl 6 0 0]),
    (8, Ent.arr 1 (ints ((xn.take i).map fun v => gt dn (v.tmod (dn.length : Int))))), (9, Ent.arr 3 []), (10, Ent.box [D.sl 8 0 i, D.sl 9 0 0]), (11, Ent.arr 1 (ints ((xn.take i).map fun v => v.tmod (dn.length : Int)))), (12, Ent.arr 1 []), (13, Ent.box [D.sl 11 0 i, D.sl 12 0 0])], 14⟩)
   (fun i => i ≤ xn.length ∧ i ≤ 8 ∧ (dn.length = 0 → i = 0)) (fun i => 8 - i) 0 ?_ ?_ ?_
 ·simp (disch := omega) only [go_sem, ↓reduceIte]
  rfl
 ·simp
 ·rintro i ⟨hi, hi8, hi0⟩
  have hmA : ((xn.take i).map fun v => v.tmod (dn.length : Int)).length = i := by rw [mlA]; omega
  have hmB : ((xn.take i).map fun v => gt dn (v.tmod (dn.length : Int))).length = i := by rw [mlB]; omega
  by_cases c : i < xn.length ∧ i < 8 ∧ 0 < dn.length
  ·obtain ⟨c1, c2, c3⟩ := c
   have hb := o1 _ (gt_mem (l := xn) (j := i) (by omega) (by omega))
   have ht := tmod_bd (x := gt xn i) (m := (dn.length : Int)) hb.1 (by omega)
   have z : ¬ ((dn.length : Int) = 0) := by omega
   have w1 : IntKind.i64.wrap (gt xn i) = gt xn i := wrap_i64 (by have := hb.1; omega) (by have := hb.2; omega)
   have e1 : decide ((i : Int) < xn.length) = true := decide_eq_true (by omega)
   have e2 : decide ((i : Int) < 8) = true := decide_eq_true (by omega)
   have e3 : decide ((0 : Int) < dn.length) = true := decide_eq_true (by omega)
   simp (disch := omega) only [go_sem, ↓reduceIte, c_r11_Over_b8, e1, e2, e3, hmA, hmB, w1, z]
   exact ⟨i + 1, by rw [take_gt (by omega)]; simp, by omega, by omega⟩
  ·have hN : (xn.take i).map (fun v => v.tmod (dn.length : Int)) = ovN ⟨dn, de⟩ ⟨xn, xe⟩ := by
    unfold ovN
    simp only
    by_cases h0 : dn.length = 0
    ·rw [if_pos h0, hi0 h0]; rfl
    ·rw [if_neg h0, show xn.take 8 = xn.take i from List.take_eq_take_iff.2 (by omega)]
   have hG : (xn.take i).map (fun v => gt dn (v.tmod (dn.length : Int))) = (ovN ⟨dn, de⟩ ⟨xn, xe⟩).map (gt dn) := by rw [← hN, List.map_map]; rfl
   rw [hN] at hmA
   rw [hG] at hmB
   have hns : ∀ y ∈ ovN ⟨dn, de⟩ ⟨xn, xe⟩, True := fun _ _ => trivial
   have hOG : overG ⟨dn, de⟩ ⟨xn, xe⟩ = ⟨(ovN ⟨dn, de⟩ ⟨xn, xe⟩).map (gt dn), if de.length = 0 then [] else (ovE ⟨dn, de⟩ (ovN ⟨dn, de⟩ ⟨xn, xe⟩) (xe.take 10)).1⟩ := by
    unfold overG overE; split <;> rfl
   have hOM : overM ⟨dn, de⟩ ⟨xn, xe⟩ = ⟨ovN ⟨dn, de⟩ ⟨xn, xe⟩, if de.length = 0 then [] else (ovE ⟨dn, de⟩ (ovN ⟨dn, de⟩ ⟨xn, xe⟩) (xe.take 10)).2⟩ := by
    unfold overM overE; split <;> rfl
   generalize overG ⟨dn, de⟩ ⟨xn, xe⟩ = og at *
   generalize overM ⟨dn, de⟩ ⟨xn, xe⟩ = om at *
   generalize ovN ⟨dn, de⟩ ⟨xn, xe⟩ = ns at *
   generalize hgn : ns.map (gt dn) = gn at *
   rcases (show ¬ i < xn.length ∨ (i < xn.length ∧ ¬ i < 8) ∨ (i < xn.length ∧ i < 8 ∧ ¬ 0 < dn.length) by omega) with c | ⟨c, c'⟩ | ⟨c, c', c''⟩
   case' inl =>
    have e1 : decide ((i : Int) < xn.length) = false := decide_eq_false (by omega)
    simp (disch := omega) only [go_sem, ↓reduceIte, c_r11_Over_b8, e1, hN, hG]
   case' inr.inl =>
    have e1 : decide ((i : Int) < xn.length) = true := decide_eq_true (by omega)
    have e2 : decide ((i : Int) < 8) = false := decide_eq_false (by omega)
    simp (disch := omega) only [go_sem, ↓reduceIte, c_r11_Over_b8, e1, e2, hN, hG]
   case' inr.inr =>
    have e1 : decide ((i : Int) < xn.length) = true := decide_eq_true (by omega)
    have e2 : decide ((i : Int) < 8) = true := decide_eq_true (by omega)
    have e3 : decide ((0 : Int) < dn.length) = false := decide_eq_false (by omega)
    simp (disch := omega) only [go_sem, ↓reduceIte, c_r11_Over_b8, e1, e2, e3, hN, hG]
   all_goals
    refine W_loop (fun s : Nat × List E × List Int => ⟨[(2, D.pt 0 0), (3, D.pt 1 0), (4, D.pt 4 0), (5, D.pt 7 0), (6, D.pt 10 0), (7, D.pt 13 0), (10, D.int IntKind.i64 s.1)],
      [(0, Ent.box [D.lst 1 (ints dn), D.lst 3 (eds de)]), (1, Ent.box [D.lst 1 (u8s xn), D.lst 3 (trs xe)]), (2, Ent.arr 1 []), (3, Ent.arr 3 []), (4, Ent.box [D.sl 2 0 0, D.sl 3 0 0]), (5, Ent.arr 1 []), (6, Ent.arr 1 []), (7, Ent.box [D.sl 5 0 0, D.sl 6 0 0]),
       (8, Ent.arr 1 (ints gn)), (9, Ent.arr 3 (eds s.2.1)), (10, Ent.box [D.sl 8 0 i, D.sl 9 0 s.2.1.length]), (11, Ent.arr 1 (ints ns)), (12, Ent.arr 1 (ints s.2.2)), (13, Ent.box [D.sl 11 0 i, D.sl 12 0 s.2.2.length])], 14⟩)
      (fun s => s.1 ≤ xe.length ∧ s.1 ≤ 10 ∧ (s.1 = 0 ∨ 1 ≤ de.length) ∧ s.2 = ovE ⟨dn, de⟩ ns (xe.take s.1) ∧ s.2.1.length ≤ s.1 ∧ s.2.2.length = s.2.1.length) (fun s => 10 - s.1) (0, [], []) ?_ ?_ ?_
    ·simp (disch := omega) only [go_sem, ↓reduceIte]
     rfl
    ·simp [ovE]
    ·rintro ⟨j, es, ms⟩ ⟨hj, hj10, hj0, hs, hl1, hl2⟩
     simp only at hj hj10 hj0 hs hl1 hl2
     by_cases f : j < xe.length ∧ j < 10 ∧ 0 < de.length
     ·obtain ⟨f1, f2, f3⟩ := f
      obtain ⟨ot, of, oo⟩ := o2 _ (gt_mem (l := xe) (j := j) (by omega) (by omega))
      have hk := tmod_bd (x := (gt xe j).t) (m := (de.length : Int)) ot.1 (by omega)
      have z : ¬ ((de.length : Int) = 0) := by omega
      have w0 : IntKind.i64.wrap (gt xe j).t = (gt xe j).t := wrap_i64 (by have := ot.1; omega) (by have := ot.2; omega)
      have w1 : IntKind.i64.wrap (gt xe j).f = (gt xe j).f := wrap_i64 (by have := of.1; omega) (by have := of.2; omega)
      have w2 : IntKind.i64.wrap (gt xe j).o = (gt xe j).o := wrap_i64 (by have := oo.1; omega) (by have := oo.2; omega)
      have g1 : decide ((j : Int) < xe.length) = true := decide_eq_true (by omega)
      have g2 : decide ((j : Int) < 10) = true := decide_eq_true (by omega)
      have g3 : decide ((0 : Int) < de.length) = true := decide_eq_true (by omega)
      have hstep : ovE ⟨dn, de⟩ ns (xe.take (j + 1)) = ovS ⟨dn, de⟩ ns (es, ms) (gt xe j) := by
       rw [take_gt (by omega), hs, ovE, List.foldl_append]; rfl
      unfold ovS at hstep
      simp only at hstep
      generalize hkd : (gt xe j).t.tmod (de.length : Int) = k at *
      have r1 := ho ns (gt de k).f (by omega)
      have r2 := ho ns (gt de k).o (by omega)
      have q1 : (ovL ns (gt de k).f).length ≤ ns.length := sel_len _ _
      have q2 : (ovL ns (gt de k).o).length ≤ ns.length := sel_len _ _
      generalize ovL ns (gt de k).f = fr at *
      generalize ovL ns (gt de k).o = to at *
      simp (disch := omega) only [go_sem, ↓reduceIte, c_r11_Over_b17, g1, g2, g3, w0, z, hkd]
      refine call_by r1 ?_
      simp (disch := omega) only [go_sem, ↓reduceIte]
      refine call_by r2 ?_
      simp (disch := omega) only [go_sem, ↓reduceIte]
      by_cases p1 : fr.length = 0
      ·rw [if_pos (.inl p1)] at hstep
       have y1 : decide ((fr.length : Int) = 0) = true := decide_eq_true (by omega)
       simp (disch := omega) only [go_sem, ↓reduceIte, y1]
       exact ⟨(j + 1, es, ms), by simp, ⟨by omega, by omega, by omega, hstep.symm, by show es.length ≤ j + 1; omega, hl2⟩, by omega⟩
      ·have y1 : decide ((fr.length : Int) = 0) = false := decide_eq_false (by omega)
       by_cases p2 : to.length = 0
       ·rw [if_pos (.inr p2)] at hstep
        have y2 : decide ((to.length : Int) = 0) = true := decide_eq_true (by omega)
        simp (disch := omega) only [go_sem, ↓reduceIte, y1, y2]
        exact ⟨(j + 1, es, ms), by simp, ⟨by omega, by omega, by omega, hstep.symm, by show es.length ≤ j + 1; omega, hl2⟩, by omega⟩
       ·rw [if_neg (by omega)] at hstep
        have y2 : decide ((to.length : Int) = 0) = false := decide_eq_false (by omega)
        have hf := tmod_bd (x := (gt xe j).f) (m := (fr.length : Int)) of.1 (by omega)
        have ht := tmod_bd (x := (gt xe j).o) (m := (to.length : Int)) oo.1 (by omega)
        generalize hfd : (gt xe j).f.tmod (fr.length : Int) = kf at *
        generalize htd : (gt xe j).o.tmod (to.length : Int) = kt at *
        have z1 : ¬ ((fr.length : Int) = 0) := by omega
        have z2 : ¬ ((to.length : Int) = 0) := by omega
        simp (disch := omega) only [go_sem, ↓reduceIte, y1, y2, g1, w1, w2, hkd, hfd, htd, z1, z2, hl1, hl2, Int.reduceToNat]
        exact ⟨(j + 1, es ++ [⟨(gt de k).t, gt fr kf, gt to kt⟩], ms ++ [k]), by simp [hl2], ⟨by omega, by omega, by omega, hstep.symm, by simp; omega, by simp [hl2]⟩, by omega⟩
     ·have hE : (if de.length = 0 then [] else (ovE ⟨dn, de⟩ ns (xe.take 10)).1) = es := by
       by_cases h0 : de.length = 0
       ·rw [if_pos h0]
        have : j = 0 := by omega
        subst this
        simp [ovE] at hs
        exact hs.1.symm
       ·rw [if_neg h0, show xe.take 10 = xe.take j from List.take_eq_take_iff.2 (by omega), ← hs]
      have hM : (if de.length = 0 then [] else (ovE ⟨dn, de⟩ ns (xe.take 10)).2) = ms := by
       by_cases h0 : de.length = 0
       ·rw [if_pos h0]
        have : j = 0 := by omega
        subst this
        simp [ovE] at hs
        exact hs.2.symm
       ·rw [if_neg h0, show xe.take 10 = xe.take j from List.take_eq_take_iff.2 (by omega), ← hs]
      rw [hE] at hOG
      rw [hM] at hOM
      subst hOG hOM
      simp only [gA, mA]
      rcases (show ¬ j < xe.length ∨ (j < xe.length ∧ ¬ j < 10) ∨ (j < xe.length ∧ j < 10 ∧ ¬ 0 < de.length) by omega) with f | ⟨f, f'⟩ | ⟨f, f', f''⟩
      ·have e1 : decide ((j : Int) < xe.length) = false := decide_eq_false (by omega)
       simp (disch := omega) only [go_sem, ↓reduceIte, c_r11_Over_b17, e1, hmA, hmB, hl2]
       rfl
      ·have e1 : decide ((j : Int) < xe.length) = true := decide_eq_true (by omega)
       have e2 : decide ((j : Int) < 10) = false := decide_eq_false (by omega)
       simp (disch := omega) only [go_sem, ↓reduceIte, c_r11_Over_b17, e1, e2, hmA, hmB, hl2]
       rfl
      ·have e1 : decide ((j : Int) < xe.length) = true := decide_eq_true (by omega)
       have e2 : decide ((j : Int) < 10) = true := decide_eq_true (by omega)
       have e3 : decide ((0 : Int) < de.length) = false := decide_eq_false (by omega)
       simp (disch := omega) only [go_sem, ↓reduceIte, c_r11_Over_b17, e1, e2, e3, hmA, hmB, hl2]
       rfl
end
section
theorem meet_gt {l : List Pr} {h k : List Int} {i : Nat} (hi : i < h.length) : gt (meetL l h k) i = idx (fun p => decide (p = ⟨gt h i, gt k i⟩)) l 0 := by
 unfold meetL meetI
 rw [gt_nat (by simpa using hi)]
 simp
theorem meet_len (l : List Pr) (h k : List Int) : (meetL l h k).length = h.length := by rw [meetL, meetI_len]
theorem med_mk {s : Cs} {x : G} {h k : Mo} (e : pbErr s = 0) (hh : MOk x s.b h) (hk : MOk x s.c k) (cn : ∀ i : Nat, i < x.n.length → gt s.f.n (gt h.n i) = gt s.g.n (gt k.n i)) (ce : ∀ i : Nat, i < x.e.length → gt s.f.e (gt h.e i) = gt s.g.e (gt k.e i)) :
  ∃ m, medM s x h k = (m, 0) ∧ MOk x (pbG0 s) m ∧ (∀ i : Nat, i < x.n.length → gt (pbN s) (gt m.n i) = ⟨gt h.n i, gt k.n i⟩) ∧ ∀ i : Nat, i < x.e.length → gt (pbE s) (gt m.e i) = ⟨gt h.e i, gt k.e i⟩ := by
 have pb := pb_of e
 have hln := hh.ln
 have hle := hh.le
 have nN : ∀ i : Nat, i < x.n.length → (0 ≤ gt (meetL (pbN s) h.n k.n) i ∧ gt (meetL (pbN s) h.n k.n) i < (pbN s).length) ∧ gt (pbN s) (gt (meetL (pbN s) h.n k.n) i) = ⟨gt h.n i, gt k.n i⟩ := fun i hi => by
  rw [meet_gt (by omega)]
  exact idx_spec ((pbN_in pb.f pb.g (hh.nd i hi).1 (hk.nd i hi).1).2 (cn i hi))
 have nE : ∀ i : Nat, i < x.e.length → (0 ≤ gt (meetL (pbE s) h.e k.e) i ∧ gt (meetL (pbE s) h.e k.e) i < (pbE s).length) ∧ gt (pbE s) (gt (meetL (pbE s) h.e k.e) i) = ⟨gt h.e i, gt k.e i⟩ := fun i hi => by
  rw [meet_gt (by omega)]
  exact idx_spec ((pbE_in pb.f pb.g (hh.ed i hi).1 (hk.ed i hi).1).2 (ce i hi))
 have o1 : meetOk (pbN s) h.n k.n = true := by
  unfold meetOk
  rw [List.all_eq_true]
  intro y hy
  obtain ⟨i, hi, rfl⟩ := mem_gt hy
  rw [meet_len] at hi
  simpa using (nN i (by omega)).1.1
 have o2 : meetOk (pbE s) h.e k.e = true := by
  unfold meetOk
  rw [List.all_eq_true]
  intro y hy
  obtain ⟨i, hi, rfl⟩ := mem_gt hy
  rw [meet_len] at hi
  simpa using (nE i (by omega)).1.1
 have er : medErr s x h k = 0 := by
  unfold medErr
  rw [if_neg (by simp [e]), if_neg (by rw [mok.2 hh]; simp)]
  exact mok.2 hk
 refine ⟨⟨meetL (pbN s) h.n k.n, meetL (pbE s) h.e k.e⟩, ?_, ⟨hh.va, pb.p.va, by simp only [meet_len]; omega, by simp only [meet_len]; omega, fun i hi => ?_, fun i hi => ?_⟩, fun i hi => (nN i hi).2, fun i hi => (nE i hi).2⟩
 ·unfold medM
  rw [if_neg (by simp [er]), if_pos ⟨o1, o2⟩]
 ·obtain ⟨h1, h2⟩ := nN i hi
  refine ⟨by simpa [pbG0] using h1, ?_⟩
  obtain ⟨j, hj, hj2⟩ := gtI h1
  simp only
  rw [hj2] at h2 ⊢
  have : gt (pbG0 s).n j = gt s.b.n (gt (pbN s) j).a := gt_map hj
  rw [this, h2]
  exact (hh.nd i hi).2
 ·obtain ⟨h1, h2⟩ := nE i hi
  refine ⟨by simpa [pbG0] using h1, ?_⟩
  obtain ⟨j, hj, hj2⟩ := gtI h1
  simp only
  rw [hj2] at h2 ⊢
  have hg : gt (pbG0 s).e j = pbEdge s.b.e s.c.e (pbN s) (gt (pbE s) j) := gt_map hj
  obtain ⟨_, b1, b2, b3⟩ := hh.ed i hi
  obtain ⟨_, c1, c2, c3⟩ := hk.ed i hi
  obtain ⟨_, f1, f2⟩ := edge_fits hh.va (i := i) (by omega)
  obtain ⟨p, hp, hp2⟩ := gtI f1
  obtain ⟨q, hq, hq2⟩ := gtI f2
  rw [hg, h2]
  refine ⟨b1, ?_, ?_⟩
  ·rw [hp2] at b2 c2 ⊢
   rw [meet_gt (by omega), b2, c2]
   rfl
  ·rw [hq2] at b3 c3 ⊢
   rw [meet_gt (by omega), b3, c3]
   rfl
def Cs.sw (s : Cs) : Cs := ⟨s.c, s.b, s.d, s.g, s.f⟩
end
section
variable (P : Program) (F : String → Nat)
end
section
variable {P : Program} {F : String → Nat} {α : Type}
theorem chk_pb {s : Cs} (e : pbErr s = 0) {a : G} {h k : Mo} (hh : MOk a s.b h) (hk : MOk a s.c k) (hc : thenM h s.f = thenM k s.g)
  (n1 : ∀ i j : Nat, i < a.n.length → j < a.n.length → gt h.n i = gt h.n j → gt k.n i = gt k.n j → i = j)
  (n2 : ∀ x y : Nat, x < s.b.n.length → y < s.c.n.length → gt s.f.n x = gt s.g.n y → ∃ i : Nat, i < a.n.length ∧ gt h.n i = x ∧ gt k.n i = y)
  (m1 : ∀ i j : Nat, i < a.e.length → j < a.e.length → gt h.e i = gt h.e j → gt k.e i = gt k.e j → i = j)
  (m2 : ∀ x y : Nat, x < s.b.e.length → y < s.c.e.length → gt s.f.e x = gt s.g.e y → ∃ i : Nat, i < a.e.length ∧ gt h.e i = x ∧ gt k.e i = y) : checkM s a h k = true := by
 obtain ⟨m, hm, ok, pn, pe⟩ := med_mk e hh hk (fun i hi => thenM_n hc (by rw [hh.ln]; exact hi) (by rw [hk.ln]; exact hi)) (fun i hi => thenM_e hc (by rw [hh.le]; exact hi) (by rw [hk.le]; exact hi))
 have pb := pb_of e
 have hG : pbG s = pbG0 s := by simp [pbG, e]
 have g1 : (pbG0 s).n.length = (pbN s).length := by simp [pbG0]
 have g2 : (pbG0 s).e.length = (pbE s).length := by simp [pbG0]
 have l1 := ok.ln
 have l2 := ok.le
 unfold checkM
 rw [hm, hG]
 have i1 : injM a (pbG0 s) m = true := (injM_ok ok).2 ⟨nodup_ix fun i j hi hj q => by
   rw [l1] at hi hj
   have h1 := pn i hi
   have h2 := pn j hj
   rw [q] at h1
   rw [h1] at h2
   simp only [Pr.mk.injEq] at h2
   exact n1 i j hi hj h2.1 h2.2, nodup_ix fun i j hi hj q => by
   rw [l2] at hi hj
   have h1 := pe i hi
   have h2 := pe j hj
   rw [q] at h1
   rw [h1] at h2
   simp only [Pr.mk.injEq] at h2
   exact m1 i j hi hj h2.1 h2.2⟩
 have i2 : surM a (pbG0 s) m = true := (surM_ok ok).2 ⟨covers_ix.2 fun j hj => by
   rw [g1] at hj
   obtain ⟨b1, b2, b3⟩ := pbN_bd pb.f pb.g (gt_mem (l := pbN s) (j := (j : Int)) (by omega) (by omega))
   obtain ⟨x, hx, ex⟩ := gtI b1
   obtain ⟨y, hy, ey⟩ := gtI b2
   rw [ex, ey] at b3
   obtain ⟨i, hi, q1, q2⟩ := n2 x y hx hy b3
   refine ⟨i, by omega, ?_⟩
   obtain ⟨t, ht, et⟩ := gtI (ok.nd i hi).1
   rw [et]
   have h1 := pn i hi
   rw [et, q1, q2, ← ex, ← ey] at h1
   rw [gt_inj (pairsL_nodup s.f.n s.g.n) (show t < (pbN s).length by omega) hj h1], covers_ix.2 fun j hj => by
   rw [g2] at hj
   obtain ⟨b1, b2, b3⟩ := pbE_bd pb.f pb.g (gt_mem (l := pbE s) (j := (j : Int)) (by omega) (by omega))
   obtain ⟨x, hx, ex⟩ := gtI b1
   obtain ⟨y, hy, ey⟩ := gtI b2
   rw [ex, ey] at b3
   obtain ⟨i, hi, q1, q2⟩ := m2 x y hx hy b3
   refine ⟨i, by omega, ?_⟩
   obtain ⟨t, ht, et⟩ := gtI (ok.ed i hi).1
   rw [et]
   have h1 := pe i hi
   rw [et, q1, q2, ← ex, ← ey] at h1
   rw [gt_inj (pairsL_nodup s.f.e s.g.e) (show t < (pbE s).length by omega) hj h1]⟩
 simp [i1, i2]
section
variable {a b : G} {m : Mo} (hm : MOk a b m) (hn : m.n.Nodup)
include hm
include hn
end
end
section
variable {s : Sp}
theorem SOk.psh (hs : SOk s) : Psh (gluS s) := by
 have e : gluS s = ⟨s.a, s.b, s.c, poG s, s.f, s.g, poP s, poK s⟩ := by unfold gluS; rw [poR_ok hs]
 rw [e]
 exact ⟨⟨hs.f, hs.g, hs.p, hs.k⟩, hs.comm, hs.sepN, hs.sepE, fun j hj => hs.surN hj, fun j hj => hs.surE hj⟩
end
theorem Psh.chk {s : Sq} (h : Psh s) (he : poErr s.dn = 0) : chkP s.dn s.d s.h s.k = true := by
 have hs := poErr_ok.1 he
 obtain ⟨n1, n2, n3⟩ := h.sn (gt (poP s.dn).n) (gt (poK s.dn).n) fun i hi => thenM_n hs.comm (by rw [hs.f.ln]; exact hi) (by rw [hs.g.ln]; exact hi)
 obtain ⟨m1, m2, m3⟩ := h.se (gt (poP s.dn).e) (gt (poK s.dn).e) fun i hi => thenM_e hs.comm (by rw [hs.f.le]; exact hi) (by rw [hs.g.le]; exact hi)
 exact hs.chk_same h.q.h h.q.k h.c n1 n2 n3 h.cn m1 m2 m3 h.ce
section
variable {na nb nc nd : Nat} {f g h k : List Int}
theorem natB {x : Int} {n : Nat} (h : 0 ≤ x ∧ x < n) : ∃ k : Nat, k < n ∧ x = k := ⟨x.toNat, by omega, by omega⟩
theorem Sep.monoF (hS : Sep na nb nc f g h k) (hf : f.Nodup) (lf : f.length = na) {x y : Nat} (hx : x < nb) (hy : y < nc) (e : gt h x = gt k y) : ∃ i : Nat, i < na ∧ gt f i = x ∧ gt g i = y := by
 obtain ⟨_, a2, _⟩ := hS (fun z => if idx (fun y => decide (z = y)) f 0 < 0 then -1 else gt g (idx (fun y => decide (z = y)) f 0)) (fun z => z) (fun i hi => by
  rw [idx_nd hf (by omega), if_neg (by omega)])
 have := a2 x y hx hy e
 by_cases c : (x : Int) ∈ f
 ·obtain ⟨i, hi, ei⟩ := mem_gt c
  rw [← ei, idx_nd hf hi, if_neg (by omega)] at this
  exact ⟨i, by omega, ei, this⟩
 ·rw [if_pos (idx_neg.2 c)] at this
  omega
theorem Sep.sw (hS : Sep na nb nc f g h k) : Sep na nc nb g f k h := by
 intro φ ψ he
 obtain ⟨a1, a2, a3⟩ := hS ψ φ fun i hi => (he i hi).symm
 exact ⟨a3, fun i j hi hj e => (a2 j i hj hi e.symm).symm, a1⟩
end
section
variable {s t : Sq}
theorem Sq.sw_c {s : Sq} (c : thenM s.f s.h = thenM s.g s.k) (q : QOk s) {i : Nat} (hi : i < s.a.n.length) : gt s.h.n (gt s.f.n i) = gt s.k.n (gt s.g.n i) := thenM_n c (by rw [q.f.ln]; exact hi) (by rw [q.g.ln]; exact hi)
theorem Sq.sw_ce {s : Sq} (c : thenM s.f s.h = thenM s.g s.k) (q : QOk s) {i : Nat} (hi : i < s.a.e.length) : gt s.h.e (gt s.f.e i) = gt s.k.e (gt s.g.e i) := thenM_e c (by rw [q.f.le]; exact hi) (by rw [q.g.le]; exact hi)
theorem Psh.pull (h : Psh s) (hi : injM s.a s.b s.f = true ∨ injM s.a s.c s.g = true) (he : pbErr s.up = 0) : checkM s.up s.a s.f s.g = true := by
 have q := h.q
 refine chk_pb he q.f q.g h.c (fun i j hi' hj' e1 e2 => ?_) (fun x y hx hy e => ?_) (fun i j hi' hj' e1 e2 => ?_) (fun x y hx hy e => ?_)
 ·rcases hi with hi | hi
  ·exact gt_inj ((injM_ok q.f).1 hi).1 (by rw [q.f.ln]; exact hi') (by rw [q.f.ln]; exact hj') e1
  ·exact gt_inj ((injM_ok q.g).1 hi).1 (by rw [q.g.ln]; exact hi') (by rw [q.g.ln]; exact hj') e2
 ·rcases hi with hi | hi
  ·exact h.sn.monoF ((injM_ok q.f).1 hi).1 q.f.ln hx hy e
  ·obtain ⟨i, i1, i2, i3⟩ := h.sn.sw.monoF ((injM_ok q.g).1 hi).1 q.g.ln hy hx e.symm
   exact ⟨i, i1, i3, i2⟩
 ·rcases hi with hi | hi
  ·exact gt_inj ((injM_ok q.f).1 hi).2 (by rw [q.f.le]; exact hi') (by rw [q.f.le]; exact hj') e1
  ·exact gt_inj ((injM_ok q.g).1 hi).2 (by rw [q.g.le]; exact hi') (by rw [q.g.le]; exact hj') e2
 ·rcases hi with hi | hi
  ·exact h.se.monoF ((injM_ok q.f).1 hi).2 q.f.le hx hy e
  ·obtain ⟨i, i1, i2, i3⟩ := h.se.sw.monoF ((injM_ok q.g).1 hi).2 q.g.le hy hx e.symm
   exact ⟨i, i1, i3, i2⟩
end
section
variable {na nb nc nd nb' nd' : Nat} {f g h k f' h' k' : List Int}
end
section
variable {s t : Sq} (e1 : t.a = s.b) (e2 : t.c = s.d) (e3 : t.g = s.h)
include e1 e2 e3
end
theorem kind_cases {s : Sq} (q : QOk s) (c : thenM s.f s.h = thenM s.g s.k) : (kindR s).2 = 3 ∨ kindR s = (kindV s, 0) ∧ poErr s.dn = 0 ∧ pbErr s.up = 0 := by
 have com : comB s = true := decide_eq_true c
 have s1 : spE s.dn = 0 := spE_ok.2 ⟨q.f, q.g⟩
 have s2 : givenE s.up = 0 := by
  unfold givenE
  rw [if_neg (by rw [show validM s.up.b s.up.d s.up.f = 0 from mok.2 q.h]; simp)]
  exact mok.2 q.k
 unfold kindR
 rw [if_neg (by simp [sqE_ok.2 q]), if_neg (by simp [com])]
 by_cases c2 : poErr s.dn = 0
 case neg =>
  rw [if_pos c2]
  refine .inl ?_
  unfold poErr at c2 ⊢
  rw [if_neg (by simp [s1])] at c2 ⊢
  simp only
  split
  ·rfl
  ·rename_i hb; rw [if_neg hb] at c2; exact absurd rfl c2
 rw [if_neg (by simp [c2])]
 by_cases c3 : pbErr s.up = 0
 case neg =>
  rw [if_pos c3]
  refine .inl ?_
  unfold pbErr at c3 ⊢
  rw [if_neg (by simp [s2])] at c3 ⊢
  simp only
  split
  ·rfl
  ·rename_i hb; rw [if_neg hb] at c3; exact absurd rfl c3
 rw [if_neg (by simp [c3])]
 exact .inr ⟨rfl, c2, c3⟩
theorem kindV_push {s : Sq} : (kindV s = 1 ∨ kindV s = 3) ↔ chkP s.dn s.d s.h s.k = true := by
 unfold kindV
 cases chkP s.dn s.d s.h s.k <;> cases checkM s.up s.a s.f s.g <;> simp
@[go_sem] def c_r10_Made_r0 : LL := [qB 3 0,qa 6 [.nl 1,.nl 3,.nl 1,.nl 3,.nl 1,.nl 3,.nl 1,.nl 1,.nl 1,.nl 1]]
@[go_sem] def c_r10_Made_r1 (F : Fn) : LL := [qL 8 2 3,qc 9 (F "r05.Made") [.t 8],qu 10 [.nl 1,.nl 3,.nl 1,.nl 3,.nl 1,.nl 3,.nl 1,.nl 1,.nl 1,.nl 1] [(0,2,.t 9)],
 qa 7 [.nl 1,.nl 3,.nl 1,.nl 3,.nl 1,.nl 3,.nl 1,.nl 1,.nl 1,.nl 1],qs 10 7 10]
@[go_sem] def c_r10_Made_r2 (F : Fn) : LL := [qf 12 0 7,qL 13 2 12,qm 14 1,qc 15 (F "r10.Grown") [.t 13,.t 14],qm 11 15,qx 16 11 0,qx 17 11 1,qf 18 2 7,qs 2 18 16,qf 19 6 7,qs 2 19 17]
@[go_sem] def c_r10_Made_r3 (F : Fn) : LL := [qf 21 0 7,qL 22 2 21,qm 23 2,qc 24 (F "r10.Grown") [.t 22,.t 23],qm 20 24,qx 25 20 0,qx 26 20 1,qf 27 4 7,qs 2 27 25,qf 28 8 7,qs 2 28 26]
@[go_sem] def c_r10_Made_r4 : LL := [qL 29 10 7,qs 10 6 29]
@[go_sem] def c_r10_Made (F : Fn) : LC := (.seq (.reg c_r10_Made_r0 [1,2,3,6]) (.seq (.reg (c_r10_Made_r1 F) [1,2,6,7]) (.seq (.reg (c_r10_Made_r2 F) [2,6,7]) (.seq (.reg (c_r10_Made_r3 F) [6,7]) (.seq (.reg c_r10_Made_r4 [6]) .ret)))))
def h_r10_Made : Hints := hOf [] (c_r10_Made fun _ => 0)
def madeSp (d : Dr) (b c : List Int) : Sp := ⟨madeG d, grG (madeG d) b, grG (madeG d) c, grM (madeG d) b, grM (madeG d) c⟩
def spA (s : Sp) : D := .agg [.arr 1 (ints s.a.n), .arr 3 (eds s.a.e), .arr 1 (ints s.b.n), .arr 3 (eds s.b.e), .arr 1 (ints s.c.n), .arr 3 (eds s.c.e), .arr 1 (ints s.f.n), .arr 1 (ints s.f.e), .arr 1 (ints s.g.n), .arr 1 (ints s.g.e)]
def Bts (l : List Int) : Prop := (∀ v ∈ l, Byte v) ∧ l.length ≤ maxL
section
variable (P : Program) (F : String → Nat)
def K_r10_Made : Prop := ∀ (d : Dr) (b c : List Int), d.ok → d.n.length ≤ maxL → d.e.length ≤ maxL → b.length ≤ 1000 → (∀ v ∈ b, Byte v) → c.length ≤ 1000 → (∀ v ∈ c, Byte v) → FC P (F "r10.Made") [drD d, .lst 1 (u8s b), .lst 1 (u8s c)] (spA (madeSp d b c)) []
end
section
variable {P : Program} {F : String → Nat} {α : Type}
theorem mdSp_ok {d : Dr} {b c : List Int} (hd : d.ok) (hb : ∀ v ∈ b, Byte v) (hc : ∀ v ∈ c, Byte v) : SOk (madeSp d b c) ∧ (madeSp d b c).b.n.length ≤ 11 ∧ (madeSp d b c).b.e.length ≤ 14 ∧ (madeSp d b c).c.n.length ≤ 11 ∧ (madeSp d b c).c.e.length ≤ 14 := by
 have va := madeG_valid hd
 have l1 := madeN_len d
 have l2 := madeE_len d
 have l3 : (madeG d).n.length ≤ 8 := l1
 obtain ⟨h1, h2, h3⟩ := gr_ok va hb (by omega) (by omega)
 obtain ⟨h4, h5, h6⟩ := gr_ok va hc (by omega) (by omega)
 have q1 : (madeSp d b c).b.n.length ≤ 11 := Nat.le_trans h2 (by omega)
 have q2 : (madeSp d b c).b.e.length ≤ 14 := Nat.le_trans h3 (by omega)
 have q3 : (madeSp d b c).c.n.length ≤ 11 := Nat.le_trans h5 (by omega)
 have q4 : (madeSp d b c).c.e.length ≤ 14 := Nat.le_trans h6 (by omega)
 exact ⟨⟨h1, h4, fun h => by unfold Big at h; omega⟩, q1, q2, q3, q4⟩
theorem w_r10_Made (hm : K_r05_Made P F) (hg : K_r10_Grown P F) (d : Dr) (b c : List Int) (hd : d.ok) (d1 : d.n.length ≤ maxL) (d2 : d.e.length ≤ maxL) (b1 : b.length ≤ 1000) (b2 : ∀ v ∈ b, Byte v) (c1 : c.length ≤ 1000) (c2 : ∀ v ∈ c, Byte v) :
  W P (c_r10_Made F) (Done [.c 6 true 10] [] (spA (madeSp d b c)) []) (init [drD d, .lst 1 (u8s b), .lst 1 (u8s c)]) := by
 refine W_of ?_
 have r1 := hm d hd d1 d2
 have va := madeG_valid hd
 have r2 := hg (madeG d) b va (by omega) b2
 have r3 := hg (madeG d) c va (by omega) c2
 unfold madeSp
 generalize grM (madeG d) b = bm at *
 generalize grM (madeG d) c = cm at *
 generalize grG (madeG d) b = bg at *
 generalize grG (madeG d) c = cg at *
 clear va
 generalize madeG d = a at *
 obtain ⟨an, ae⟩ := a
 obtain ⟨bn, be⟩ := bg
 obtain ⟨cn, ce⟩ := cg
 obtain ⟨bmn, bme⟩ := bm
 obtain ⟨cmn, cme⟩ := cm
 simp only [gD, gA, mD, mA, drD] at *
 simp (disch := omega) only [go_sem, ↓reduceIte]
 refine call_by r1 ?_
 simp (disch := omega) only [go_sem, ↓reduceIte]
 refine call_by r2 ?_
 simp (disch := omega) only [go_sem, ↓reduceIte]
 refine call_by r3 ?_
 simp (disch := omega) only [go_sem, ↓reduceIte]
 try rfl
def shU82 : Sh := .cat [shU8s, shU8s]
theorem rd_u82 {x : D} (h : HasEl shU82 x) : ∃ b c : List Int, x = .agg [.lst 1 (u8s b), .lst 1 (u8s c)] ∧ Bts b ∧ Bts c := by
 simp only [shU82, HasEl] at h
 obtain ⟨ds, rfl, h⟩ := h
 obtain ⟨_, _, rfl, h1, h⟩ := hasShs_slc h
 obtain ⟨_, _, rfl, h2, h⟩ := hasShs_slc h
 obtain rfl := hasShs_nil h
 obtain ⟨b, rfl, b1, b2⟩ := rd_u8s h1
 obtain ⟨c, rfl, c1, c2⟩ := rd_u8s h2
 exact ⟨b, c, rfl, ⟨b1, b2⟩, ⟨c1, c2⟩⟩
end
def gluD (s : Sp) (r : G × Mo × Mo × Int) : D := .agg [.lst 1 (ints s.a.n), .lst 3 (eds s.a.e), .lst 1 (ints s.b.n), .lst 3 (eds s.b.e), .lst 1 (ints s.c.n), .lst 3 (eds s.c.e), .arr 1 (ints r.1.n), .arr 3 (eds r.1.e),
 .lst 1 (ints s.f.n), .lst 1 (ints s.f.e), .lst 1 (ints s.g.n), .lst 1 (ints s.g.e), .arr 1 (ints r.2.1.n), .arr 1 (ints r.2.1.e), .arr 1 (ints r.2.2.1.n), .arr 1 (ints r.2.2.1.e)]
section
variable (P : Program) (F : String → Nat)
def K_r14_Glued : Prop := ∀ s : Sp, FC P (F "r14.Glued") [spD s] (gluD s (poR s)) []
end
section
variable {P : Program} {F : String → Nat} {α : Type}
theorem w_r14_Glued (ho : K_r10_Of P F) (s : Sp) : W P (c_r14_Glued F) (Done [.c 2 true 16] [] (gluD s (poR s)) []) (init [spD s]) := by
 refine W_of ?_
 have r1 := ho s
 generalize poR s = r at *
 obtain ⟨⟨pn, pe⟩, ⟨hn, he⟩, ⟨kn, ke⟩, e⟩ := r
 simp only [gluD, poD, spD, gA, mA] at *
 simp (disch := omega) only [go_sem, ↓reduceIte]
 refine call_by r1 ?_
 simp (disch := omega) only [go_sem, ↓reduceIte]
 try rfl
end
def gloS (s : Sp) : Sq := ⟨s.a, s.b, s.c, poG s, s.f, s.g, poP s, poK s⟩
section
variable (P : Program) (F : String → Nat)
end
section
variable {P : Program} {F : String → Nat} {α : Type}
theorem gloS_eq {s : Sp} (hs : SOk s) : gluS s = gloS s := by unfold gluS gloS; rw [poR_ok hs]
theorem gloS_psh {s : Sp} (hs : SOk s) : Psh (gloS s) := by rw [← gloS_eq hs]; exact hs.psh
theorem kind_push {s : Sq} (h : Psh s) : (kindR s).2 = 3 ∨ (kindR s).2 = 0 ∧ ((kindR s).1 = 1 ∨ (kindR s).1 = 3) := by
 rcases kind_cases h.q h.c with e | ⟨e, e1, e2⟩
 ·exact .inl e
 ·rw [e]
  exact .inr ⟨rfl, kindV_push.2 (h.chk e1)⟩
end
section
variable {na nb nc nx : Nat} {f g h k m tf tg : List Int} {A B C : List Pr}
theorem sep_lift (S : Sep na nb nc f g h k) (nB : B.Nodup) (nC : C.Nodup)
  (B1 : ∀ j : Nat, j < B.length → ∃ b x : Nat, b < nb ∧ x < nx ∧ gt B j = ⟨b, x⟩ ∧ gt h b = gt m x) (C1 : ∀ j : Nat, j < C.length → ∃ b x : Nat, b < nc ∧ x < nx ∧ gt C j = ⟨b, x⟩ ∧ gt k b = gt m x)
  (A2 : ∀ i x : Nat, i < na → x < nx → gt h (gt f i) = gt m x → ∃ j : Nat, j < A.length ∧ gt A j = ⟨i, x⟩)
  (F1 : ∀ j : Nat, j < A.length → ∃ t : Nat, t < B.length ∧ gt tf j = t ∧ gt B t = ⟨gt f (gt A j).a, (gt A j).b⟩) (G1 : ∀ j : Nat, j < A.length → ∃ t : Nat, t < C.length ∧ gt tg j = t ∧ gt C t = ⟨gt g (gt A j).a, (gt A j).b⟩)
  (cm : ∀ i : Nat, i < na → gt h (gt f i) = gt k (gt g i)) : Sep A.length B.length C.length tf tg (asB B) (asB C) := by
 intro φ ψ e
 have hB : ∀ (l : List Pr) (i : Nat), i < l.length → gt (asB l) i = (gt l i).b := fun l i hi => gt_map hi
 let φx : Nat → Int → Int := fun x b => if idx (fun p => decide (p = (⟨b, x⟩ : Pr))) B 0 < 0 then 0 else φ (idx (fun p => decide (p = (⟨b, x⟩ : Pr))) B 0)
 let ψx : Nat → Int → Int := fun x b => if idx (fun p => decide (p = (⟨b, x⟩ : Pr))) C 0 < 0 then 0 else ψ (idx (fun p => decide (p = (⟨b, x⟩ : Pr))) C 0)
 have p1 : ∀ (i x : Nat) (b : Int), i < B.length → gt B i = ⟨b, x⟩ → φx x b = φ i := fun i x b hi hb => by
  show (if idx (fun p => decide (p = (⟨b, x⟩ : Pr))) B 0 < 0 then 0 else φ (idx (fun p => decide (p = (⟨b, x⟩ : Pr))) B 0)) = _
  rw [← hb, idx_own nB hi, if_neg (by omega)]
 have q1 : ∀ (i x : Nat) (b : Int), i < C.length → gt C i = ⟨b, x⟩ → ψx x b = ψ i := fun i x b hi hb => by
  show (if idx (fun p => decide (p = (⟨b, x⟩ : Pr))) C 0 < 0 then 0 else ψ (idx (fun p => decide (p = (⟨b, x⟩ : Pr))) C 0)) = _
  rw [← hb, idx_own nC hi, if_neg (by omega)]
 have p2 : ∀ (x : Nat) (b : Int), gt h b ≠ gt m x → φx x b = 0 := fun x b hn => by
  show (if idx (fun p => decide (p = (⟨b, x⟩ : Pr))) B 0 < 0 then 0 else φ (idx (fun p => decide (p = (⟨b, x⟩ : Pr))) B 0)) = _
  refine if_pos ?_
  refine Decidable.byContradiction fun hc => hn ?_
  have hm := idx_mem.1 (show 0 ≤ idx (fun p => decide (p = (⟨b, x⟩ : Pr))) B 0 by omega)
  obtain ⟨j, hj, ej⟩ := mem_gt hm
  obtain ⟨b', x', _, _, e1, e2⟩ := B1 j hj
  rw [ej] at e1
  simp only [Pr.mk.injEq] at e1
  rw [e1.1, e2, ← e1.2]
 have q2 : ∀ (x : Nat) (b : Int), gt k b ≠ gt m x → ψx x b = 0 := fun x b hn => by
  show (if idx (fun p => decide (p = (⟨b, x⟩ : Pr))) C 0 < 0 then 0 else ψ (idx (fun p => decide (p = (⟨b, x⟩ : Pr))) C 0)) = _
  refine if_pos ?_
  refine Decidable.byContradiction fun hc => hn ?_
  have hm := idx_mem.1 (show 0 ≤ idx (fun p => decide (p = (⟨b, x⟩ : Pr))) C 0 by omega)
  obtain ⟨j, hj, ej⟩ := mem_gt hm
  obtain ⟨b', x', _, _, e1, e2⟩ := C1 j hj
  rw [ej] at e1
  simp only [Pr.mk.injEq] at e1
  rw [e1.1, e2, ← e1.2]
 have key : ∀ x : Nat, x < nx → ∀ i : Nat, i < na → φx x (gt f i) = ψx x (gt g i) := fun x hx i hi => by
  by_cases d : gt h (gt f i) = gt m x
  ·obtain ⟨j, hj, ej⟩ := A2 i x hi hx d
   obtain ⟨t, t1, t2, t3⟩ := F1 j hj
   obtain ⟨u, u1, u2, u3⟩ := G1 j hj
   rw [ej] at t3 u3
   rw [p1 t x _ t1 t3, q1 u x _ u1 u3, ← t2, ← u2]
   exact e j hj
  ·rw [p2 x _ d, q2 x _ (by rw [← cm i hi]; exact d)]
 refine ⟨fun i j hi hj q => ?_, fun i j hi hj q => ?_, fun i j hi hj q => ?_⟩
 ·obtain ⟨b, x, hb, hx, e1, e2⟩ := B1 i hi
  obtain ⟨b', x', hb', hx', e1', e2'⟩ := B1 j hj
  rw [hB B i hi, hB B j hj, e1, e1'] at q
  simp only at q
  obtain rfl : x = x' := by omega
  rw [← p1 i x b hi e1, ← p1 j x b' hj e1']
  exact (S _ _ (key x hx)).1 b b' hb hb' (by rw [e2, e2'])
 ·obtain ⟨b, x, hb, hx, e1, e2⟩ := B1 i hi
  obtain ⟨b', x', hb', hx', e1', e2'⟩ := C1 j hj
  rw [hB B i hi, hB C j hj, e1, e1'] at q
  simp only at q
  obtain rfl : x = x' := by omega
  rw [← p1 i x b hi e1, ← q1 j x b' hj e1']
  exact (S _ _ (key x hx)).2.1 b b' hb hb' (by rw [e2, e2'])
 ·obtain ⟨b, x, hb, hx, e1, e2⟩ := C1 i hi
  obtain ⟨b', x', hb', hx', e1', e2'⟩ := C1 j hj
  rw [hB C i hi, hB C j hj, e1, e1'] at q
  simp only at q
  obtain rfl : x = x' := by omega
  rw [← q1 i x b hi e1, ← q1 j x b' hj e1']
  exact (S _ _ (key x hx)).2.2 b b' hb hb' (by rw [e2, e2'])
theorem cov_lift {nd : Nat} (S : Cov nb nc nd h k) (mb : ∀ x : Nat, x < nx → 0 ≤ gt m x ∧ gt m x < nd) (B2 : ∀ b x : Nat, b < nb → x < nx → gt h b = gt m x → ∃ j : Nat, j < B.length ∧ gt B j = ⟨b, x⟩)
  (C2 : ∀ b x : Nat, b < nc → x < nx → gt k b = gt m x → ∃ j : Nat, j < C.length ∧ gt C j = ⟨b, x⟩) : Cov B.length C.length nx (asB B) (asB C) := by
 intro x hx
 have hB : ∀ (l : List Pr) (i : Nat), i < l.length → gt (asB l) i = (gt l i).b := fun l i hi => gt_map hi
 obtain ⟨z, hz, ez⟩ := natB (mb x hx)
 rcases S z hz with ⟨b, hb, eb⟩ | ⟨b, hb, eb⟩
 ·obtain ⟨j, hj, ej⟩ := B2 b x hb hx (by rw [eb, ez])
  exact .inl ⟨j, hj, by rw [hB B j hj, ej]⟩
 ·obtain ⟨j, hj, ej⟩ := C2 b x hb hx (by rw [eb, ez])
  exact .inr ⟨j, hj, by rw [hB C j hj, ej]⟩
end
section
variable {s : Cs} (hf : MOk s.b s.d s.f) (hg : MOk s.c s.d s.g)
include hf hg
theorem pbN_1 {j : Nat} (hj : j < (pbN s).length) : ∃ b x : Nat, b < s.b.n.length ∧ x < s.c.n.length ∧ gt (pbN s) j = ⟨b, x⟩ ∧ gt s.f.n b = gt s.g.n x := by
 obtain ⟨b1, b2, b3⟩ := pbN_bd hf hg (gt_mem (l := pbN s) (j := (j : Int)) (by omega) (by omega))
 obtain ⟨b, hb, eb⟩ := natB b1
 obtain ⟨x, hx, ex⟩ := natB b2
 refine ⟨b, x, hb, hx, ?_, by rw [← eb, ← ex]; exact b3⟩
 rw [← eb, ← ex]
theorem pbE_1 {j : Nat} (hj : j < (pbE s).length) : ∃ b x : Nat, b < s.b.e.length ∧ x < s.c.e.length ∧ gt (pbE s) j = ⟨b, x⟩ ∧ gt s.f.e b = gt s.g.e x := by
 obtain ⟨b1, b2, b3⟩ := pbE_bd hf hg (gt_mem (l := pbE s) (j := (j : Int)) (by omega) (by omega))
 obtain ⟨b, hb, eb⟩ := natB b1
 obtain ⟨x, hx, ex⟩ := natB b2
 refine ⟨b, x, hb, hx, ?_, by rw [← eb, ← ex]; exact b3⟩
 rw [← eb, ← ex]
theorem pbN_2 {b x : Nat} (hb : b < s.b.n.length) (hx : x < s.c.n.length) (e : gt s.f.n b = gt s.g.n x) : ∃ j : Nat, j < (pbN s).length ∧ gt (pbN s) j = ⟨b, x⟩ := mem_gt ((pbN_in hf hg (by omega) (by omega)).2 e)
theorem pbE_2 {b x : Nat} (hb : b < s.b.e.length) (hx : x < s.c.e.length) (e : gt s.f.e b = gt s.g.e x) : ∃ j : Nat, j < (pbE s).length ∧ gt (pbE s) j = ⟨b, x⟩ := mem_gt ((pbE_in hf hg (by omega) (by omega)).2 e)
end
theorem pbErr_val {s : Cs} (hf : MOk s.b s.d s.f) (hg : MOk s.c s.d s.g) : pbErr s = 0 ∨ pbErr s = 3 := by
 have s2 : givenE s = 0 := by
  unfold givenE
  rw [if_neg (by rw [mok.2 hf]; simp)]
  exact mok.2 hg
 unfold pbErr
 rw [if_neg (by simp [s2])]
 split
 ·exact .inr rfl
 ·exact .inl rfl
section
variable {s : Sq} {x : G} {m : Mo}
theorem lif_side {c : G} {k : Mo} {g : Mo} (pA : pbErr (s.oA x m) = 0) (o : Cs) (ob : o.b = c) (oc : o.c = x) (od : o.d = s.d) (of : o.f = k) (og : o.g = m) (pO : pbErr o = 0) (hg : MOk s.a c g) (hh : MOk s.a s.d (thenM s.f s.h)) (hm : MOk x s.d m)
  (en : ∀ i : Nat, i < s.a.n.length → gt k.n (gt g.n i) = gt (thenM s.f s.h).n i) (ee : ∀ i : Nat, i < s.a.e.length → gt k.e (gt g.e i) = gt (thenM s.f s.h).e i) :
  ∃ u, medM o (pbG (s.oA x m)) (thenM (pbP (s.oA x m)) g) (pbQ (s.oA x m)) = (u, 0) ∧ MOk (pbG (s.oA x m)) (pbG o) u ∧
   (∀ j : Nat, j < (pbN (s.oA x m)).length → ∃ t : Nat, t < (pbN o).length ∧ gt u.n j = t ∧ gt (pbN o) t = ⟨gt g.n (gt (pbN (s.oA x m)) j).a, (gt (pbN (s.oA x m)) j).b⟩) ∧
   (∀ j : Nat, j < (pbE (s.oA x m)).length → ∃ t : Nat, t < (pbE o).length ∧ gt u.e j = t ∧ gt (pbE o) t = ⟨gt g.e (gt (pbE (s.oA x m)) j).a, (gt (pbE (s.oA x m)) j).b⟩) := by
 obtain ⟨p1, p2⟩ := pbP_ok pA
 have hA : ∀ (l : List Pr) (i : Nat), i < l.length → gt (asA l) i = (gt l i).a := fun l i hi => gt_map hi
 have hB : ∀ (l : List Pr) (i : Nat), i < l.length → gt (asB l) i = (gt l i).b := fun l i hi => gt_map hi
 have eG : pbG (s.oA x m) = pbG0 (s.oA x m) := by simp [pbG, pA]
 have eP : pbP (s.oA x m) = ⟨asA (pbN (s.oA x m)), asA (pbE (s.oA x m))⟩ := by simp [pbP, pA]
 have eQ : pbQ (s.oA x m) = ⟨asB (pbN (s.oA x m)), asB (pbE (s.oA x m))⟩ := by simp [pbQ, pA]
 have g1 : (pbG (s.oA x m)).n.length = (pbN (s.oA x m)).length := by rw [eG]; simp [pbG0]
 have g2 : (pbG (s.oA x m)).e.length = (pbE (s.oA x m)).length := by rw [eG]; simp [pbG0]
 have l1 := p1.ln
 have l2 := p1.le
 have tn : ∀ j : Nat, j < (pbN (s.oA x m)).length → gt (thenM (pbP (s.oA x m)) g).n j = gt g.n (gt (pbN (s.oA x m)) j).a := fun j hj => by
  simp only [thenM]
  rw [thr_gt (by omega), eP, hA _ j hj]
 have te : ∀ j : Nat, j < (pbE (s.oA x m)).length → gt (thenM (pbP (s.oA x m)) g).e j = gt g.e (gt (pbE (s.oA x m)) j).a := fun j hj => by
  simp only [thenM]
  rw [thr_gt (by omega), eP, hA _ j hj]
 have un : ∀ j : Nat, j < (pbN (s.oA x m)).length → gt (pbQ (s.oA x m)).n j = (gt (pbN (s.oA x m)) j).b := fun j hj => by rw [eQ, hB _ j hj]
 have ue : ∀ j : Nat, j < (pbE (s.oA x m)).length → gt (pbQ (s.oA x m)).e j = (gt (pbE (s.oA x m)) j).b := fun j hj => by rw [eQ, hB _ j hj]
 subst ob oc of og
 obtain ⟨u, u1, u2, u3, u4⟩ := med_mk (s := o) pO (then_okP p1 hg) p2 (fun j hj => by
  have hj' : j < (pbN (s.oA o.c o.g)).length := by omega
  obtain ⟨b, y, hb, hy, e1, e2⟩ := pbN_1 (s := s.oA o.c o.g) hh hm hj'
  have hb : b < s.a.n.length := hb
  rw [tn j hj', un j hj', e1]
  simp only
  rw [en b hb]
  exact e2) (fun j hj => by
  have hj' : j < (pbE (s.oA o.c o.g)).length := by omega
  obtain ⟨b, y, hb, hy, e1, e2⟩ := pbE_1 (s := s.oA o.c o.g) hh hm hj'
  have hb : b < s.a.e.length := hb
  rw [te j hj', ue j hj', e1]
  simp only
  rw [ee b hb]
  exact e2)
 have eO : pbG o = pbG0 o := by simp [pbG, pO]
 have g3 : (pbG0 o).n.length = (pbN o).length := by simp [pbG0]
 have g4 : (pbG0 o).e.length = (pbE o).length := by simp [pbG0]
 refine ⟨u, u1, by rw [eO]; exact u2, fun j hj => ?_, fun j hj => ?_⟩
 ·obtain ⟨t, ht, et⟩ := gtI (u2.nd j (by omega)).1
  have := u3 j (by omega)
  rw [et, tn j hj, un j hj] at this
  exact ⟨t, by omega, et, this⟩
 ·obtain ⟨t, ht, et⟩ := gtI (u2.ed j (by omega)).1
  have := u4 j (by omega)
  rw [et, te j hj, ue j hj] at this
  exact ⟨t, by omega, et, this⟩
theorem lift_facts (h : Psh s) (hm : MOk x s.d m) : liftE s x m = 3 ∨ liftE s x m = 0 ∧ Psh (lifS s x m) := by
 obtain ⟨q, c, sn, se, cn, ce⟩ := h
 have com : comB s = true := decide_eq_true c
 have hh : MOk s.a s.d (thenM s.f s.h) := then_okP q.f q.h
 have hE : liftE s x m = if sqE s ≠ 0 then sqE s else if validM x s.d m ≠ 0 then validM x s.d m else if comB s = false then 11 else if pbErr (s.oB x m) ≠ 0 then pbErr (s.oB x m) else if pbErr (s.oC x m) ≠ 0 then pbErr (s.oC x m) else
  if pbErr (s.oA x m) ≠ 0 then pbErr (s.oA x m) else if (lifF s x m).2 ≠ 0 then (lifF s x m).2 else (lifG s x m).2 := rfl
 rw [if_neg (by simp [sqE_ok.2 q]), if_neg (by simp [mok.2 hm]), if_neg (by simp [com])] at hE
 rcases pbErr_val (s := s.oB x m) q.h hm with pB | pB
 case inr => rw [if_pos (by rw [pB]; decide), pB] at hE; exact .inl hE
 rw [if_neg (by simp [pB])] at hE
 rcases pbErr_val (s := s.oC x m) q.k hm with pC | pC
 case inr => rw [if_pos (by rw [pC]; decide), pC] at hE; exact .inl hE
 rw [if_neg (by simp [pC])] at hE
 rcases pbErr_val (s := s.oA x m) hh hm with pA | pA
 case inr => rw [if_pos (by rw [pA]; decide), pA] at hE; exact .inl hE
 rw [if_neg (by simp [pA])] at hE
 have en : ∀ i : Nat, i < s.a.n.length → gt (thenM s.f s.h).n i = gt s.h.n (gt s.f.n i) := fun i hi => by simp only [thenM]; rw [thr_gt (by rw [q.f.ln]; exact hi)]
 have ee : ∀ i : Nat, i < s.a.e.length → gt (thenM s.f s.h).e i = gt s.h.e (gt s.f.e i) := fun i hi => by simp only [thenM]; rw [thr_gt (by rw [q.f.le]; exact hi)]
 obtain ⟨u, u1, u2, u3, u4⟩ := lif_side (s := s) (x := x) (m := m) (c := s.b) (k := s.h) (g := s.f) pA (s.oB x m) rfl rfl rfl rfl rfl pB q.f hh hm (fun i hi => (en i hi).symm) (fun i hi => (ee i hi).symm)
 obtain ⟨v, v1, v2, v3, v4⟩ := lif_side (s := s) (x := x) (m := m) (c := s.c) (k := s.k) (g := s.g) pA (s.oC x m) rfl rfl rfl rfl rfl pC q.g hh hm (fun i hi => by rw [en i hi, Sq.sw_c c q hi]) (fun i hi => by rw [ee i hi, Sq.sw_ce c q hi])
 have eF : lifF s x m = (u, 0) := u1
 have eG : lifG s x m = (v, 0) := v1
 rw [eF, eG, if_neg (by simp)] at hE
 refine .inr ⟨hE, ?_⟩
 have g0 : ∀ o : Cs, pbErr o = 0 → (pbG o).n.length = (pbN o).length ∧ (pbG o).e.length = (pbE o).length ∧ (pbQ o).n = asB (pbN o) ∧ (pbQ o).e = asB (pbE o) := fun o ho => by simp [pbG, pbQ, ho, pbG0]
 obtain ⟨a1, a2, a3, a4⟩ := g0 _ pA
 obtain ⟨b1, b2, b3, b4⟩ := g0 _ pB
 obtain ⟨c1, c2, c3, c4⟩ := g0 _ pC
 have hB : ∀ (l : List Pr) (i : Nat), i < l.length → gt (asB l) i = (gt l i).b := fun l i hi => gt_map hi
 have eS : lifS s x m = ⟨pbG (s.oA x m), pbG (s.oB x m), pbG (s.oC x m), x, u, v, pbQ (s.oB x m), pbQ (s.oC x m)⟩ := by unfold lifS; rw [eF, eG]
 rw [eS]
 have l1 := u2.ln
 have l2 := u2.le
 have l3 := v2.ln
 have l4 := v2.le
 refine ⟨⟨u2, v2, (pbP_ok pB).2, (pbP_ok pC).2⟩, ?_, ?_, ?_, ?_, ?_⟩
 ·simp only [thenM]
  rw [b3, b4, c3, c4]
  refine mo_ext (thr_ext (by omega) fun j hj => ?_) (thr_ext (by omega) fun j hj => ?_)
  ·obtain ⟨t, t1, t2, t3⟩ := u3 j (by omega)
   obtain ⟨r, r1, r2, r3⟩ := v3 j (by omega)
   rw [t2, r2, hB _ t t1, hB _ r r1, t3, r3]
  ·obtain ⟨t, t1, t2, t3⟩ := u4 j (by omega)
   obtain ⟨r, r1, r2, r3⟩ := v4 j (by omega)
   rw [t2, r2, hB _ t t1, hB _ r r1, t3, r3]
 ·simp only
  rw [a1, b1, c1, b3, c3]
  exact sep_lift sn (pairsL_nodup _ _) (pairsL_nodup _ _) (fun j hj => pbN_1 (s := s.oB x m) q.h hm hj) (fun j hj => pbN_1 (s := s.oC x m) q.k hm hj) (fun i y hi hy e => pbN_2 (s := s.oA x m) hh hm hi hy (by rw [← en i hi] at e; exact e)) u3 v3 (fun i hi => Sq.sw_c c q hi)
 ·simp only
  rw [a2, b2, c2, b4, c4]
  exact sep_lift se (pairsL_nodup _ _) (pairsL_nodup _ _) (fun j hj => pbE_1 (s := s.oB x m) q.h hm hj) (fun j hj => pbE_1 (s := s.oC x m) q.k hm hj) (fun i y hi hy e => pbE_2 (s := s.oA x m) hh hm hi hy (by rw [← ee i hi] at e; exact e)) u4 v4 (fun i hi => Sq.sw_ce c q hi)
 ·simp only
  rw [b1, c1, b3, c3]
  exact cov_lift cn (fun y hy => (hm.nd y hy).1) (fun b y hb hy e => pbN_2 (s := s.oB x m) q.h hm hb hy e) (fun b y hb hy e => pbN_2 (s := s.oC x m) q.k hm hb hy e)
 ·simp only
  rw [b2, c2, b4, c4]
  exact cov_lift ce (fun y hy => (hm.ed y hy).1) (fun b y hb hy e => pbE_2 (s := s.oB x m) q.h hm hb hy e) (fun b y hb hy e => pbE_2 (s := s.oC x m) q.k hm hb hy e)
end
section
variable (P : Program) (F : String → Nat)
end
section
variable {P : Program} {F : String → Nat} {α : Type}
theorem ovL_mem {l : List Int} {n y : Int} (h : y ∈ ovL l n) : (0 ≤ y ∧ y < l.length) ∧ gt l y = n := by
 unfold ovL sel at h
 obtain ⟨k, hk, rfl⟩ := List.mem_map.1 h
 obtain ⟨h1, h2⟩ := List.mem_filter.1 hk
 simp at h1
 exact ⟨by omega, by simpa using h2⟩
theorem ovN_mem {d : G} {x : Dr} (hx : x.ok) {y : Int} (h : y ∈ ovN d x) : 0 ≤ y ∧ y < d.n.length := by
 unfold ovN at h
 split at h
 ·simp at h
 ·rename_i hc
  obtain ⟨v, hv, rfl⟩ := List.mem_map.1 h
  exact tmod_bd (hx.1 v (List.mem_of_mem_take hv)).1 (Int.natCast_pos.2 (Nat.pos_of_ne_zero hc))
theorem ovN_len (d : G) (x : Dr) : (ovN d x).length ≤ 8 ∧ (ovN d x).length ≤ x.n.length := by
 unfold ovN
 split
 ·simp
 ·simp; omega
def OvI (d : G) (ns : List Int) (s : List E × List Int) : Prop := s.1.length = s.2.length ∧ ∀ i : Nat, i < s.2.length → (0 ≤ gt s.2 i ∧ gt s.2 i < d.e.length) ∧ (gt s.1 i).t = (gt d.e (gt s.2 i)).t ∧
 ((0 ≤ (gt s.1 i).f ∧ (gt s.1 i).f < ns.length) ∧ gt ns (gt s.1 i).f = (gt d.e (gt s.2 i)).f) ∧ (0 ≤ (gt s.1 i).o ∧ (gt s.1 i).o < ns.length) ∧ gt ns (gt s.1 i).o = (gt d.e (gt s.2 i)).o
theorem gt_app' {α : Type} [Inhabited α] {l : List α} {x : α} {i : Nat} (h : i < l.length) : gt (l ++ [x]) (i : Int) = gt l i := by
 rw [gt_nat (by simp; omega), gt_nat h, List.getElem_append_left h]
theorem gt_last' {α : Type} [Inhabited α] {l : List α} {x : α} {i : Nat} (h : i = l.length) : gt (l ++ [x]) (i : Int) = x := by
 subst h
 rw [gt_nat (by simp)]; simp
theorem ovS_ok {d : G} {ns : List Int} {s : List E × List Int} {t : E} (h : OvI d ns s) (ht : Byte t.t ∧ Byte t.f ∧ Byte t.o) (hd : 0 < d.e.length) : OvI d ns (ovS d ns s t) := by
 unfold ovS
 have hk := tmod_bd (x := t.t) (m := (d.e.length : Int)) ht.1.1 (by omega)
 generalize t.t.tmod (d.e.length : Int) = k at *
 split
 ·exact h
 ·rename_i hc
  have hf := tmod_bd (x := t.f) (m := ((ovL ns (gt d.e k).f).length : Int)) ht.2.1.1 (by omega)
  have ho := tmod_bd (x := t.o) (m := ((ovL ns (gt d.e k).o).length : Int)) ht.2.2.1 (by omega)
  have m1 := ovL_mem (gt_mem hf.1 hf.2)
  have m2 := ovL_mem (gt_mem ho.1 ho.2)
  generalize gt (ovL ns (gt d.e k).f) (t.f.tmod ((ovL ns (gt d.e k).f).length : Int)) = a at *
  generalize gt (ovL ns (gt d.e k).o) (t.o.tmod ((ovL ns (gt d.e k).o).length : Int)) = b at *
  obtain ⟨es, ms⟩ := s
  obtain ⟨h1, h2⟩ := h
  simp only at h1 h2 ⊢
  refine ⟨by simp [h1], fun i hi => ?_⟩
  simp only [List.length_append, List.length_singleton] at hi
  simp only
  by_cases c : i < ms.length
  ·rw [gt_app' c, gt_app' (by omega)]
   exact h2 i c
  ·rw [gt_last' (show i = ms.length by omega), gt_last' (show i = es.length by omega)]
   exact ⟨hk, rfl, m1, m2⟩
theorem ovE_ok {d : G} {ns : List Int} (hd : 0 < d.e.length) : ∀ {l : List E} {s : List E × List Int}, (∀ t ∈ l, Byte t.t ∧ Byte t.f ∧ Byte t.o) → OvI d ns s → OvI d ns (l.foldl (ovS d ns) s)
 | [], s, _, h => h
 | t :: l, s, ht, h => by
  rw [List.foldl_cons]
  exact ovE_ok hd (fun u hu => ht u (by simp [hu])) (ovS_ok h (ht t (by simp)) hd)
theorem overE_ok {d : G} {x : Dr} (hx : x.ok) : OvI d (ovN d x) (overE d x) := by
 have h0 : OvI d (ovN d x) ([], []) := ⟨rfl, fun i hi => by simp at hi⟩
 unfold overE
 split
 ·exact h0
 ·exact ovE_ok (by omega) (fun t ht => hx.2 t (List.mem_of_mem_take ht)) h0
theorem ovE_len {d : G} {ns : List Int} : ∀ {l : List E} {s : List E × List Int}, (l.foldl (ovS d ns) s).1.length ≤ s.1.length + l.length
 | [], s => by simp
 | t :: l, s => by
  have := ovE_len (d := d) (ns := ns) (l := l) (s := ovS d ns s t)
  have h2 : (ovS d ns s t).1.length ≤ s.1.length + 1 := by
   unfold ovS
   split
   ·omega
   ·simp
  simp only [List.foldl_cons, List.length_cons]
  omega
theorem overE_len (d : G) (x : Dr) : (overE d x).1.length ≤ 10 ∧ (overE d x).1.length ≤ x.e.length := by
 unfold overE
 split
 ·simp
 ·have := ovE_len (d := d) (ns := ovN d x) (l := x.e.take 10) (s := ([], []))
  simp only [ovE]
  simp at this
  omega
theorem over_ok {d : G} {x : Dr} (vd : validG d = 0) (hx : x.ok) : MOk (overG d x) d (overM d x) := by
 obtain ⟨h1, h2⟩ := overE_ok (d := d) hx
 obtain ⟨l1, _⟩ := ovN_len d x
 obtain ⟨l2, _⟩ := overE_len d x
 have vs := valid_spec vd
 refine ⟨valid_mk ?_ ?_ (fun y hy => ?_) (fun y hy => ?_), vd, ?_, ?_, fun i hi => ?_, fun i hi => ?_⟩
 ·simp only [overG, List.length_map]; omega
 ·simp only [overG]; omega
 ·simp only [overG, List.mem_map] at hy
  obtain ⟨v, hv, rfl⟩ := hy
  have := ovN_mem hx hv
  exact vs.2.2.1 _ (gt_mem this.1 this.2)
 ·simp only [overG] at hy ⊢
  obtain ⟨i, hi, rfl⟩ := mem_gt hy
  obtain ⟨a1, a2, a3, a4⟩ := h2 i (by omega)
  have := edge_fits vd a1
  simp only [List.length_map]
  exact fits_mk (by rw [a2]; exact this.1) a3.1 a4.1
 ·simp [overG, overM]
 ·simp [overG, overM, h1]
 ·simp only [overG, overM, List.length_map] at hi ⊢
  exact ⟨ovN_mem hx (gt_mem (by omega) (by omega)), (gt_map hi).symm⟩
 ·simp only [overG, overM] at hi ⊢
  obtain ⟨a1, a2, a3, a4⟩ := h2 i (by omega)
  exact ⟨a1, a2, a3.2, a4.2⟩
structure Mad (s : Cs) : Prop where
 f : MOk s.b s.d s.f
 g : MOk s.c s.d s.g
 l1 : s.b.n.length ≤ 4
 l2 : s.b.e.length ≤ 4
 l3 : s.c.n.length ≤ 4
 l4 : s.c.e.length ≤ 4
 l5 : s.d.n.length ≤ 4
 l6 : s.d.e.length ≤ 4
theorem Mad.sw {s : Cs} (h : Mad s) : Mad s.sw := ⟨h.g, h.f, h.l3, h.l4, h.l1, h.l2, h.l5, h.l6⟩
end
@[go_sem] def c_l14_SquareLifts_r0 : LL := [qB 3 0,qB 4 1,qB 5 2,qb 6 false]
@[go_sem] def c_l14_SquareLifts_r1 (F : Fn) : LL := [qc 16 (F "l14.awake") [],qv 17 16,qm 18 17,⟨some 19,.iaa 2 1 (.t 4) (.k (.int .i64 (0))),some (18,false)⟩,qg 18 false (ql 20 1 19),qg 18 false (qz 21 20),qg 18 false (qk .gtr 22 21 8),
 qQ 23 18 22,qm 24 23,⟨some 25,.iaa 2 1 (.t 4) (.k (.int .i64 (1))),some (24,false)⟩,qg 24 false (ql 26 1 25),qg 24 false (qz 27 26),qg 24 false (qk .gtr 28 27 8),qQ 29 24 28]
@[go_sem] def c_l14_SquareLifts_r2 (F : Fn) : LL := [qc 30 (F "l14.awake") [],qm 6 30]
@[go_sem] def c_l14_SquareLifts_r3 (F : Fn) : LL := [qL 31 2 3,⟨some 32,.iaa 2 1 (.t 4) (.k (.int .i64 (0))),none⟩,ql 33 1 32,⟨some 34,.iaa 2 1 (.t 4) (.k (.int .i64 (1))),none⟩,ql 35 1 34,qc 36 (F "r10.Made") [.t 31,.t 33,.t 35],
 qc 37 (F "r14.Glued") [.t 36],qa 7 [.nl 1,.nl 3,.nl 1,.nl 3,.nl 1,.nl 3,.nl 1,.nl 3,.nl 1,.nl 1,.nl 1,.nl 1,.nl 1,.nl 1,.nl 1,.nl 1],qs 16 7 37]
@[go_sem] def c_l14_SquareLifts_r4 (F : Fn) : LL := [qf 39 6 7,qL 40 2 39,qL 41 2 5,qc 42 (F "r11.Over") [.t 40,.t 41],qm 38 42,qx 43 38 0,qx 44 38 1,qa 8 [.nl 1,.nl 3],qa 9 [.nl 1,.nl 1],qs 2 8 43,qs 2 9 44]
@[go_sem] def c_l14_SquareLifts_r5 (F : Fn) : LL := [qL 46 16 7,qL 47 2 8,qL 48 2 9,qc 49 (F "square.Lift") [.t 46,.t 47,.t 48],qm 45 49,qx 50 45 0,qx 51 45 1,
 qa 10 [.nl 1,.nl 3,.nl 1,.nl 3,.nl 1,.nl 3,.nl 1,.nl 3,.nl 1,.nl 1,.nl 1,.nl 1,.nl 1,.nl 1,.nl 1,.nl 1],qs 16 10 50,qm 11 51]
@[go_sem] def c_l14_SquareLifts_r6 (F : Fn) : LL := [qL 53 16 10,qc 54 (F "square.Kind") [.t 53],qm 52 54,qx 55 52 0,qx 56 52 1,qm 12 55,qm 13 56]
@[go_sem] def c_l14_SquareLifts_r7 : LL := [qm 57 11,qk .neq 58 57 0,qm 59 58,qg 59 false (qm 60 13),qg 59 false (qk .neq 61 60 0),qQ 62 59 61]
@[go_sem] def c_l14_SquareLifts_r8 : LL := [qm 63 11,qk .eql 64 63 3,qm 65 64,qg 65 false (qm 66 11),qg 65 false (qk .eql 67 66 0),qg 65 false (qm 68 67),qg 68 true (qm 69 13),qg 68 true (qk .eql 70 69 3),
 qg 65 false (qP 71 68 70),qQ 72 65 71,qm 6 72]
@[go_sem] def c_l14_SquareLifts_r9 (F : Fn) : LL := [qf 74 0 7,qL 75 2 74,qf 76 4 7,qL 77 2 76,qf 78 2 7,qL 79 2 78,qf 80 6 7,qL 81 2 80,qf 82 10 7,qL 83 2 82,qf 84 8 7,qL 85 2 84,qf 86 14 7,qL 87 2 86,qf 88 12 7,qL 89 2 88,
 qu 90 [.nl 1,.nl 3,.nl 1,.nl 3,.nl 1,.nl 3,.nl 1,.nl 3,.nl 1,.nl 1,.nl 1,.nl 1,.nl 1,.nl 1,.nl 1,.nl 1] [(0,2,.t 75),(2,2,.t 77),(4,2,.t 79),(6,2,.t 81),(8,2,.t 83),(10,2,.t 85),(12,2,.t 87),(14,2,.t 89)],
 qL 91 2 8,qL 92 2 9,qc 93 (F "square.Lift") [.t 90,.t 91,.t 92],qm 73 93,qx 94 73 0,qx 95 73 1,
 qa 14 [.nl 1,.nl 3,.nl 1,.nl 3,.nl 1,.nl 3,.nl 1,.nl 3,.nl 1,.nl 1,.nl 1,.nl 1,.nl 1,.nl 1,.nl 1,.nl 1],qs 16 14 94,qm 15 95]
@[go_sem] def c_l14_SquareLifts_r10 (F : Fn) : LL := [qm 96 12,qk .and 97 96 1,qk .neq 98 97 0,qm 99 98,qg 99 true (qm 100 15),qg 99 true (qk .eql 101 100 0),qP 102 99 101,qm 103 102,qg 103 true (qf 104 0 10),
 qg 103 true (qL 105 2 104),qg 103 true (qf 106 0 14),qg 103 true (qL 107 2 106),qg 103 true (qc 108 (F "r05.Same") [.t 105,.t 107]),qP 109 103 108,qm 110 109,qg 110 true (qf 111 2 10),
 qg 110 true (qL 112 2 111),qg 110 true (qf 113 4 14),qg 110 true (qL 114 2 113),qg 110 true (qc 115 (F "r05.Same") [.t 112,.t 114]),qP 116 110 115,qm 117 116,qg 117 true (qf 118 8 10),
 qg 117 true (qL 119 2 118),qg 117 true (qf 120 10 14),qg 117 true (qL 121 2 120),qg 117 true (qc 122 (F "r06.Same") [.t 119,.t 121]),qP 123 117 122,qm 6 123]
@[go_sem] def c_l14_SquareLifts (F : Fn) : LC := (.seq (.reg c_l14_SquareLifts_r0 [3,4,5]) (.seq (.seq (.reg (c_l14_SquareLifts_r1 F) [3,4,5,29]) (.cond (.t 29) (.seq (.reg (c_l14_SquareLifts_r2 F) [6]) .ret) .skip)) (.seq (.reg (c_l14_SquareLifts_r3 F) [5,7]) (.seq (.reg (c_l14_SquareLifts_r4 F) [7,8,9]) (.seq (.reg (c_l14_SquareLifts_r5 F) [7,8,9,10,11]) (.seq (.reg (c_l14_SquareLifts_r6 F) [7,8,9,10,11,12,13]) (.seq (.seq (.reg c_l14_SquareLifts_r7 [7,8,9,10,11,12,13,62]) (.cond (.t 62) (.seq (.reg c_l14_SquareLifts_r8 [6]) .ret) .skip)) (.seq (.reg (c_l14_SquareLifts_r9 F) [10,12,14,15]) (.seq (.reg (c_l14_SquareLifts_r10 F) [6]) .ret)))))))))
def h_l14_SquareLifts : Hints := hOf [] (c_l14_SquareLifts fun _ => 0)
def Sq.sw (s : Sq) : Sq := ⟨s.a, s.c, s.b, s.d, s.g, s.f, s.k, s.h⟩
section
variable (P : Program) (F : String → Nat)
def K_l14_SquareLifts : Prop := ∀ (d : Dr) (b c : List Int) (x : Dr), d.ok → d.n.length ≤ maxL → d.e.length ≤ maxL → Bts b → Bts c → x.ok → x.n.length ≤ maxL → x.e.length ≤ maxL → FC P (F "l14.SquareLifts") [drD d, .agg [.lst 1 (u8s b), .lst 1 (u8s c)], drD x] (.bool true) []
end
section
variable {P : Program} {F : String → Nat} {α : Type}
theorem lift_zero {s : Sq} {x : G} {m : Mo} : liftE s x m = 0 ↔ sqE s = 0 ∧ validM x s.d m = 0 ∧ comB s = true ∧ pbErr (s.oB x m) = 0 ∧ pbErr (s.oC x m) = 0 ∧ pbErr (s.oA x m) = 0 ∧ (lifF s x m).2 = 0 ∧ (lifG s x m).2 = 0 := by
 unfold liftE
 by_cases c1 : sqE s = 0 <;> by_cases c2 : validM x s.d m = 0 <;> cases c3 : comB s <;> by_cases c4 : pbErr (s.oB x m) = 0 <;> by_cases c5 : pbErr (s.oC x m) = 0 <;> by_cases c6 : pbErr (s.oA x m) = 0 <;> by_cases c7 : (lifF s x m).2 = 0 <;> simp [c1, c2, c4, c5, c6, c7]
theorem lift_sw {s : Sq} {x : G} {m : Mo} (h : liftE s x m = 0) : liftR s.sw x m = (⟨(lifS s x m).a, (lifS s x m).c, (lifS s x m).b, x, (lifS s x m).g, (lifS s x m).f, (lifS s x m).k, (lifS s x m).h⟩, 0) := by
 obtain ⟨h1, h2, h3, h4, h5, h6, h7, h8⟩ := lift_zero.1 h
 have q := sqE_ok.1 h1
 have c : thenM s.f s.h = thenM s.g s.k := of_decide_eq_true h3
 have oB : s.sw.oB x m = s.oC x m := rfl
 have oC : s.sw.oC x m = s.oB x m := rfl
 have oA : s.sw.oA x m = s.oA x m := by
  show (⟨s.a, x, s.d, thenM s.g s.k, m⟩ : Cs) = ⟨s.a, x, s.d, thenM s.f s.h, m⟩
  rw [c]
 have lF : lifF s.sw x m = lifG s x m := by unfold lifF lifG; rw [oA, oB]; rfl
 have lG : lifG s.sw x m = lifF s x m := by unfold lifF lifG; rw [oA, oC]; rfl
 have e : liftE s.sw x m = 0 := lift_zero.2 ⟨sqE_ok.2 ⟨q.g, q.f, q.k, q.h⟩, h2, decide_eq_true c.symm, by rw [oB]; exact h5, by rw [oC]; exact h4, by rw [oA]; exact h6, by rw [lF]; exact h8, by rw [lG]; exact h7⟩
 rw [liftR_ok e]
 unfold lifS
 rw [oA, oB, oC, lF, lG]
set_option maxHeartbeats 4000000 in
set_option maxRecDepth 100000 in
theorem w_l14_SquareLifts (hw : K_l14_awake P F) (hm : K_r10_Made P F) (hg : K_r14_Glued P F) (ho : K_r11_Over P F) (hl : K_square_Lift P F) (hk : K_square_Kind P F) (hsg : K_r05_Same P F) (hsm : K_r06_Same P F) (d : Dr) (b c : List Int) (x : Dr) (hd : d.ok) (d1 : d.n.length ≤ maxL) (d2 : d.e.length ≤ maxL) (hb : Bts b) (hc : Bts c) (hx : x.ok) (x1 : x.n.length ≤ maxL) (x2 : x.e.length ≤ maxL) :
  W P (c_l14_SquareLifts F) (Done [.t 6] [] (.bool true) []) (init [drD d, .agg [.lst 1 (u8s b), .lst 1 (u8s c)], drD x]) := by
 refine W_of ?_
 obtain ⟨hb1, hb2⟩ := hb
 obtain ⟨hc1, hc2⟩ := hc
 unfold maxL at hb2 hc2
 by_cases a1 : b.length ≤ 8
 case neg =>
  have e1 : decide ((8 : Int) < b.length) = true := decide_eq_true (by omega)
  simp only [drD] at *
  simp (disch := omega) only [go_sem, ↓reduceIte]
  refine call_by hw ?_
  simp (disch := omega) only [go_sem, ↓reduceIte, e1]
  refine call_by hw ?_
  simp (disch := omega) only [go_sem, ↓reduceIte]
 have e1 : decide ((8 : Int) < b.length) = false := decide_eq_false (by omega)
 by_cases a2 : c.length ≤ 8
 case neg =>
  have e2 : decide ((8 : Int) < c.length) = true := decide_eq_true (by omega)
  simp only [drD] at *
  simp (disch := omega) only [go_sem, ↓reduceIte]
  refine call_by hw ?_
  simp (disch := omega) only [go_sem, ↓reduceIte, e1, e2]
  refine call_by hw ?_
  simp (disch := omega) only [go_sem, ↓reduceIte]
 have e2 : decide ((8 : Int) < c.length) = false := decide_eq_false (by omega)
 have r1 := hm d b c hd d1 d2 (by omega) hb1 (by omega) hc1
 obtain ⟨hs, _⟩ := mdSp_ok hd hb1 hc1
 generalize madeSp d b c = s at *
 have pS := gloS_psh hs
 have r2 := hg s
 rw [poR_ok hs] at r2
 have r3 := ho (poG s) x hs.p.vb hx x1 x2
 have om := over_ok (d := poG s) hs.p.vb hx
 have vx := valid_spec om.va
 have r4 := hl (gloS s) (overG (poG s) x) (overM (poG s) x) (by omega) (by omega)
 have r6 := hl (gloS s).sw (overG (poG s) x) (overM (poG s) x) (by omega) (by omega)
 generalize overG (poG s) x = y at *
 generalize overM (poG s) x = ym at *
 have n3 : decide ((0 : Int) = 3) = false := by decide
 have n0 : decide ((3 : Int) = 0) = false := by decide
 rcases lift_facts (s := gloS s) pS om with c0 | ⟨c0, pT⟩
 ·rw [liftR_bad c0 (by decide)] at r4
  have r5 := hk sq0
  generalize sq0 = T at *
  generalize kindR T = K at *
  obtain ⟨k1, k2⟩ := K
  clear pS om vx r6
  simp only [gloS] at *
  generalize poG s = p at *
  generalize poP s = h1 at *
  generalize poK s = k7 at *
  obtain ⟨⟨an, ae⟩, ⟨bn, be⟩, ⟨cn, ce⟩, ⟨fn, fe⟩, ⟨gn, ge⟩⟩ := s
  obtain ⟨⟨tan, tae⟩, ⟨tbn, tbe⟩, ⟨tcn, tce⟩, ⟨tdn, tde⟩, ⟨tfn, tfe⟩, ⟨tgn, tge⟩, ⟨thn, the⟩, ⟨tkn, tke⟩⟩ := T
  obtain ⟨yn, ye⟩ := y
  obtain ⟨ymn, yme⟩ := ym
  obtain ⟨pn, pe⟩ := p
  obtain ⟨h1n, h1e⟩ := h1
  obtain ⟨k7n, k7e⟩ := k7
  simp only [gD, gA, mD, mA, spD, spA, sqD, sqA, gluD, drD] at *
  simp (disch := omega) only [go_sem, ↓reduceIte]
  refine call_by hw ?_
  simp (disch := omega) only [go_sem, ↓reduceIte, e1, e2]
  refine call_by r1 ?_
  simp (disch := omega) only [go_sem, ↓reduceIte]
  refine call_by r2 ?_
  simp (disch := omega) only [go_sem, ↓reduceIte]
  refine call_by r3 ?_
  simp (disch := omega) only [go_sem, ↓reduceIte]
  refine call_by r4 ?_
  simp (disch := omega) only [go_sem, ↓reduceIte]
  refine call_by r5 ?_
  simp (disch := omega) only [go_sem, ↓reduceIte, n0]
 rw [liftR_ok c0] at r4
 rw [lift_sw c0] at r6
 have r5 := hk (lifS (gloS s) y ym)
 have kp := kind_push pT
 have bT := pT.q.bd
 have s1 := hsg (lifS (gloS s) y ym).a (lifS (gloS s) y ym).a bT.1.1 bT.1.2
 have s2 := hsg (lifS (gloS s) y ym).b (lifS (gloS s) y ym).b bT.2.1.1 bT.2.1.2
 have s3 := hsm (lifS (gloS s) y ym).f (lifS (gloS s) y ym).f bT.2.2.2.2.1.1 bT.2.2.2.2.1.2
 rw [decide_eq_true rfl] at s1 s2 s3
 clear pS om vx pT bT c0
 generalize lifS (gloS s) y ym = T at *
 generalize kindR T = K at *
 obtain ⟨k1, k2⟩ := K
 simp only [gloS, Sq.sw] at *
 generalize poG s = p at *
 generalize poP s = h1 at *
 generalize poK s = k7 at *
 obtain ⟨⟨an, ae⟩, ⟨bn, be⟩, ⟨cn, ce⟩, ⟨fn, fe⟩, ⟨gn, ge⟩⟩ := s
 obtain ⟨⟨tan, tae⟩, ⟨tbn, tbe⟩, ⟨tcn, tce⟩, ⟨tdn, tde⟩, ⟨tfn, tfe⟩, ⟨tgn, tge⟩, ⟨thn, the⟩, ⟨tkn, tke⟩⟩ := T
 obtain ⟨yn, ye⟩ := y
 obtain ⟨ymn, yme⟩ := ym
 obtain ⟨pn, pe⟩ := p
 obtain ⟨h1n, h1e⟩ := h1
 obtain ⟨k7n, k7e⟩ := k7
 simp only [gD, gA, mD, mA, spD, spA, sqD, sqA, gluD, drD] at *
 simp (disch := omega) only [go_sem, ↓reduceIte]
 refine call_by hw ?_
 simp (disch := omega) only [go_sem, ↓reduceIte, e1, e2]
 refine call_by r1 ?_
 simp (disch := omega) only [go_sem, ↓reduceIte]
 refine call_by r2 ?_
 simp (disch := omega) only [go_sem, ↓reduceIte]
 refine call_by r3 ?_
 simp (disch := omega) only [go_sem, ↓reduceIte]
 refine call_by r4 ?_
 simp (disch := omega) only [go_sem, ↓reduceIte]
 refine call_by r5 ?_
 rcases kp with rfl | ⟨rfl, kp⟩
 ·simp (disch := omega) only [go_sem, ↓reduceIte, n0, n3]
 simp (disch := omega) only [go_sem, ↓reduceIte]
 refine call_by r6 ?_
 have w1 : binI .and .i64 k1 1 = some (.int .i64 1) := by rcases kp with rfl | rfl <;> rfl
 have w2 : decide ((1 : Int) = 0) = false := by decide
 simp (disch := omega) only [go_sem, ↓reduceIte, w1, w2]
 refine call_by s1 ?_
 simp (disch := omega) only [go_sem, ↓reduceIte]
 refine call_by s2 ?_
 simp (disch := omega) only [go_sem, ↓reduceIte]
 refine call_by s3 ?_
 simp (disch := omega) only [go_sem, ↓reduceIte]
theorem x_l14_SquareLifts (h : K_l14_SquareLifts P F) (args : List D) (ha : HasEls [shDr, shU82, shDr] args) : FC P (F "l14.SquareLifts") args (.bool true) [] := by
 simp only [HasEls] at ha
 obtain ⟨_, _, rfl, h1, _, _, rfl, h2, _, _, rfl, h3, rfl⟩ := ha
 obtain ⟨x, rfl, a1, a2, a3⟩ := rd_draft h1
 obtain ⟨b, c, rfl, hb, hc⟩ := rd_u82 h2
 obtain ⟨y, rfl, b1, b2, b3⟩ := rd_draft h3
 exact h x b c y a1 a2 a3 hb hc b1 b2 b3
end
end Go.Am
