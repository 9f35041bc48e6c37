/- The graph package and its reference: parts. -/
import Derived.Test.YtmkhlefohbfekaaSpPa
import Derived.Test.YtmkhlefohbfekaaSpPb
import Derived.Test.YtmkhlefohbfekaaSpPc
import Derived.Test.YtmkhlefohbfekaaSpPd
import Derived.Test.YtmkhlefohbfekaaAmZc
namespace Go.Am
open Go
set_option linter.unusedVariables false
set_option linter.unusedSimpArgs false
@[go_sem] def c_r05_Numbers_r0 : LL := [qn 4 1]
@[go_sem] def c_r05_Numbers_r1 : LL := [qn 5 1]
@[go_sem] def c_r05_Numbers_r2 : LL := [qi 6 0]
@[go_sem] def c_r05_Numbers_r3 : LL := [qm 7 6,qm 8 1,qo .lss 9 7 8]
@[go_sem] def c_r05_Numbers_r4 : LL := [qm 12 5,qm 13 0,qm 14 6,qo .add 15 13 14,⟨some 16,.buildSl 1 8 (.int .i64 (0)) 1 [(0,.t 15)],none⟩,qp 17 1 8 12 16,qm 5 17]
@[go_sem] def c_r05_Numbers_r5 : LL := [qm 10 6,qk .add 11 10 1,qm 6 11]
def c_r05_Numbers_b6 : LC := (.seq (.seq (.reg c_r05_Numbers_r3 [0,1,5,6,9]) (.cond (.t 9) .skip (.exit 0))) (.seq (.block 1 (.reg c_r05_Numbers_r4 [0,1,5,6])) (.reg c_r05_Numbers_r5 [0,1,5,6])))
@[go_sem] def c_r05_Numbers_r7 : LL := [qm 18 5,qm 4 18]
@[go_sem] def c_r05_Numbers (F : Fn) : LC := (.seq (.reg c_r05_Numbers_r0 [0,1]) (.seq (.reg c_r05_Numbers_r1 [0,1,5]) (.seq (.seq (.reg c_r05_Numbers_r2 [0,1,5,6]) (.block 0 (.loop [0,1,5,6] c_r05_Numbers_b6))) (.seq (.reg c_r05_Numbers_r7 [4]) .ret))))
def h_r05_Numbers : Hints := hOf [] (c_r05_Numbers fun _ => 0)
def mA (m : Mo) : D := .agg [.arr 1 (ints m.n), .arr 1 (ints m.e)]
section
variable (P : Program) (F : String → Nat)
def K_r05_Numbers : Prop := ∀ (f : Int) (n : Nat), 0 ≤ f → f ≤ 1000000 → n ≤ 1000000 → FC P (F "r05.Numbers") [.int .i64 f, .int .i64 n] (.arr 1 (ints (nums f n))) []
end
section
variable {P : Program} {F : String → Nat} {α : Type}
theorem w_r05_Numbers (f : Int) (n : Nat) (h0 : 0 ≤ f) (h1 : f ≤ 1000000) (h2 : n ≤ 1000000) : W P (c_r05_Numbers F) (Done [.t 4] [] (.arr 1 (ints (nums f n))) []) (init [.int .i64 f, .int .i64 n]) := by
 refine W_of ?_
 simp (disch := omega) only [go_sem, ↓reduceIte]
 refine W_loop (fun i : Nat => ⟨[(0, .int .i64 f), (1, .int .i64 n), (5, .sl 0 0 i), (6, .int .i64 i)], [(0, .arr 1 (ints (nums f i)))], 1⟩) (fun i => i ≤ n) (fun i => n - i) 0 ?_ ?_ ?_
 ·simp (disch := omega) only [go_sem, ↓reduceIte, nums_zero, ints_nil]
  rfl
 ·omega
 ·intro i hi
  have e1 := nums_len f i
  simp (disch := omega) only [go_sem, ↓reduceIte, c_r05_Numbers_b6]
  refine bran_dec (fun a => ?_) (fun a => ?_)
  ·simp (disch := omega) only [go_sem, ↓reduceIte, e1]
   exact ⟨i + 1, by simp [nums_succ], by omega, by omega⟩
  ·obtain rfl : i = n := by omega
   simp (disch := omega) only [go_sem, ↓reduceIte, e1]
end
@[go_sem] def c_r05_Made_r0 : LL := [qB 1 0,qa 2 [.nl 1,.nl 3]]
@[go_sem] def c_r05_Made_r1 : LL := [qa 3 [.nl 1,.nl 3]]
@[go_sem] def c_r05_Made_r2 : LL := [qi 4 0]
@[go_sem] def c_r05_Made_r3 : LL := [qm 7 4,qf 8 0 1,ql 9 1 8,qz 10 9,qo .lss 11 7 10,qm 12 11,qg 12 true (qm 13 4),qg 12 true (qk .lss 14 13 8),qP 15 12 14]
@[go_sem] def c_r05_Made_r4 : LL := [qf 18 0 3,ql 19 1 18,qf 20 0 1,ql 21 1 20,qm 22 4,qd 23 1 21 22,ql 24 1 23,⟨some 25,.bin .rem (.t 24) (.k (.int .u8 (3))),none⟩,⟨some 26,.conv .i64 (.t 25),none⟩,
 ⟨some 27,.buildSl 1 8 (.int .i64 (0)) 1 [(0,.t 26)],none⟩,qp 28 1 8 19 27,qf 29 0 3,qs 1 29 28]
@[go_sem] def c_r05_Made_r5 : LL := [qm 16 4,qk .add 17 16 1,qm 4 17]
def c_r05_Made_b6 : LC := (.seq (.seq (.reg c_r05_Made_r3 [1,2,3,4,15]) (.cond (.t 15) .skip (.exit 0))) (.seq (.block 1 (.dreg [(1,none,[],true),(9,none,[1],false)] c_r05_Made_r4 [1,2,3,4])) (.reg c_r05_Made_r5 [1,2,3,4])))
@[go_sem] def c_r05_Made_r7 : LL := [qf 30 0 3,ql 31 1 30,qz 32 31,qm 5 32]
@[go_sem] def c_r05_Made_r8 : LL := [qi 6 0]
@[go_sem] def c_r05_Made_r9 : LL := [qm 33 6,qf 34 1 1,ql 35 1 34,qz 36 35,qo .lss 37 33 36,qm 38 37,qg 38 true (qm 39 6),qg 38 true (qk .lss 40 39 10),qP 41 38 40,qm 42 41,qg 42 true (qm 43 5),
 qg 42 true (qk .gtr 44 43 0),qP 45 42 44]
@[go_sem] def c_r05_Made_r10 : LL := [qf 48 1 3,ql 49 1 48,qf 50 1 1,ql 51 1 50,qm 52 6,qd 53 3 51 52,⟨some 54,.iaa 3 1 (.t 53) (.k (.int .i64 (0))),none⟩,ql 55 1 54,
 ⟨some 56,.bin .rem (.t 55) (.k (.int .u8 (2))),none⟩,⟨some 57,.conv .i64 (.t 56),none⟩,qf 58 1 1,ql 59 1 58,qm 60 6,qd 61 3 59 60,
 ⟨some 62,.iaa 3 1 (.t 61) (.k (.int .i64 (1))),none⟩,ql 63 1 62,⟨some 64,.conv .i64 (.t 63),none⟩,qm 65 5,qo .rem 66 64 65,qf 67 1 1,ql 68 1 67,qm 69 6,qd 70 3 68 69,
 ⟨some 71,.iaa 3 1 (.t 70) (.k (.int .i64 (2))),none⟩,ql 72 1 71,⟨some 73,.conv .i64 (.t 72),none⟩,qm 74 5,qo .rem 75 73 74,
 qu 76 [.int .i64 (0),.int .i64 (0),.int .i64 (0)] [(0,1,.t 57),(1,1,.t 66),(2,1,.t 75)],
 ⟨some 77,.buildSl 3 24 (.agg [.int .i64 (0),.int .i64 (0),.int .i64 (0)]) 1 [(0,.t 76)],none⟩,qp 78 3 24 49 77,qf 79 1 3,qs 1 79 78]
@[go_sem] def c_r05_Made_r11 : LL := [qm 46 6,qk .add 47 46 1,qm 6 47]
def c_r05_Made_b12 : LC := (.seq (.seq (.reg c_r05_Made_r9 [1,2,3,5,6,45]) (.cond (.t 45) .skip (.exit 2))) (.seq (.block 3 (.dreg [(1,none,[],true),(29,none,[1],false)] c_r05_Made_r10 [1,2,3,5,6])) (.reg c_r05_Made_r11 [1,2,3,5,6])))
@[go_sem] def c_r05_Made_r13 : LL := [qL 80 2 3,qs 2 2 80]
@[go_sem] def c_r05_Made (F : Fn) : LC := (.seq (.reg c_r05_Made_r0 [1,2]) (.seq (.reg c_r05_Made_r1 [1,2,3]) (.seq (.seq (.reg c_r05_Made_r2 [1,2,3,4]) (.block 0 (.loop [1,2,3,4] c_r05_Made_b6))) (.seq (.reg c_r05_Made_r7 [1,2,3,5]) (.seq (.seq (.reg c_r05_Made_r8 [1,2,3,5,6]) (.block 2 (.loop [1,2,3,5,6] c_r05_Made_b12))) (.seq (.reg c_r05_Made_r13 [2]) .ret))))))
def h_r05_Made : Hints := hOf [] (c_r05_Made fun _ => 0)
def drD (x : Dr) : D := .agg [.lst 1 (u8s x.n), .lst 3 (trs x.e)]
def madeN (x : Dr) : List Int := (x.n.take 8).map fun v => v.tmod 3
def madeE (x : Dr) (m : Int) (t : E) : E := ⟨t.t.tmod 2, t.f.tmod m, t.o.tmod m⟩
def madeG (x : Dr) : G := ⟨madeN x, if (madeN x).length = 0 then [] else (x.e.take 10).map (madeE x (madeN x).length)⟩
section
variable (P : Program) (F : String → Nat)
def K_r05_Made : Prop := ∀ x : Dr, x.ok → x.n.length ≤ maxL → x.e.length ≤ maxL → FC P (F "r05.Made") [drD x] (gA (madeG x)) []
end
def shU8 : Sh := .int .u8
def shU8s : Sh := .slc 1 1 shU8
def shTr : Sh := .cat [shU8, shU8, shU8]
def shDr : Sh := .cat [shU8s, .slc 3 3 shTr]
theorem rd_u8 {x : D} (h : HasEl shU8 x) : ∃ n : Int, x = .int .u8 n ∧ Byte n := by
 simp only [shU8, HasEl] at h
 obtain ⟨n, rfl, h1, h2⟩ := h
 exact ⟨n, rfl, h1, h2⟩
theorem rd_u8l : ∀ {xs : List D}, (∀ y ∈ xs, HasEl shU8 y) → ∃ l : List Int, xs = u8s l ∧ ∀ v ∈ l, Byte v
 | [], _ => ⟨[], rfl, by simp⟩
 | x :: xs, h => by
  obtain ⟨l, rfl, hl⟩ := rd_u8l (xs := xs) fun y hy => h y (by simp [hy])
  obtain ⟨n, rfl, hn⟩ := rd_u8 (h x (by simp))
  exact ⟨n :: l, rfl, by simpa [hn] using hl⟩
theorem rd_u8s {x : D} (h : HasEl shU8s x) : ∃ l : List Int, x = .lst 1 (u8s l) ∧ (∀ v ∈ l, Byte v) ∧ l.length ≤ maxL := by
 simp only [shU8s, HasEl] at h
 obtain ⟨xs, rfl, h1, h2⟩ := h
 obtain ⟨l, rfl, hl⟩ := rd_u8l h2
 refine ⟨l, rfl, hl, ?_⟩
 rw [u8s_length] at h1
 unfold reachBytes at h1
 unfold maxL
 omega
theorem rd_tr {x : D} (h : HasEl shTr x) : ∃ e : E, x = .agg [.int .u8 e.t, .int .u8 e.f, .int .u8 e.o] ∧ Byte e.t ∧ Byte e.f ∧ Byte e.o := by
 simp only [shTr, HasEl] at h
 obtain ⟨ds, rfl, h⟩ := h
 simp only [shU8, HasShs, HasEl] at h
 obtain ⟨_, _, rfl, ⟨a, rfl, a1, a2⟩, _, _, rfl, ⟨b, rfl, b1, b2⟩, _, _, rfl, ⟨c, rfl, c1, c2⟩, rfl⟩ := h
 exact ⟨⟨a, b, c⟩, rfl, ⟨a1, a2⟩, ⟨b1, b2⟩, ⟨c1, c2⟩⟩
theorem rd_trl : ∀ {xs : List D}, (∀ y ∈ xs, HasEl shTr y) → ∃ l : List E, xs = trs l ∧ ∀ v ∈ l, Byte v.t ∧ Byte v.f ∧ Byte v.o
 | [], _ => ⟨[], rfl, by simp⟩
 | x :: xs, h => by
  obtain ⟨l, rfl, hl⟩ := rd_trl (xs := xs) fun y hy => h y (by simp [hy])
  obtain ⟨n, rfl, hn⟩ := rd_tr (h x (by simp))
  refine ⟨n :: l, rfl, fun v hv => ?_⟩
  simp only [List.mem_cons] at hv
  rcases hv with rfl | hv
  ·exact hn
  ·exact hl v hv
theorem rd_draft {x : D} (h : HasEl shDr x) : ∃ g : Dr, x = drD g ∧ g.ok ∧ g.n.length ≤ maxL ∧ g.e.length ≤ maxL := by
 simp only [shDr, HasEl] at h
 obtain ⟨ds, rfl, h⟩ := h
 have h' : ∃ a b, ds = a :: b ∧ HasEl shU8s a ∧ HasShs [.slc 3 3 shTr] b := by simpa only [shU8s, HasShs] using h
 obtain ⟨a, _, rfl, h1, h'⟩ := h'
 obtain ⟨l, rfl, hl, hl2⟩ := rd_u8s h1
 simp only [HasShs, HasEl] at h'
 obtain ⟨_, _, rfl, ⟨xs, rfl, hb, h3⟩, rfl⟩ := h'
 obtain ⟨es, rfl, he⟩ := rd_trl h3
 refine ⟨⟨l, es⟩, rfl, ⟨hl, he⟩, hl2, ?_⟩
 rw [trs_length] at hb
 unfold reachBytes at hb
 simp only [maxL]
 omega
section
variable {P : Program} {F : String → Nat} {α : Type}
theorem tmod_bd {x m : Int} (hx : 0 ≤ x) (hm : 0 < m) : 0 ≤ x.tmod m ∧ x.tmod m < m := ⟨Int.tmod_nonneg _ hx, Int.tmod_lt_of_pos _ hm⟩
theorem w_r05_Made (x : Dr) (hx : x.ok) (h1 : x.n.length ≤ maxL) (h2 : x.e.length ≤ maxL) : W P (c_r05_Made F) (Done [.c 2 true 2] [] (gA (madeG x)) []) (init [drD x]) := by
 refine W_of ?_
 obtain ⟨xn, xe⟩ := x
 obtain ⟨o1, o2⟩ := hx
 simp only at h1 h2 o1 o2
 unfold maxL at h1 h2
 simp (disch := omega) only [go_sem, ↓reduceIte, drD]
 have ml : ∀ i, ((xn.take i).map fun v => v.tmod 3).length = min i xn.length := fun i => by simp
 refine W_loop (fun i : Nat => ⟨[(1, D.pt 0 0), (2, D.pt 3 0), (3, D.pt 6 0), (4, D.int IntKind.i64 i)],
   [(0, Ent.box [D.lst 1 (u8s xn), D.lst 3 (trs xe)]), (1, Ent.arr 1 []), (2, Ent.arr 3 []), (3, Ent.box [D.sl 1 0 0, D.sl 2 0 0]), (4, Ent.arr 1 (ints ((xn.take i).map fun v => v.tmod 3))), (5, Ent.arr 3 []),
    (6, Ent.box [D.sl 4 0 i, D.sl 5 0 0])], 7⟩) (fun i => i ≤ xn.length ∧ i ≤ 8) (fun i => 8 - i) 0 ?_ ?_ ?_
 ·simp (disch := omega) only [go_sem, ↓reduceIte]
  rfl
 ·simp
 ·rintro i ⟨hi, hi8⟩
  have hml : ((xn.take i).map fun v => v.tmod 3).length = i := by rw [ml]; omega
  simp (disch := omega) only [go_sem, ↓reduceIte, c_r05_Made_b6]
  refine bran_dec ?ga ?gb
  case' ga =>
   intro c
   simp (disch := omega) only [go_sem, ↓reduceIte, c]
   refine bran_dec ?gc ?gd
   case' gc =>
    intro c2
    have ho := o1 _ (gt_mem (l := xn) (j := i) (by omega) (by omega))
    have hb := tmod_bd (m := 3) ho.1 (by omega)
    have hz : ¬ ((3 : Int) = 0) := by omega
    simp (disch := omega) only [go_sem, ↓reduceIte, hml, hz]
    exact ⟨i + 1, by rw [take_gt (by omega)]; simp, by omega, by omega⟩
   intro c2
   have h8 : i = 8 ∨ i = xn.length := by omega
   simp (disch := omega) only [go_sem, ↓reduceIte]
  case' gb =>
   intro c
   have h8 : i = 8 ∨ i = xn.length := by omega
   simp (disch := omega) only [go_sem, ↓reduceIte, c]
  all_goals
   have hmn : madeN ⟨xn, xe⟩ = (xn.take i).map fun v => v.tmod 3 := by
    simp only [madeN]
    rw [show xn.take 8 = xn.take i from List.take_eq_take_iff.2 (by omega)]
   have fin : ∀ j : Nat, (0 < i → j = 10 ∨ j = xe.length) → (i = 0 → j = 0) → j ≤ 10 → madeG ⟨xn, xe⟩ = ⟨(xn.take i).map fun v => v.tmod 3, (xe.take j).map (madeE ⟨xn, xe⟩ i)⟩ := fun j h1 h2 h3 => by
    simp only [madeG, hmn, hml]
    by_cases h0 : i = 0
    ·rw [if_pos h0, h2 h0]; simp
    ·rw [if_neg h0, show xe.take 10 = xe.take j from List.take_eq_take_iff.2 (by have := h1 (by omega); omega)]
   generalize hns : ((xn.take i).map fun v => v.tmod 3) = ns at hml fin
   clear hmn hns
   refine W_loop (fun j : Nat => ⟨[(1, D.pt 0 0), (2, D.pt 3 0), (3, D.pt 6 0), (5, D.int IntKind.i64 i), (6, D.int IntKind.i64 j)],
    [(0, Ent.box [D.lst 1 (u8s xn), D.lst 3 (trs xe)]), (1, Ent.arr 1 []), (2, Ent.arr 3 []), (3, Ent.box [D.sl 1 0 0, D.sl 2 0 0]), (4, Ent.arr 1 (ints ns)), (5, Ent.arr 3 (eds ((xe.take j).map (madeE ⟨xn, xe⟩ i)))),
     (6, Ent.box [D.sl 4 0 i, D.sl 5 0 j])], 7⟩) (fun j => j ≤ xe.length ∧ j ≤ 10 ∧ (i = 0 → j = 0)) (fun j => 10 - j) 0 ?_ ?_ ?_
   ·simp (disch := omega) only [go_sem, ↓reduceIte]
    rfl
   ·simp
   ·rintro j ⟨hj, hj10, hj0⟩
    have hel : ((xe.take j).map (madeE ⟨xn, xe⟩ i)).length = j := by simp; omega
    simp (disch := omega) only [go_sem, ↓reduceIte, c_r05_Made_b12]
    refine bran_dec (fun d => ?_) (fun d => ?_)
    ·simp (disch := omega) only [go_sem, ↓reduceIte, d]
     refine bran_dec (fun d2 => ?_) (fun d2 => ?_)
     ·simp (disch := omega) only [go_sem, ↓reduceIte, d2]
      refine bran_dec (fun d3 => ?_) (fun d3 => ?_)
      ·obtain ⟨ot, of, oo⟩ := o2 _ (gt_mem (l := xe) (j := j) (by omega) (by omega))
       have b1 := tmod_bd (x := (gt xe j).t) (m := 2) ot.1 (by omega)
       have b2 := tmod_bd (x := (gt xe j).f) (m := i) of.1 (by omega)
       have b3 := tmod_bd (x := (gt xe j).o) (m := i) oo.1 (by omega)
       have w1 : IntKind.i64.wrap (gt xe j).f = (gt xe j).f := wrap_i64 (by have := of.1; omega) (by have := of.2; omega)
       have w2 : IntKind.i64.wrap (gt xe j).o = (gt xe j).o := wrap_i64 (by have := oo.1; omega) (by have := oo.2; omega)
       have z1 : ¬ ((2 : Int) = 0) := by omega
       have z2 : ¬ ((i : Int) = 0) := by omega
       simp (disch := omega) only [go_sem, ↓reduceIte, hel, w1, w2, z1, z2, Int.reduceToNat]
       exact ⟨j + 1, by rw [take_gt (by omega)]; simp [madeE], by omega, by omega⟩
      ·simp (disch := omega) only [go_sem, ↓reduceIte, d3, hel, hml]
       rw [fin j (by omega) hj0 hj10]
       simp [gA]
     ·simp (disch := omega) only [go_sem, ↓reduceIte, d2, hel, hml]
      rw [fin j (by omega) hj0 hj10]
      simp [gA]
    ·simp (disch := omega) only [go_sem, ↓reduceIte, d, hel, hml]
     rw [fin j (by omega) hj0 hj10]
     simp [gA]
theorem madeN_len (x : Dr) : (madeN x).length ≤ 8 := by simp [madeN]; omega
theorem madeE_len (x : Dr) : (madeG x).e.length ≤ 10 := by
 simp only [madeG]
 split
 ·simp
 ·simp; omega
theorem madeG_valid {x : Dr} (hx : x.ok) : validG (madeG x) = 0 := by
 have h1 := madeN_len x
 have h2 := madeE_len x
 unfold validG
 rw [if_neg (show ¬ (40 < (madeG x).n.length ∨ 80 < (madeG x).e.length) by simp only [madeG] at h2 ⊢; omega), if_pos]
 simp only [Bool.and_eq_true, List.all_eq_true]
 refine ⟨fun v hv => ?_, fun v hv => ?_⟩
 ·simp only [madeG, madeN, List.mem_map] at hv
  obtain ⟨u, hu, rfl⟩ := hv
  have := hx.1 u (List.mem_of_mem_take hu)
  have := tmod_bd (x := u) (m := 3) this.1 (by omega)
  simp only [okN, decide_eq_true_eq]
  omega
 ·simp only [madeG] at hv
  split at hv
  ·simp at hv
  ·rename_i h0
   simp only [List.mem_map] at hv
   obtain ⟨u, hu, rfl⟩ := hv
   obtain ⟨o1, o2, o3⟩ := hx.2 u (List.mem_of_mem_take hu)
   have b1 := tmod_bd (x := u.t) (m := 2) o1.1 (by omega)
   have b2 := tmod_bd (x := u.f) (m := (madeN x).length) o2.1 (by omega)
   have b3 := tmod_bd (x := u.o) (m := (madeN x).length) o3.1 (by omega)
   exact fits_mk (by simp only [madeE]; omega) b2 b3
end
@[go_sem] def c_morphism_Valid_r0 : LL := [qB 3 0,qB 4 1,qB 5 2,qi 6 0]
@[go_sem] def c_morphism_Valid_r1 (F : Fn) : LL := [qL 15 2 3,qc 16 (F "graph.Valid") [.t 15],qm 7 16]
@[go_sem] def c_morphism_Valid_r2 : LL := [qm 17 7,qk .neq 18 17 0]
@[go_sem] def c_morphism_Valid_r3 : LL := [qm 19 7,qm 6 19]
@[go_sem] def c_morphism_Valid_r4 (F : Fn) : LL := [qL 20 2 4,qc 21 (F "graph.Valid") [.t 20],qm 8 21]
@[go_sem] def c_morphism_Valid_r5 : LL := [qm 22 8,qk .neq 23 22 0]
@[go_sem] def c_morphism_Valid_r6 : LL := [qm 24 8,qm 6 24]
@[go_sem] def c_morphism_Valid_r7 : LL := [qf 25 0 5,ql 26 1 25,qz 27 26,qf 28 0 3,ql 29 1 28,qz 30 29,qo .neq 31 27 30,qm 32 31,qg 32 false (qf 33 1 5),qg 32 false (ql 34 1 33),qg 32 false (qz 35 34),
 qg 32 false (qf 36 1 3),qg 32 false (ql 37 1 36),qg 32 false (qz 38 37),qg 32 false (qo .neq 39 35 38),qQ 40 32 39]
@[go_sem] def c_morphism_Valid_r8 : LL := [qi 6 20]
@[go_sem] def c_morphism_Valid_r9 : LL := [qf 41 0 5,ql 42 1 41,qz 43 42,qi 44 0]
@[go_sem] def c_morphism_Valid_r10 : LL := [qo .lss 45 44 43]
@[go_sem] def c_morphism_Valid_r11 : LL := [qm 46 44,qd 47 1 42 44,ql 48 1 47,qm 9 46,qm 10 48]
@[go_sem] def c_morphism_Valid_r12 : LL := [qm 49 10,qk .lss 50 49 0,qm 51 50,qg 51 false (qm 52 10),qg 51 false (qf 53 0 4),qg 51 false (ql 54 1 53),qg 51 false (qz 55 54),qg 51 false (qo .geq 56 52 55),qQ 57 51 56]
@[go_sem] def c_morphism_Valid_r13 : LL := [qi 6 6]
@[go_sem] def c_morphism_Valid_r14 : LL := [qf 58 0 4,ql 59 1 58,qm 60 10,qd 61 1 59 60,ql 62 1 61,qf 63 0 3,ql 64 1 63,qm 65 9,qd 66 1 64 65,ql 67 1 66,qo .neq 68 62 67]
@[go_sem] def c_morphism_Valid_r15 : LL := [qi 6 13]
@[go_sem] def c_morphism_Valid_r16 : LL := [qk .add 69 44 1,qm 44 69]
def c_morphism_Valid_b17 : LC := (.seq (.reg c_morphism_Valid_r10 [3,4,5,42,43,44,45]) (.seq (.cond (.t 45) .skip (.exit 0)) (.seq (.block 1 (.seq (.reg c_morphism_Valid_r11 [3,4,5,9,10,42,43,44]) (.seq (.seq (.reg c_morphism_Valid_r12 [3,4,5,9,10,42,43,44,57]) (.cond (.t 57) (.seq (.reg c_morphism_Valid_r13 [6]) .ret) .skip)) (.seq (.dreg [] c_morphism_Valid_r14 [3,4,5,42,43,44,68]) (.cond (.t 68) (.seq (.reg c_morphism_Valid_r15 [6]) .ret) .skip))))) (.reg c_morphism_Valid_r16 [3,4,5,42,43,44]))))
@[go_sem] def c_morphism_Valid_r18 : LL := [qf 70 1 5,ql 71 1 70,qz 72 71,qi 73 0]
@[go_sem] def c_morphism_Valid_r19 : LL := [qo .lss 74 73 72]
@[go_sem] def c_morphism_Valid_r20 : LL := [qm 75 73,qd 76 1 71 73,ql 77 1 76,qm 11 75,qm 12 77]
@[go_sem] def c_morphism_Valid_r21 : LL := [qm 78 12,qk .lss 79 78 0,qm 80 79,qg 80 false (qm 81 12),qg 80 false (qf 82 1 4),qg 80 false (ql 83 1 82),qg 80 false (qz 84 83),qg 80 false (qo .geq 85 81 84),qQ 86 80 85]
@[go_sem] def c_morphism_Valid_r22 : LL := [qi 6 6]
@[go_sem] def c_morphism_Valid_r23 : LL := [qf 87 1 3,ql 88 1 87,qm 89 11,qd 90 3 88 89,qL 91 3 90,qf 92 1 4,ql 93 1 92,qm 94 12,qd 95 3 93 94,qL 96 3 95,qa 13 [.int .i64 (0),.int .i64 (0),.int .i64 (0)],
 qa 14 [.int .i64 (0),.int .i64 (0),.int .i64 (0)],qs 3 13 91,qs 3 14 96]
@[go_sem] def c_morphism_Valid_r24 : LL := [qf 97 0 13,ql 98 1 97,qf 99 0 14,ql 100 1 99,qo .neq 101 98 100]
@[go_sem] def c_morphism_Valid_r25 : LL := [qi 6 13]
@[go_sem] def c_morphism_Valid_r26 : LL := [qf 102 0 5,ql 103 1 102,qf 104 1 13,ql 105 1 104,qd 106 1 103 105,ql 107 1 106,qf 108 1 14,ql 109 1 108,qo .neq 110 107 109,qm 111 110,qg 111 false (qf 112 0 5),
 qg 111 false (ql 113 1 112),qg 111 false (qf 114 2 13),qg 111 false (ql 115 1 114),qg 111 false (qd 116 1 113 115),qg 111 false (ql 117 1 116),qg 111 false (qf 118 2 14),
 qg 111 false (ql 119 1 118),qg 111 false (qo .neq 120 117 119),qQ 121 111 120]
@[go_sem] def c_morphism_Valid_r27 : LL := [qi 6 11]
@[go_sem] def c_morphism_Valid_r28 : LL := [qk .add 122 73 1,qm 73 122]
def c_morphism_Valid_b29 : LC := (.seq (.reg c_morphism_Valid_r19 [3,4,5,71,72,73,74]) (.seq (.cond (.t 74) .skip (.exit 2)) (.seq (.block 3 (.seq (.reg c_morphism_Valid_r20 [3,4,5,11,12,71,72,73]) (.seq (.seq (.reg c_morphism_Valid_r21 [3,4,5,11,12,71,72,73,86]) (.cond (.t 86) (.seq (.reg c_morphism_Valid_r22 [6]) .ret) .skip)) (.seq (.dreg [(6,none,[],true),(8,none,[],true),(9,none,[],true),(12,none,[6,8,9],false)] c_morphism_Valid_r23 [3,4,5,13,14,71,72,73]) (.seq (.seq (.reg c_morphism_Valid_r24 [3,4,5,13,14,71,72,73,101]) (.cond (.t 101) (.seq (.reg c_morphism_Valid_r25 [6]) .ret) .skip)) (.seq (.dreg [] c_morphism_Valid_r26 [3,4,5,71,72,73,121]) (.cond (.t 121) (.seq (.reg c_morphism_Valid_r27 [6]) .ret) .skip))))))) (.reg c_morphism_Valid_r28 [3,4,5,71,72,73]))))
@[go_sem] def c_morphism_Valid_r30 : LL := [qi 6 0]
@[go_sem] def c_morphism_Valid (F : Fn) : LC := (.seq (.reg c_morphism_Valid_r0 [3,4,5]) (.seq (.seq (.reg (c_morphism_Valid_r1 F) [3,4,5,7]) (.seq (.reg c_morphism_Valid_r2 [3,4,5,7,18]) (.cond (.t 18) (.seq (.reg c_morphism_Valid_r3 [6]) .ret) .skip))) (.seq (.seq (.reg (c_morphism_Valid_r4 F) [3,4,5,8]) (.seq (.reg c_morphism_Valid_r5 [3,4,5,8,23]) (.cond (.t 23) (.seq (.reg c_morphism_Valid_r6 [6]) .ret) .skip))) (.seq (.seq (.reg c_morphism_Valid_r7 [3,4,5,40]) (.cond (.t 40) (.seq (.reg c_morphism_Valid_r8 [6]) .ret) .skip)) (.seq (.seq (.reg c_morphism_Valid_r9 [3,4,5,42,43,44]) (.block 0 (.loop [3,4,5,42,43,44] c_morphism_Valid_b17))) (.seq (.seq (.reg c_morphism_Valid_r18 [3,4,5,71,72,73]) (.block 2 (.loop [3,4,5,71,72,73] c_morphism_Valid_b29))) (.seq (.reg c_morphism_Valid_r30 [6]) .ret)))))))
def h_morphism_Valid : Hints := hOf [] (c_morphism_Valid fun _ => 0)
@[go_sem] def c_r06_Valid_r0 : LL := [qB 3 0,qB 4 1,qB 5 2,qi 6 0]
@[go_sem] def c_r06_Valid_r1 (F : Fn) : LL := [qL 13 2 3,qc 14 (F "r05.Valid") [.t 13],qm 7 14]
@[go_sem] def c_r06_Valid_r2 : LL := [qm 15 7,qk .neq 16 15 0]
@[go_sem] def c_r06_Valid_r3 : LL := [qm 17 7,qm 6 17]
@[go_sem] def c_r06_Valid_r4 (F : Fn) : LL := [qL 18 2 4,qc 19 (F "r05.Valid") [.t 18],qm 8 19]
@[go_sem] def c_r06_Valid_r5 : LL := [qm 20 8,qk .neq 21 20 0]
@[go_sem] def c_r06_Valid_r6 : LL := [qm 22 8,qm 6 22]
@[go_sem] def c_r06_Valid_r7 : LL := [qf 23 0 5,ql 24 1 23,qz 25 24,qf 26 0 3,ql 27 1 26,qz 28 27,qo .neq 29 25 28,qm 30 29,qg 30 false (qf 31 1 5),qg 30 false (ql 32 1 31),qg 30 false (qz 33 32),
 qg 30 false (qf 34 1 3),qg 30 false (ql 35 1 34),qg 30 false (qz 36 35),qg 30 false (qo .neq 37 33 36),qQ 38 30 37]
@[go_sem] def c_r06_Valid_r8 : LL := [qi 6 20]
@[go_sem] def c_r06_Valid_r9 : LL := [qi 9 0]
@[go_sem] def c_r06_Valid_r10 : LL := [qm 39 9,qf 40 0 3,ql 41 1 40,qz 42 41,qo .lss 43 39 42]
@[go_sem] def c_r06_Valid_r11 : LL := [qf 46 0 5,ql 47 1 46,qm 48 9,qd 49 1 47 48,ql 50 1 49,qk .lss 51 50 0,qm 52 51,qg 52 false (qf 53 0 5),qg 52 false (ql 54 1 53),qg 52 false (qm 55 9),qg 52 false (qd 56 1 54 55),
 qg 52 false (ql 57 1 56),qg 52 false (qf 58 0 4),qg 52 false (ql 59 1 58),qg 52 false (qz 60 59),qg 52 false (qo .geq 61 57 60),qQ 62 52 61]
@[go_sem] def c_r06_Valid_r12 : LL := [qi 6 6]
@[go_sem] def c_r06_Valid_r13 : LL := [qf 63 0 4,ql 64 1 63,qf 65 0 5,ql 66 1 65,qm 67 9,qd 68 1 66 67,ql 69 1 68,qd 70 1 64 69,ql 71 1 70,qf 72 0 3,ql 73 1 72,qm 74 9,qd 75 1 73 74,ql 76 1 75,qo .neq 77 71 76]
@[go_sem] def c_r06_Valid_r14 : LL := [qi 6 13]
@[go_sem] def c_r06_Valid_r15 : LL := [qm 44 9,qk .add 45 44 1,qm 9 45]
def c_r06_Valid_b16 : LC := (.seq (.seq (.reg c_r06_Valid_r10 [3,4,5,9,43]) (.cond (.t 43) .skip (.exit 0))) (.seq (.block 1 (.seq (.seq (.dreg [] c_r06_Valid_r11 [3,4,5,9,62]) (.cond (.t 62) (.seq (.reg c_r06_Valid_r12 [6]) .ret) .skip)) (.seq (.dreg [] c_r06_Valid_r13 [3,4,5,9,77]) (.cond (.t 77) (.seq (.reg c_r06_Valid_r14 [6]) .ret) .skip)))) (.reg c_r06_Valid_r15 [3,4,5,9])))
@[go_sem] def c_r06_Valid_r17 : LL := [qi 10 0]
@[go_sem] def c_r06_Valid_r18 : LL := [qm 78 10,qf 79 1 3,ql 80 1 79,qz 81 80,qo .lss 82 78 81]
@[go_sem] def c_r06_Valid_r19 : LL := [qf 85 1 5,ql 86 1 85,qm 87 10,qd 88 1 86 87,ql 89 1 88,qk .lss 90 89 0,qm 91 90,qg 91 false (qf 92 1 5),qg 91 false (ql 93 1 92),qg 91 false (qm 94 10),qg 91 false (qd 95 1 93 94),
 qg 91 false (ql 96 1 95),qg 91 false (qf 97 1 4),qg 91 false (ql 98 1 97),qg 91 false (qz 99 98),qg 91 false (qo .geq 100 96 99),qQ 101 91 100]
@[go_sem] def c_r06_Valid_r20 : LL := [qi 6 6]
@[go_sem] def c_r06_Valid_r21 : LL := [qf 102 1 3,ql 103 1 102,qm 104 10,qd 105 3 103 104,qL 106 3 105,qf 107 1 4,ql 108 1 107,qf 109 1 5,ql 110 1 109,qm 111 10,qd 112 1 110 111,ql 113 1 112,qd 114 3 108 113,
 qL 115 3 114,qa 11 [.int .i64 (0),.int .i64 (0),.int .i64 (0)],qa 12 [.int .i64 (0),.int .i64 (0),.int .i64 (0)],qs 3 11 106,qs 3 12 115]
@[go_sem] def c_r06_Valid_r22 : LL := [qf 116 0 11,ql 117 1 116,qf 118 0 12,ql 119 1 118,qo .neq 120 117 119]
@[go_sem] def c_r06_Valid_r23 : LL := [qi 6 13]
@[go_sem] def c_r06_Valid_r24 : LL := [qf 121 0 5,ql 122 1 121,qf 123 1 11,ql 124 1 123,qd 125 1 122 124,ql 126 1 125,qf 127 1 12,ql 128 1 127,qo .neq 129 126 128,qm 130 129,qg 130 false (qf 131 0 5),
 qg 130 false (ql 132 1 131),qg 130 false (qf 133 2 11),qg 130 false (ql 134 1 133),qg 130 false (qd 135 1 132 134),qg 130 false (ql 136 1 135),qg 130 false (qf 137 2 12),
 qg 130 false (ql 138 1 137),qg 130 false (qo .neq 139 136 138),qQ 140 130 139]
@[go_sem] def c_r06_Valid_r25 : LL := [qi 6 11]
@[go_sem] def c_r06_Valid_r26 : LL := [qm 83 10,qk .add 84 83 1,qm 10 84]
def c_r06_Valid_b27 : LC := (.seq (.seq (.reg c_r06_Valid_r18 [3,4,5,10,82]) (.cond (.t 82) .skip (.exit 2))) (.seq (.block 3 (.seq (.seq (.dreg [] c_r06_Valid_r19 [3,4,5,10,101]) (.cond (.t 101) (.seq (.reg c_r06_Valid_r20 [6]) .ret) .skip)) (.seq (.dreg [(6,none,[],true),(8,none,[],true),(10,none,[],true),(11,none,[],true),(12,none,[],true),(13,none,[],true),(16,none,[6,8,10,11,12,13],false)] c_r06_Valid_r21 [3,4,5,10,11,12]) (.seq (.seq (.reg c_r06_Valid_r22 [3,4,5,10,11,12,120]) (.cond (.t 120) (.seq (.reg c_r06_Valid_r23 [6]) .ret) .skip)) (.seq (.dreg [] c_r06_Valid_r24 [3,4,5,10,140]) (.cond (.t 140) (.seq (.reg c_r06_Valid_r25 [6]) .ret) .skip)))))) (.reg c_r06_Valid_r26 [3,4,5,10])))
@[go_sem] def c_r06_Valid_r28 : LL := [qi 6 0]
@[go_sem] def c_r06_Valid (F : Fn) : LC := (.seq (.reg c_r06_Valid_r0 [3,4,5]) (.seq (.seq (.reg (c_r06_Valid_r1 F) [3,4,5,7]) (.seq (.reg c_r06_Valid_r2 [3,4,5,7,16]) (.cond (.t 16) (.seq (.reg c_r06_Valid_r3 [6]) .ret) .skip))) (.seq (.seq (.reg (c_r06_Valid_r4 F) [3,4,5,8]) (.seq (.reg c_r06_Valid_r5 [3,4,5,8,21]) (.cond (.t 21) (.seq (.reg c_r06_Valid_r6 [6]) .ret) .skip))) (.seq (.seq (.reg c_r06_Valid_r7 [3,4,5,38]) (.cond (.t 38) (.seq (.reg c_r06_Valid_r8 [6]) .ret) .skip)) (.seq (.seq (.reg c_r06_Valid_r9 [3,4,5,9]) (.block 0 (.loop [3,4,5,9] c_r06_Valid_b16))) (.seq (.seq (.reg c_r06_Valid_r17 [3,4,5,10]) (.block 2 (.loop [3,4,5,10] c_r06_Valid_b27))) (.seq (.reg c_r06_Valid_r28 [6]) .ret)))))))
def h_r06_Valid : Hints := hn [] [(0,[3,4,5]),(1,[3,4,5,7]),(2,[3,4,5,7,16]),(3,[6]),(4,[3,4,5,8]),(5,[3,4,5,8,21]),(6,[6]),(7,[3,4,5,38]),(8,[6]),(9,[3,4,5,9]),(10,[3,4,5,9,43]),(11,[3,4,5,9]),(12,[3,4,5,9,62]),(13,[6]),(14,[3,4,5,9,77]),(15,[6]),(16,[3,4,5,10]),(17,[3,4,5,10,82]),(18,[3,4,5,10]),(19,[3,4,5,10,101]),(20,[6]),(21,[3,4,5,10,11,12]),(22,[3,4,5,10,11,12,120]),(23,[6]),(24,[3,4,5,10,140]),(25,[6]),(26,[6])] [(10,[3,4,5,9]),(17,[3,4,5,10])]
def nodeE (bn : List Int) : List Int → List Int → Int
 | k :: ms, t :: as => if 0 ≤ k ∧ k < bn.length then (if gt bn k = t then nodeE bn ms as else 13) else 6
 | _, _ => 0
def edgeE (be : List E) (mn : List Int) : List Int → List E → Int
 | k :: ms, x :: as => if 0 ≤ k ∧ k < be.length then (if x.t = (gt be k).t then (if gt mn x.f = (gt be k).f ∧ gt mn x.o = (gt be k).o then edgeE be mn ms as else 11) else 13) else 6
 | _, _ => 0
def validM (a b : G) (m : Mo) : Int :=
 if validG a ≠ 0 then validG a else if validG b ≠ 0 then validG b else if m.n.length ≠ a.n.length ∨ m.e.length ≠ a.e.length then 20
 else if nodeE b.n m.n a.n ≠ 0 then nodeE b.n m.n a.n else edgeE b.e m.n m.e a.e
section
variable (P : Program) (F : String → Nat)
def K_morphism_Valid : Prop := ∀ (a b : G) (m : Mo), FC P (F "morphism.Valid") [gD a, gD b, mD m] (.int .i64 (validM a b m)) []
def K_r06_Valid : Prop := ∀ (a b : G) (m : Mo), FC P (F "r06.Valid") [gD a, gD b, mD m] (.int .i64 (validM a b m)) []
end
section
variable {P : Program} {F : String → Nat} {α : Type}
theorem nodeE_step {bn ms as : List Int} {i : Nat} (h1 : i < ms.length) (h2 : i < as.length) : nodeE bn (ms.drop i) (as.drop i) =
  if 0 ≤ gt ms i ∧ gt ms i < bn.length then (if gt bn (gt ms i) = gt as i then nodeE bn (ms.drop (i + 1)) (as.drop (i + 1)) else 13) else 6 := by
 rw [drop_gt h1, drop_gt h2, nodeE]
theorem edgeE_step {be : List E} {mn ms : List Int} {as : List E} {i : Nat} (h1 : i < ms.length) (h2 : i < as.length) : edgeE be mn (ms.drop i) (as.drop i) =
  if 0 ≤ gt ms i ∧ gt ms i < be.length then (if (gt as i).t = (gt be (gt ms i)).t then (if gt mn (gt as i).f = (gt be (gt ms i)).f ∧ gt mn (gt as i).o = (gt be (gt ms i)).o then edgeE be mn (ms.drop (i + 1)) (as.drop (i + 1)) else 11) else 13) else 6 := by
 rw [drop_gt h1, drop_gt h2, edgeE]
theorem nodeE_end {bn ms as : List Int} {i : Nat} (h1 : ms.length ≤ i) : nodeE bn (ms.drop i) (as.drop i) = 0 := by
 rw [List.drop_of_length_le h1]; rfl
theorem edgeE_end {be : List E} {mn ms : List Int} {as : List E} {i : Nat} (h1 : ms.length ≤ i) : edgeE be mn (ms.drop i) (as.drop i) = 0 := by
 rw [List.drop_of_length_le h1]; cases as.drop i <;> rfl
theorem w_morphism_Valid (hv : K_graph_Valid P F) (a b : G) (m : Mo) : W P (c_morphism_Valid F) (Done [.t 6] [] (.int .i64 (validM a b m)) []) (init [gD a, gD b, mD m]) := by
 refine W_of ?_
 have rva := hv a
 have rvb := hv b
 have sva := @valid_spec a
 have svb := @valid_spec b
 have hvm : validM a b m = if validG a ≠ 0 then validG a else if validG b ≠ 0 then validG b else if m.n.length ≠ a.n.length ∨ m.e.length ≠ a.e.length then 20
  else if nodeE b.n m.n a.n ≠ 0 then nodeE b.n m.n a.n else edgeE b.e m.n m.e a.e := rfl
 rw [hvm]
 generalize validG a = va at *
 generalize validG b = vb at *
 clear hvm
 obtain ⟨an, ae⟩ := a
 obtain ⟨bn, be⟩ := b
 obtain ⟨mn, me⟩ := m
 simp only [gD] at rva rvb
 simp only at sva svb
 simp (disch := omega) only [go_sem, ↓reduceIte, gD, mD]
 refine call_by rva ?_
 simp (disch := omega) only [go_sem, ↓reduceIte]
 refine bran_ndec (fun c1 => ?_) (fun c1 => ?_)
 ·simp (disch := omega) only [go_sem, ↓reduceIte]
 ·subst c1
  obtain ⟨a1, a2, _, a4⟩ := sva rfl
  simp (disch := omega) only [go_sem, ↓reduceIte]
  refine call_by rvb ?_
  simp (disch := omega) only [go_sem, ↓reduceIte]
  refine bran_ndec (fun c2 => ?_) (fun c2 => ?_)
  ·simp (disch := omega) only [go_sem, ↓reduceIte]
   simp [c2]
  ·subst c2
   obtain ⟨b1, b2, _, b4⟩ := svb rfl
   simp (disch := omega) only [go_sem, ↓reduceIte]
   refine bran_ndec (fun c3 => ?_) (fun c3 => ?_)
   ·simp (disch := omega) only [go_sem, ↓reduceIte, c3]
    rw [if_neg (by simp), if_neg (by simp)]
   ·simp (disch := omega) only [go_sem, ↓reduceIte, c3]
    refine bran_ndec (fun c4 => ?_) (fun c4 => ?_)
    ·simp (disch := omega) only [go_sem, ↓reduceIte, c3, c4]
     rw [if_neg (by simp), if_neg (by simp)]
    ·have d3 : mn.length = an.length := by omega
     have d4 : me.length = ae.length := by omega
     rw [if_neg (by simp), if_neg (by simp), if_neg (by simp only; omega)]
     clear c3 c4
     simp (disch := omega) only [go_sem, ↓reduceIte, d3, d4]
     refine W_loop (fun i : Nat => ⟨[(3, .pt 0 0), (4, .pt 1 0), (5, .pt 2 0), (42, .lst 1 (ints mn)), (43, .int .i64 an.length), (44, .int .i64 i)],
      [(0, .box [.lst 1 (ints an), .lst 3 (eds ae)]), (1, .box [.lst 1 (ints bn), .lst 3 (eds be)]), (2, .box [.lst 1 (ints mn), .lst 1 (ints me)])], 3⟩)
      (fun i => i ≤ mn.length ∧ nodeE bn mn an = nodeE bn (mn.drop i) (an.drop i)) (fun i => mn.length - i) 0 ?_ ?_ ?_
     ·simp (disch := omega) only [go_sem, ↓reduceIte, d3]
      rfl
     ·simp
     ·rintro i ⟨hi, hn⟩
      simp (disch := omega) only [go_sem, ↓reduceIte, c_morphism_Valid_b17]
      refine bran_dec (fun c5 => ?_) (fun c5 => ?_)
      ·have hs := nodeE_step (bn := bn) (ms := mn) (as := an) (i := i) (by omega) (by omega)
       simp (disch := omega) only [go_sem, ↓reduceIte]
       refine bran_dec (fun c6 => ?_) (fun c6 => ?_)
       ·simp (disch := omega) only [go_sem, ↓reduceIte, c6]
        rw [if_neg (show ¬ (0 ≤ gt mn i ∧ gt mn i < bn.length) by omega)] at hs
        rw [hn, hs]
        try simp
       ·simp (disch := omega) only [go_sem, ↓reduceIte, c6]
        refine bran_dec (fun c7 => ?_) (fun c7 => ?_)
        ·simp (disch := omega) only [go_sem, ↓reduceIte]
         rw [if_neg (show ¬ (0 ≤ gt mn i ∧ gt mn i < bn.length) by omega)] at hs
         rw [hn, hs]
         try simp
        ·rw [if_pos (show (0 ≤ gt mn i ∧ gt mn i < bn.length) by omega)] at hs
         simp (disch := omega) only [go_sem, ↓reduceIte]
         refine bran_ndec (fun c8 => ?_) (fun c8 => ?_)
         ·rw [if_neg c8] at hs
          simp (disch := omega) only [go_sem, ↓reduceIte]
          rw [hn, hs]
          try simp
         ·rw [if_pos c8] at hs
          simp (disch := omega) only [go_sem, ↓reduceIte]
          exact ⟨i + 1, by simp, ⟨by omega, by rw [hn, hs]⟩, by omega⟩
      ·rw [nodeE_end (by omega)] at hn
       simp (disch := omega) only [go_sem, ↓reduceIte]
       refine W_loop (fun i : Nat => ⟨[(3, .pt 0 0), (4, .pt 1 0), (5, .pt 2 0), (71, .lst 1 (ints me)), (72, .int .i64 ae.length), (73, .int .i64 i)],
        [(0, .box [.lst 1 (ints an), .lst 3 (eds ae)]), (1, .box [.lst 1 (ints bn), .lst 3 (eds be)]), (2, .box [.lst 1 (ints mn), .lst 1 (ints me)])], 3⟩)
        (fun i => i ≤ me.length ∧ edgeE be mn me ae = edgeE be mn (me.drop i) (ae.drop i)) (fun i => me.length - i) 0 ?_ ?_ ?_
       ·simp (disch := omega) only [go_sem, ↓reduceIte, d4]
        rfl
       ·simp
       ·rintro i ⟨hi, he⟩
        simp (disch := omega) only [go_sem, ↓reduceIte, c_morphism_Valid_b29]
        refine bran_dec (fun c5 => ?_) (fun c5 => ?_)
        ·have hs := edgeE_step (be := be) (mn := mn) (ms := me) (as := ae) (i := i) (by omega) (by omega)
         have hae := fits_spec (a4 _ (gt_mem (l := ae) (j := i) (by omega) (by omega)))
         simp (disch := omega) only [go_sem, ↓reduceIte]
         refine bran_dec (fun c6 => ?_) (fun c6 => ?_)
         ·simp (disch := omega) only [go_sem, ↓reduceIte, c6]
          rw [if_neg (show ¬ (0 ≤ gt me i ∧ gt me i < be.length) by omega)] at hs
          rw [hn, he, hs]
          simp
         ·simp (disch := omega) only [go_sem, ↓reduceIte, c6]
          refine bran_dec (fun c7 => ?_) (fun c7 => ?_)
          ·simp (disch := omega) only [go_sem, ↓reduceIte]
           rw [if_neg (show ¬ (0 ≤ gt me i ∧ gt me i < be.length) by omega)] at hs
           rw [hn, he, hs]
           simp
          ·rw [if_pos (show (0 ≤ gt me i ∧ gt me i < be.length) by omega)] at hs
           simp (disch := omega) only [go_sem, ↓reduceIte]
           refine bran_ndec (fun c8 => ?_) (fun c8 => ?_)
           ·rw [if_neg c8] at hs
            simp (disch := omega) only [go_sem, ↓reduceIte]
            rw [hn, he, hs]
            simp
           ·rw [if_pos c8] at hs
            simp (disch := omega) only [go_sem, ↓reduceIte]
            refine bran_ndec (fun c9 => ?_) (fun c9 => ?_)
            ·rw [if_neg (fun h => c9 h.1)] at hs
             simp (disch := omega) only [go_sem, ↓reduceIte, c9]
             rw [hn, he, hs]
             simp
            ·simp (disch := omega) only [go_sem, ↓reduceIte, c9]
             refine bran_ndec (fun d1 => ?_) (fun d1 => ?_)
             ·rw [if_neg (fun h => d1 h.2)] at hs
              simp (disch := omega) only [go_sem, ↓reduceIte]
              rw [hn, he, hs]
              simp
             ·rw [if_pos ⟨c9, d1⟩] at hs
              simp (disch := omega) only [go_sem, ↓reduceIte]
              exact ⟨i + 1, by simp, ⟨by omega, by rw [he, hs]⟩, by omega⟩
        ·rw [edgeE_end (by omega)] at he
         simp (disch := omega) only [go_sem, ↓reduceIte]
         rw [hn, he]
         simp
theorem w_r06_Valid (hv : K_r05_Valid P F) (a b : G) (m : Mo) : W P (c_r06_Valid F) (Done [.t 6] [] (.int .i64 (validM a b m)) []) (init [gD a, gD b, mD m]) := by
 refine W_of ?_
 have rva := hv a
 have rvb := hv b
 have sva := @valid_spec a
 have svb := @valid_spec b
 have hvm : validM a b m = if validG a ≠ 0 then validG a else if validG b ≠ 0 then validG b else if m.n.length ≠ a.n.length ∨ m.e.length ≠ a.e.length then 20
  else if nodeE b.n m.n a.n ≠ 0 then nodeE b.n m.n a.n else edgeE b.e m.n m.e a.e := rfl
 rw [hvm]
 generalize validG a = va at *
 generalize validG b = vb at *
 clear hvm
 obtain ⟨an, ae⟩ := a
 obtain ⟨bn, be⟩ := b
 obtain ⟨mn, me⟩ := m
 simp only [gD] at rva rvb
 simp only at sva svb
 simp (disch := omega) only [go_sem, ↓reduceIte, gD, mD]
 refine call_by rva ?_
 simp (disch := omega) only [go_sem, ↓reduceIte]
 refine bran_ndec (fun c1 => ?_) (fun c1 => ?_)
 ·simp (disch := omega) only [go_sem, ↓reduceIte]
 ·subst c1
  obtain ⟨a1, a2, _, a4⟩ := sva rfl
  simp (disch := omega) only [go_sem, ↓reduceIte]
  refine call_by rvb ?_
  simp (disch := omega) only [go_sem, ↓reduceIte]
  refine bran_ndec (fun c2 => ?_) (fun c2 => ?_)
  ·simp (disch := omega) only [go_sem, ↓reduceIte]
   simp [c2]
  ·subst c2
   obtain ⟨b1, b2, _, b4⟩ := svb rfl
   simp (disch := omega) only [go_sem, ↓reduceIte]
   refine bran_ndec (fun c3 => ?_) (fun c3 => ?_)
   ·simp (disch := omega) only [go_sem, ↓reduceIte, c3]
    rw [if_neg (by simp), if_neg (by simp)]
   ·simp (disch := omega) only [go_sem, ↓reduceIte, c3]
    refine bran_ndec (fun c4 => ?_) (fun c4 => ?_)
    ·simp (disch := omega) only [go_sem, ↓reduceIte, c3, c4]
     rw [if_neg (by simp), if_neg (by simp)]
    ·have d3 : mn.length = an.length := by omega
     have d4 : me.length = ae.length := by omega
     rw [if_neg (by simp), if_neg (by simp), if_neg (by simp only; omega)]
     clear c3 c4
     simp (disch := omega) only [go_sem, ↓reduceIte, d3, d4]
     refine W_loop (fun i : Nat => ⟨[(3, .pt 0 0), (4, .pt 1 0), (5, .pt 2 0), (9, .int .i64 i)],
      [(0, .box [.lst 1 (ints an), .lst 3 (eds ae)]), (1, .box [.lst 1 (ints bn), .lst 3 (eds be)]), (2, .box [.lst 1 (ints mn), .lst 1 (ints me)])], 3⟩)
      (fun i => i ≤ mn.length ∧ nodeE bn mn an = nodeE bn (mn.drop i) (an.drop i)) (fun i => mn.length - i) 0 ?_ ?_ ?_
     ·simp (disch := omega) only [go_sem, ↓reduceIte, d3]
      rfl
     ·simp
     ·rintro i ⟨hi, hn⟩
      simp (disch := omega) only [go_sem, ↓reduceIte, c_r06_Valid_b16]
      refine bran_dec (fun c5 => ?_) (fun c5 => ?_)
      ·have hs := nodeE_step (bn := bn) (ms := mn) (as := an) (i := i) (by omega) (by omega)
       simp (disch := omega) only [go_sem, ↓reduceIte]
       refine bran_dec (fun c6 => ?_) (fun c6 => ?_)
       ·simp (disch := omega) only [go_sem, ↓reduceIte, c6]
        rw [if_neg (show ¬ (0 ≤ gt mn i ∧ gt mn i < bn.length) by omega)] at hs
        rw [hn, hs]
        try simp
       ·simp (disch := omega) only [go_sem, ↓reduceIte, c6]
        refine bran_dec (fun c7 => ?_) (fun c7 => ?_)
        ·simp (disch := omega) only [go_sem, ↓reduceIte]
         rw [if_neg (show ¬ (0 ≤ gt mn i ∧ gt mn i < bn.length) by omega)] at hs
         rw [hn, hs]
         try simp
        ·rw [if_pos (show (0 ≤ gt mn i ∧ gt mn i < bn.length) by omega)] at hs
         simp (disch := omega) only [go_sem, ↓reduceIte]
         refine bran_ndec (fun c8 => ?_) (fun c8 => ?_)
         ·rw [if_neg c8] at hs
          simp (disch := omega) only [go_sem, ↓reduceIte]
          rw [hn, hs]
          try simp
         ·rw [if_pos c8] at hs
          simp (disch := omega) only [go_sem, ↓reduceIte]
          exact ⟨i + 1, by simp, ⟨by omega, by rw [hn, hs]⟩, by omega⟩
      ·rw [nodeE_end (by omega)] at hn
       simp (disch := omega) only [go_sem, ↓reduceIte]
       refine W_loop (fun i : Nat => ⟨[(3, .pt 0 0), (4, .pt 1 0), (5, .pt 2 0), (10, .int .i64 i)],
        [(0, .box [.lst 1 (ints an), .lst 3 (eds ae)]), (1, .box [.lst 1 (ints bn), .lst 3 (eds be)]), (2, .box [.lst 1 (ints mn), .lst 1 (ints me)])], 3⟩)
        (fun i => i ≤ me.length ∧ edgeE be mn me ae = edgeE be mn (me.drop i) (ae.drop i)) (fun i => me.length - i) 0 ?_ ?_ ?_
       ·simp (disch := omega) only [go_sem, ↓reduceIte, d4]
        rfl
       ·simp
       ·rintro i ⟨hi, he⟩
        simp (disch := omega) only [go_sem, ↓reduceIte, c_r06_Valid_b27]
        refine bran_dec (fun c5 => ?_) (fun c5 => ?_)
        ·have hs := edgeE_step (be := be) (mn := mn) (ms := me) (as := ae) (i := i) (by omega) (by omega)
         have hae := fits_spec (a4 _ (gt_mem (l := ae) (j := i) (by omega) (by omega)))
         simp (disch := omega) only [go_sem, ↓reduceIte]
         refine bran_dec (fun c6 => ?_) (fun c6 => ?_)
         ·simp (disch := omega) only [go_sem, ↓reduceIte, c6]
          rw [if_neg (show ¬ (0 ≤ gt me i ∧ gt me i < be.length) by omega)] at hs
          rw [hn, he, hs]
          simp
         ·simp (disch := omega) only [go_sem, ↓reduceIte, c6]
          refine bran_dec (fun c7 => ?_) (fun c7 => ?_)
          ·simp (disch := omega) only [go_sem, ↓reduceIte]
           rw [if_neg (show ¬ (0 ≤ gt me i ∧ gt me i < be.length) by omega)] at hs
           rw [hn, he, hs]
           simp
          ·rw [if_pos (show (0 ≤ gt me i ∧ gt me i < be.length) by omega)] at hs
           simp (disch := omega) only [go_sem, ↓reduceIte]
           refine bran_ndec (fun c8 => ?_) (fun c8 => ?_)
           ·rw [if_neg c8] at hs
            simp (disch := omega) only [go_sem, ↓reduceIte]
            rw [hn, he, hs]
            simp
           ·rw [if_pos c8] at hs
            simp (disch := omega) only [go_sem, ↓reduceIte]
            refine bran_ndec (fun c9 => ?_) (fun c9 => ?_)
            ·rw [if_neg (fun h => c9 h.1)] at hs
             simp (disch := omega) only [go_sem, ↓reduceIte, c9]
             rw [hn, he, hs]
             simp
            ·simp (disch := omega) only [go_sem, ↓reduceIte, c9]
             refine bran_ndec (fun d1 => ?_) (fun d1 => ?_)
             ·rw [if_neg (fun h => d1 h.2)] at hs
              simp (disch := omega) only [go_sem, ↓reduceIte]
              rw [hn, he, hs]
              simp
             ·rw [if_pos ⟨c9, d1⟩] at hs
              simp (disch := omega) only [go_sem, ↓reduceIte]
              exact ⟨i + 1, by simp, ⟨by omega, by rw [he, hs]⟩, by omega⟩
        ·rw [edgeE_end (by omega)] at he
         simp (disch := omega) only [go_sem, ↓reduceIte]
         rw [hn, he]
         simp
end
def distinct (l : List Int) : Bool := decide l.Nodup
def injM (a b : G) (m : Mo) : Bool := decide (validM a b m = 0) && (distinct m.n && distinct m.e)
section
variable (P : Program) (F : String → Nat)
end
section
variable {P : Program} {F : String → Nat} {α : Type}
theorem validM_spec {a b : G} {m : Mo} (h : validM a b m = 0) : validG a = 0 ∧ validG b = 0 ∧ m.n.length = a.n.length ∧ m.e.length = a.e.length ∧ nodeE b.n m.n a.n = 0 ∧ edgeE b.e m.n m.e a.e = 0 := by
 unfold validM at h
 split at h
 ·rename_i h1; exact absurd h h1
 ·rename_i h1
  split at h
  ·rename_i h2; exact absurd h h2
  ·rename_i h2
   split at h
   ·cases h
   ·rename_i h3
    split at h
    ·rename_i h4; exact absurd h h4
    ·rename_i h4
     exact ⟨by simpa using h1, by simpa using h2, by omega, by omega, by simpa using h4, h⟩
end
def covers (l : List Int) (n : Nat) : Bool := (List.range n).all fun k : Nat => decide ((k : Int) ∈ l)
def surM (a b : G) (m : Mo) : Bool := decide (validM a b m = 0) && (covers m.n b.n.length && covers m.e b.e.length)
section
variable (P : Program) (F : String → Nat)
end
section
variable {P : Program} {F : String → Nat} {α : Type}
end
section
variable {P : Program} {F : String → Nat} {α : Type}
theorem nodeE_all {bn : List Int} : ∀ {ms as : List Int}, nodeE bn ms as = 0 → ms.length = as.length → ∀ i : Nat, i < ms.length → (0 ≤ gt ms i ∧ gt ms i < bn.length) ∧ gt bn (gt ms i) = gt as i
 | [], _, _, _, i, hi => by simp at hi
 | k :: ms, [], _, hl, _, _ => by simp at hl
 | k :: ms, t :: as, h, hl, i, hi => by
  rw [nodeE] at h
  split at h
  ·rename_i h1
   split at h
   ·rename_i h2
    cases i with
    | zero => exact ⟨h1, h2⟩
    | succ i =>
     have := nodeE_all h (by simpa using hl) i (by simpa using hi)
     have e1 : gt (k :: ms) ((i + 1 : Nat) : Int) = gt ms i := by simp [gt]
     have e2 : gt (t :: as) ((i + 1 : Nat) : Int) = gt as i := by simp [gt]
     rw [e1, e2]; exact this
   ·simp at h
  ·simp at h
theorem edgeE_all {be : List E} {mn : List Int} : ∀ {ms : List Int} {as : List E}, edgeE be mn ms as = 0 → ms.length = as.length → ∀ i : Nat, i < ms.length →
  (0 ≤ gt ms i ∧ gt ms i < be.length) ∧ (gt as i).t = (gt be (gt ms i)).t ∧ gt mn (gt as i).f = (gt be (gt ms i)).f ∧ gt mn (gt as i).o = (gt be (gt ms i)).o
 | [], _, _, _, i, hi => by simp at hi
 | k :: ms, [], _, hl, _, _ => by simp at hl
 | k :: ms, x :: as, h, hl, i, hi => by
  rw [edgeE] at h
  split at h
  ·rename_i h1
   split at h
   ·rename_i h2
    split at h
    ·rename_i h3
     cases i with
     | zero => exact ⟨h1, h2, h3⟩
     | succ i =>
      have := edgeE_all h (by simpa using hl) i (by simpa using hi)
      have e1 : gt (k :: ms) ((i + 1 : Nat) : Int) = gt ms i := by simp [gt]
      have e2 : gt (x :: as) ((i + 1 : Nat) : Int) = gt as i := by simp [gt]
      rw [e1, e2]; exact this
    ·simp at h
   ·simp at h
  ·simp at h
end
section
variable {α : Type}
theorem gt_cons {α : Type} [Inhabited α] (a : α) (l : List α) (i : Nat) : gt (a :: l) ((i + 1 : Nat) : Int) = gt l i := by simp [gt]
theorem gt_cons0 {α : Type} [Inhabited α] (a : α) (l : List α) : gt (a :: l) ((0 : Nat) : Int) = a := by simp [gt]
theorem nodeE_mk {bn : List Int} : ∀ {ms as : List Int}, ms.length = as.length → (∀ i : Nat, i < ms.length → (0 ≤ gt ms i ∧ gt ms i < bn.length) ∧ gt bn (gt ms i) = gt as i) → nodeE bn ms as = 0
 | [], as, _, _ => rfl
 | k :: ms, [], hl, _ => by simp at hl
 | k :: ms, t :: as, hl, h => by
  have h0 := h 0 (by simp)
  rw [gt_cons0, gt_cons0] at h0
  rw [nodeE, if_pos h0.1, if_pos h0.2]
  exact nodeE_mk (by simpa using hl) fun i hi => by have := h (i + 1) (by simpa using hi); rwa [gt_cons, gt_cons] at this
theorem edgeE_mk {be : List E} {mn : List Int} : ∀ {ms : List Int} {as : List E}, ms.length = as.length → (∀ i : Nat, i < ms.length →
  (0 ≤ gt ms i ∧ gt ms i < be.length) ∧ (gt as i).t = (gt be (gt ms i)).t ∧ gt mn (gt as i).f = (gt be (gt ms i)).f ∧ gt mn (gt as i).o = (gt be (gt ms i)).o) → edgeE be mn ms as = 0
 | [], as, _, _ => by cases as <;> rfl
 | k :: ms, [], hl, _ => by simp at hl
 | k :: ms, x :: as, hl, h => by
  have h0 := h 0 (by simp)
  rw [gt_cons0, gt_cons0] at h0
  rw [edgeE, if_pos h0.1, if_pos h0.2.1, if_pos h0.2.2]
  exact edgeE_mk (by simpa using hl) fun i hi => by have := h (i + 1) (by simpa using hi); rwa [gt_cons, gt_cons] at this
theorem mok {a b : G} {m : Mo} : validM a b m = 0 ↔ MOk a b m := by
 constructor
 ·intro h
  obtain ⟨h1, h2, h3, h4, h5, h6⟩ := validM_spec h
  exact ⟨h1, h2, h3, h4, fun i hi => nodeE_all h5 h3 i (by omega), fun i hi => edgeE_all h6 h4 i (by omega)⟩
 ·intro h
  unfold validM
  rw [if_neg (by simp [h.va]), if_neg (by simp [h.vb]), if_neg (by have := h.ln; have := h.le; omega), if_neg (by
   rw [nodeE_mk h.ln fun i hi => h.nd i (by have := h.ln; omega)]; simp)]
  exact edgeE_mk h.le fun i hi => h.ed i (by have := h.le; omega)
end
attribute [local irreducible] W
section
variable (P : Program) (F : String → Nat)
end
section
variable {α : Type}
theorem Cmp.self {c : α → α → Int} (hc : Cmp c) (a : α) : c a a = 0 := by have := hc.neg a a; omega
theorem strict_one {c : α → α → Int} (hc : Cmp c) {a b : List α} (h1 : a.Pairwise (fun x y => c x y < 0)) (h2 : b.Pairwise (fun x y => c x y < 0)) (h : ∀ x, x ∈ a ↔ x ∈ b) : a = b := by
 have nd : ∀ {l : List α}, l.Pairwise (fun x y => c x y < 0) → l.Nodup := fun {l} hl => hl.imp fun {x y} hxy e => by subst e; have := hc.self x; omega
 refine sorted_one hc (h1.imp fun h => by omega) (h2.imp fun h => by omega) ?_
 exact (List.perm_ext_iff_of_nodup (nd h1) (nd h2)).2 h
end
section
variable {P : Program} {F : String → Nat} {α : Type}
end
section
variable (P : Program) (F : String → Nat)
end
section
variable {α : Type}
theorem dstL_one {l S : List (List Int)} (h : S.Pairwise (fun a b => scmp a b < 0)) (hm : ∀ x, x ∈ S ↔ x ∈ l) : S = dstL l :=
 strict_one scmp_cmp h (dstL_strict l) fun x => by rw [hm, dstL_mem]
end
section
variable {P : Program} {F : String → Nat} {α : Type}
end
def sdR (a b : G) : Nat → List (List Int) × List (List Int)
 | 0 => (frstL a, frstL b)
 | r + 1 => (nextL a (colA (sdR a b r).1 (dstL ((sdR a b r).1 ++ (sdR a b r).2))), nextL b (colA (sdR a b r).2 (dstL ((sdR a b r).1 ++ (sdR a b r).2))))
def difD (x y : List (List Int)) : Option (List Int) := (dstL (x ++ y)).find? fun z => !decide (cntL x z = cntL y z)
def rfR (a b : G) : Nat → Nat → Int → Option Df
 | 0, _, _ => none
 | k + 1, r, n => match difD (sdR a b r).1 (sdR a b r).2 with
  | some z => some ⟨r, z, cntL (sdR a b r).1 z, cntL (sdR a b r).2 z⟩
  | none => if ((dstL ((sdR a b r).1 ++ (sdR a b r).2)).length : Int) = n then none else rfR a b k (r + 1) (dstL ((sdR a b r).1 ++ (sdR a b r).2)).length
def rfrD (a b : G) : D := if bothE a b = 0 then (match rfR a b 41 0 (-1) with | some d => .tup [.agg (dfC d), .int .i64 0] | none => .tup [zdf, .int .i64 10]) else .tup [zdf, .int .i64 (bothE a b)]
section
variable (P : Program) (F : String → Nat)
end
section
variable {α : Type}
theorem sdR_length (a b : G) : ∀ r, (sdR a b r).1.length = a.n.length ∧ (sdR a b r).2.length = b.n.length
 | 0 => ⟨frstL_length a, frstL_length b⟩
 | r + 1 => ⟨nextL_length a _, nextL_length b _⟩
theorem colA_length (l S : List (List Int)) : (colA l S).length = l.length := by simp [colA]
end
section
variable {P : Program} {F : String → Nat} {α : Type}
end
@[go_sem] def c_iso_Find_r0 : LL := [qB 2 0,qB 3 1,qa 4 [.nl 1,.nl 1],qi 5 0]
@[go_sem] def c_iso_Find_r1 (F : Fn) : LL := [qL 8 2 2,qL 9 2 3,qc 10 (F "iso.both") [.t 8,.t 9],qm 6 10]
@[go_sem] def c_iso_Find_r2 : LL := [qm 11 6,qk .neq 12 11 0]
@[go_sem] def c_iso_Find_r3 : LL := [qu 13 [.nl 1,.nl 1] [],qm 14 6,qs 2 4 13,qm 5 14]
@[go_sem] def c_iso_Find_r4 (F : Fn) : LL := [qL 15 2 2,qL 16 2 3,qc 17 (F "iso.shaped") [.t 15,.t 16],qv 18 17]
@[go_sem] def c_iso_Find_r5 : LL := [qu 19 [.nl 1,.nl 1] [],qs 2 4 19,qi 5 10]
@[go_sem] def c_iso_Find_r6 (F : Fn) : LL := [qL 20 2 2,qL 21 2 3,qc 22 (F "iso.of") [.t 20,.t 21,.k (.int .i64 (0))],qm 7 22]
@[go_sem] def c_iso_Find_r7 (F : Fn) : LL := [qm 23 7,⟨some 24,.call (F "iso.search.nodes") [.t 23,.k (.nl 0),.k (.clo (F "iso.free") [])] [.mp,.rd,.mp],none⟩]
@[go_sem] def c_iso_Find_r8 : LL := [qm 25 7,qf 26 0 25,qf 27 6 26,ql 28 1 27,qz 29 28,qk .eql 30 29 0]
@[go_sem] def c_iso_Find_r9 : LL := [qu 31 [.nl 1,.nl 1] [],qs 2 4 31,qi 5 10]
@[go_sem] def c_iso_Find_r10 : LL := [qm 32 7,qf 33 0 32,qf 34 6 33,ql 35 1 34,⟨some 36,.iad 2 (.t 35) (.k (.int .i64 (0))),none⟩,qL 37 2 36,qs 2 4 37,qi 5 0]
@[go_sem] def c_iso_Find (F : Fn) : LC := (.seq (.reg c_iso_Find_r0 [2,3,4]) (.seq (.seq (.reg (c_iso_Find_r1 F) [2,3,4,6]) (.seq (.reg c_iso_Find_r2 [2,3,4,6,12]) (.cond (.t 12) (.seq (.reg c_iso_Find_r3 [4,5]) .ret) .skip))) (.seq (.seq (.reg (c_iso_Find_r4 F) [2,3,4,18]) (.cond (.t 18) (.seq (.reg c_iso_Find_r5 [4,5]) .ret) .skip)) (.seq (.reg (c_iso_Find_r6 F) [4,7]) (.seq (.reg (c_iso_Find_r7 F) [4,7]) (.seq (.seq (.reg c_iso_Find_r8 [4,7,30]) (.cond (.t 30) (.seq (.reg c_iso_Find_r9 [4,5]) .ret) .skip)) (.seq (.reg c_iso_Find_r10 [4,5]) .ret)))))))
def h_iso_Find : Hints := hOf [] (c_iso_Find fun _ => 0)
def zmo : D := .agg [.arr 1 [], .arr 1 []]
def findP (a b : G) : D := if bothE a b = 0 then (if shpB a b = true then (match isoN a b 0 fun _ _ => true with | [] => .tup [zmo, .int .i64 10] | x :: _ => .tup [mD x, .int .i64 0]) else .tup [zmo, .int .i64 10]) else .tup [zmo, .int .i64 (bothE a b)]
section
variable (P : Program) (F : String → Nat)
def K_iso_Find : Prop := ∀ a b : G, FC P (F "iso.Find") [gD a, gD b] (findP a b) []
end
section
variable {P : Program} {F : String → Nat} {α : Type}
theorem w_iso_Find (hb : K_iso_both P F) (hsh : K_iso_shaped P F) (hof : K_iso_of P F) (hn : K_iso_search_nodes P F) (hf : K_iso_free P F) (a b : G) : W P (c_iso_Find F) (Done [.c 4 true 2, .t 5] [] (findP a b) []) (init [gD a, gD b]) := by
 have r1 := hb a b
 have r2 := hsh a b
 by_cases hv : bothE a b = 0
 ·obtain ⟨va, vb⟩ := bothE_spec hv
  have r3 := hof a b 0 va vb
  have r4 := iso_call hn hf va vb 0 (by omega) (by omega)
  have hA : findP a b = if shpB a b = true then (match isoN a b 0 fun _ _ => true with | [] => .tup [zmo, .int .i64 10] | x :: _ => .tup [mD x, .int .i64 0]) else .tup [zmo, .int .i64 10] := if_pos hv
  have hl : ((isoN a b 0 fun _ _ => true).length : Int) ≤ 1 := by
   have := nN_len a b (colJ a b) 0 (fun _ _ => true) a.n.length [] [] (by simp)
   unfold isoN
   omega
  rw [hA]
  rw [hv] at r1
  rw [show (decide (a.n.length = b.n.length) && decide (a.e.length = b.e.length)) = shpB a b from rfl] at r2
  generalize (isoN a b 0 fun _ _ => true) = l at *
  generalize shpB a b = sh at *
  generalize colJ a b = c at *
  simp only [gD, seBx, zmo] at *
  refine W_of ?_
  have d0 : decide ((0 : Int) = 0) = true := rfl
  simp (disch := omega) only [go_sem, ↓reduceIte]
  refine call_by r1 ?_
  simp (disch := omega) only [go_sem, ↓reduceIte, d0]
  refine call_by r2 ?_
  cases sh with
  | false =>
   simp (disch := omega) only [go_sem, ↓reduceIte]
  | true =>
   simp (disch := omega) only [go_sem, ↓reduceIte]
   refine call_fz r3 ?_
   simp (disch := omega) only [go_sem, ↓reduceIte]
   refine call_fz r4 ?_
   rw [if_pos rfl]
   simp (disch := omega) only [go_sem, ↓reduceIte]
   refine bran_dec (fun d => ?_) (fun d => ?_)
   ·have : l = [] := List.eq_nil_of_length_eq_zero (by omega)
    subst this
    simp (disch := omega) only [go_sem, ↓reduceIte]
   ·obtain ⟨x, t, rfl⟩ := List.exists_cons_of_ne_nil (l := l) (fun e => d (by simp [e]))
    have e1 : pts (x :: t) = .agg [.lst 1 (ints x.n), .lst 1 (ints x.e)] :: pts t := rfl
    simp only [mD]
    simp (disch := omega) only [go_sem, ↓reduceIte, e1]
    rfl
 ·rw [show findP a b = .tup [zmo, .int .i64 (bothE a b)] from if_neg hv]
  generalize bothE a b = e at *
  simp only [gD, zmo] at *
  refine W_of ?_
  have d0 : decide (e = 0) = false := decide_eq_false hv
  simp (disch := omega) only [go_sem, ↓reduceIte]
  refine call_by r1 ?_
  simp (disch := omega) only [go_sem, ↓reduceIte, d0]
end
@[go_sem] def c_r05_Shuffle_r0 : LL := [qn 4 1]
@[go_sem] def c_r05_Shuffle_r1 (F : Fn) : LL := [qm 8 0,qc 9 (F "r05.Numbers") [.k (.int .i64 (0)),.t 8],qm 5 9]
@[go_sem] def c_r05_Shuffle_r2 : LL := [qi 6 0]
@[go_sem] def c_r05_Shuffle_r3 : LL := [qm 10 6,qm 11 0,qo .lss 12 10 11,qm 13 12,qg 13 true (qm 14 6),qg 13 true (qm 15 1),qg 13 true (qz 16 15),qg 13 true (qo .lss 17 14 16),qP 18 13 17]
@[go_sem] def c_r05_Shuffle_r4 : LL := [qm 21 6,qm 22 1,qm 23 6,qd 24 1 22 23,ql 25 1 24,⟨some 26,.conv .i64 (.t 25),none⟩,qm 27 0,qm 28 6,qo .sub 29 27 28,qo .rem 30 26 29,qo .add 31 21 30,qm 7 31]
@[go_sem] def c_r05_Shuffle_r5 : LL := [qm 32 5,qm 33 6,qm 34 5,qm 35 7,qm 36 5,qm 37 7,qd 38 1 36 37,ql 39 1 38,qm 40 5,qm 41 6,qd 42 1 40 41,ql 43 1 42,qd 44 1 32 33,qs 1 44 39,qd 45 1 34 35,qs 1 45 43]
@[go_sem] def c_r05_Shuffle_r6 : LL := [qm 19 6,qk .add 20 19 1,qm 6 20]
def c_r05_Shuffle_b7 : LC := (.seq (.seq (.reg c_r05_Shuffle_r3 [0,1,5,6,18]) (.cond (.t 18) .skip (.exit 0))) (.seq (.block 1 (.seq (.reg c_r05_Shuffle_r4 [0,1,5,6,7]) (.dreg [] c_r05_Shuffle_r5 [0,1,5,6]))) (.reg c_r05_Shuffle_r6 [0,1,5,6])))
@[go_sem] def c_r05_Shuffle_r8 : LL := [qm 46 5,qm 4 46]
@[go_sem] def c_r05_Shuffle (F : Fn) : LC := (.seq (.reg c_r05_Shuffle_r0 [0,1]) (.seq (.reg (c_r05_Shuffle_r1 F) [0,1,5]) (.seq (.seq (.reg c_r05_Shuffle_r2 [0,1,5,6]) (.block 0 (.loop [0,1,5,6] c_r05_Shuffle_b7))) (.seq (.reg c_r05_Shuffle_r8 [4]) .ret))))
def h_r05_Shuffle : Hints := hn [] [(0,[0,1]),(1,[0,1,5]),(2,[0,1,5,6]),(3,[0,1,5,6,18]),(4,[0,1,5,6]),(5,[0,1,5,6,7]),(6,[0,1,5,6]),(7,[4])] [(3,[0,1,5,6])]
def swapL (l : List Int) (i k : Nat) : List Int := (l.set i (gt l k)).set k (gt l i)
def shufK (n : Nat) (cs : List Int) (i : Nat) : Nat := i + ((gt cs i).tmod (n - i)).toNat
def shufL (n : Nat) (cs : List Int) : Nat → List Int
 | 0 => nums 0 n
 | i + 1 => swapL (shufL n cs i) i (shufK n cs i)
section
variable (P : Program) (F : String → Nat)
def K_r05_Shuffle : Prop := ∀ (n : Nat) (cs : List Int), n ≤ 1000000 → cs.length ≤ maxL → (∀ v ∈ cs, Byte v) → FC P (F "r05.Shuffle") [.int .i64 n, .lst 1 (u8s cs)] (.arr 1 (ints (shufL n cs (min n cs.length)))) []
end
section
variable {P : Program} {F : String → Nat} {α : Type}
theorem shufL_len (n : Nat) (cs : List Int) : ∀ i, (shufL n cs i).length = n
 | 0 => by simp [shufL, nums_len]
 | i + 1 => by simp [shufL, swapL, shufL_len n cs i]
theorem w_r05_Shuffle (hn : K_r05_Numbers P F) (n : Nat) (cs : List Int) (h1 : n ≤ 1000000) (h2 : cs.length ≤ maxL) (h3 : ∀ v ∈ cs, Byte v) : W P (c_r05_Shuffle F) (Done [.t 4] [] (.arr 1 (ints (shufL n cs (min n cs.length)))) []) (init [.int .i64 n, .lst 1 (u8s cs)]) := by
 refine W_of ?_
 unfold maxL at h2
 have hl := shufL_len n cs
 simp (disch := omega) only [go_sem, ↓reduceIte]
 refine call_by (hn _ _ (by omega) (by omega) (by omega)) ?_
 simp (disch := omega) only [go_sem, ↓reduceIte, nums_len]
 refine W_loop (fun i : Nat => ⟨[(0, D.int IntKind.i64 n), (1, D.lst 1 (u8s cs)), (5, D.sl 0 0 n), (6, D.int IntKind.i64 i)], [(0, Ent.arr 1 (ints (shufL n cs i)))], 1⟩) (fun i => i ≤ n ∧ i ≤ cs.length) (fun i => n - i) 0 ?_ ?_ ?_
 ·simp (disch := omega) only [go_sem, ↓reduceIte, nums_len]
  rfl
 ·simp
 ·rintro i ⟨hi, hi2⟩
  have hli := hl i
  simp (disch := omega) only [go_sem, ↓reduceIte, c_r05_Shuffle_b7]
  refine bran_dec (fun c => ?_) (fun c => ?_)
  ·simp (disch := omega) only [go_sem, ↓reduceIte, c]
   refine bran_dec (fun c2 => ?_) (fun c2 => ?_)
   ·have ho := h3 _ (gt_mem (l := cs) (j := i) (by omega) (by omega))
    have hb := tmod_bd (x := gt cs i) (m := (n : Int) - i) ho.1 (by omega)
    have hwr : IntKind.i64.wrap (gt cs i) = gt cs i := wrap_i64 (by have := ho.1; omega) (by have := ho.2; omega)
    have hz : ¬ ((n : Int) - i = 0) := by omega
    have hsh : (i : Int) + (gt cs i).tmod ((n : Int) - i) = ((shufK n cs i : Nat) : Int) := by unfold shufK; omega
    have hsk : shufK n cs i < n := by omega
    have hsl : ((shufL n cs i).set i (gt (shufL n cs i) (shufK n cs i : Int))).length = n := by rw [List.length_set, hli]
    simp (disch := omega) only [go_sem, ↓reduceIte, hli, hwr, hz, hsh]
    exact ⟨i + 1, by simp [shufL, swapL], by omega, by omega⟩
   ·simp (disch := omega) only [go_sem, ↓reduceIte]
    rw [show min n cs.length = i by omega]
  ·simp (disch := omega) only [go_sem, ↓reduceIte, c]
   rw [show min n cs.length = i by omega]
theorem shufK_lt {n : Nat} {cs : List Int} {i : Nat} (h1 : i < n) (h2 : i < cs.length) (h3 : ∀ v ∈ cs, Byte v) : shufK n cs i < n := by
 have ho := h3 _ (gt_mem (l := cs) (j := i) (by omega) (by omega))
 have hb := tmod_bd (x := gt cs i) (m := (n : Int) - i) ho.1 (by omega)
 unfold shufK
 omega
theorem shufL_perm {n : Nat} {cs : List Int} (h3 : ∀ v ∈ cs, Byte v) : ∀ i, i ≤ n → i ≤ cs.length → (shufL n cs i).Perm (nums 0 n)
 | 0, _, _ => List.Perm.refl _
 | i + 1, h1, h2 => by
  have hl := shufL_len n cs i
  have hk := shufK_lt (n := n) (cs := cs) (i := i) (by omega) (by omega) h3
  refine List.Perm.trans ?_ (shufL_perm h3 i (by omega) (by omega))
  simp only [shufL, swapL]
  rw [gt_nat (by omega), gt_nat (by omega)]
  exact List.set_set_perm (by omega) (by omega)
end
@[go_sem] def c_l08_other_r0 : LL := [qB 2 0,qa 4 [.nl 1,.nl 3],qa 5 [.nl 1,.nl 1]]
@[go_sem] def c_l08_other_r1 (F : Fn) : LL := [qf 14 0 2,ql 15 1 14,qz 16 15,qm 17 1,qc 18 (F "r05.Shuffle") [.t 16,.t 17],qm 6 18]
@[go_sem] def c_l08_other_r2 (F : Fn) : LL := [qf 19 1 2,ql 20 1 19,qz 21 20,qm 22 1,qc 23 (F "r05.Shuffle") [.t 21,.t 22],qm 7 23]
@[go_sem] def c_l08_other_r3 : LL := [qm 24 6,qz 25 24,⟨some 26,.makeSl 1 8 (.int .i64 (0)) (.t 25),none⟩,qm 27 7,qz 28 27,⟨some 29,.makeSl 3 24 (.agg [.int .i64 (0),.int .i64 (0),.int .i64 (0)]) (.t 28),none⟩,
 qu 30 [.nl 1,.nl 3] [(0,1,.t 26),(1,1,.t 29)],qa 8 [.nl 1,.nl 3],qs 2 8 30]
@[go_sem] def c_l08_other_r4 : LL := [qm 31 6,qz 32 31,qi 33 0]
@[go_sem] def c_l08_other_r5 : LL := [qo .lss 34 33 32]
@[go_sem] def c_l08_other_r6 : LL := [qm 35 33,qd 36 1 31 33,ql 37 1 36,qm 9 35,qm 10 37]
@[go_sem] def c_l08_other_r7 : LL := [qf 38 0 8,ql 39 1 38,qm 40 10,qf 41 0 2,ql 42 1 41,qm 43 9,qd 44 1 42 43,ql 45 1 44,qd 46 1 39 40,qs 1 46 45]
@[go_sem] def c_l08_other_r8 : LL := [qk .add 47 33 1,qm 33 47]
def c_l08_other_b9 : LC := (.seq (.reg c_l08_other_r5 [2,4,5,6,7,8,31,32,33,34]) (.seq (.cond (.t 34) .skip (.exit 0)) (.seq (.block 1 (.seq (.reg c_l08_other_r6 [2,4,5,6,7,8,9,10,31,32,33]) (.dreg [] c_l08_other_r7 [2,4,5,6,7,8,31,32,33]))) (.reg c_l08_other_r8 [2,4,5,6,7,8,31,32,33]))))
@[go_sem] def c_l08_other_r10 : LL := [qm 48 7,qz 49 48,qi 50 0]
@[go_sem] def c_l08_other_r11 : LL := [qo .lss 51 50 49]
@[go_sem] def c_l08_other_r12 : LL := [qm 52 50,qd 53 1 48 50,ql 54 1 53,qm 11 52,qm 12 54]
@[go_sem] def c_l08_other_r13 : LL := [qf 55 1 2,ql 56 1 55,qm 57 11,qd 58 3 56 57,qL 59 3 58,qa 13 [.int .i64 (0),.int .i64 (0),.int .i64 (0)],qs 3 13 59]
@[go_sem] def c_l08_other_r14 : LL := [qf 60 1 8,ql 61 1 60,qm 62 12,qf 63 0 13,ql 64 1 63,qm 65 6,qf 66 1 13,ql 67 1 66,qd 68 1 65 67,ql 69 1 68,qm 70 6,qf 71 2 13,ql 72 1 71,qd 73 1 70 72,ql 74 1 73,
 qu 75 [.int .i64 (0),.int .i64 (0),.int .i64 (0)] [(0,1,.t 64),(1,1,.t 69),(2,1,.t 74)],qd 76 3 61 62,qs 3 76 75]
@[go_sem] def c_l08_other_r15 : LL := [qk .add 77 50 1,qm 50 77]
def c_l08_other_b16 : LC := (.seq (.reg c_l08_other_r11 [2,4,5,6,7,8,48,49,50,51]) (.seq (.cond (.t 51) .skip (.exit 2)) (.seq (.block 3 (.seq (.reg c_l08_other_r12 [2,4,5,6,7,8,11,12,48,49,50]) (.seq (.reg c_l08_other_r13 [2,4,5,6,7,8,12,13,48,49,50]) (.dreg [] c_l08_other_r14 [2,4,5,6,7,8,48,49,50])))) (.reg c_l08_other_r15 [2,4,5,6,7,8,48,49,50]))))
@[go_sem] def c_l08_other_r17 : LL := [qL 78 2 8,qm 79 6,qm 80 7,qu 81 [.nl 1,.nl 1] [(0,1,.t 79),(1,1,.t 80)],qs 2 4 78,qs 2 5 81]
@[go_sem] def c_l08_other (F : Fn) : LC := (.seq (.reg c_l08_other_r0 [1,2,4,5]) (.seq (.reg (c_l08_other_r1 F) [1,2,4,5,6]) (.seq (.reg (c_l08_other_r2 F) [2,4,5,6,7]) (.seq (.dreg [] c_l08_other_r3 [2,4,5,6,7,8]) (.seq (.seq (.reg c_l08_other_r4 [2,4,5,6,7,8,31,32,33]) (.block 0 (.loop [2,4,5,6,7,8,31,32,33] c_l08_other_b9))) (.seq (.seq (.reg c_l08_other_r10 [2,4,5,6,7,8,48,49,50]) (.block 2 (.loop [2,4,5,6,7,8,48,49,50] c_l08_other_b16))) (.seq (.reg c_l08_other_r17 [4,5]) .ret)))))))
def h_l08_other : Hints := hOf [] (c_l08_other fun _ => 0)
def putO {α : Type} [Inhabited α] (p : List Int) (l : List α) : Nat → List α
 | 0 => List.replicate l.length default
 | k + 1 => (putO p l k).set (gt p k).toNat (gt l k)
def mapO (p : List Int) (x : E) : E := ⟨x.t, gt p x.f, gt p x.o⟩
def othG (g : G) (p q : List Int) : G := ⟨putO p g.n g.n.length, putO q (g.e.map (mapO p)) g.e.length⟩
def shfL (n : Nat) (cs : List Int) : List Int := shufL n cs (min n cs.length)
def othR (g : G) (cs : List Int) : G × Mo := (othG g (shfL g.n.length cs) (shfL g.e.length cs), ⟨shfL g.n.length cs, shfL g.e.length cs⟩)
section
variable (P : Program) (F : String → Nat)
def K_l08_other : Prop := ∀ (g : G) (cs : List Int), InG g → cs.length ≤ maxL → (∀ v ∈ cs, Byte v) → FC P (F "l08.other") [gD g, .lst 1 (u8s cs)] (.tup [gA (othR g cs).1, mA (othR g cs).2]) []
end
section
variable {P : Program} {F : String → Nat} {α : Type}
theorem putO_len [Inhabited α] (p : List Int) (l : List α) : ∀ k, (putO p l k).length = l.length
 | 0 => by simp [putO]
 | k + 1 => by simp [putO, putO_len p l k]
theorem nums_memO {n : Nat} {x : Int} : x ∈ nums 0 n ↔ 0 ≤ x ∧ x < n := by
 unfold nums
 constructor
 ·intro h
  simp at h
  omega
 ·intro h
  simp
  exact ⟨x.toNat, by omega, by omega⟩
theorem shfL_perm {n : Nat} {cs : List Int} (h : ∀ v ∈ cs, Byte v) : (shfL n cs).Perm (nums 0 n) := shufL_perm h _ (by omega) (by omega)
theorem shfL_len (n : Nat) (cs : List Int) : (shfL n cs).length = n := shufL_len _ _ _
theorem perm_inO {l : List Int} {n : Nat} (h : l.Perm (nums 0 n)) {j : Int} (h0 : 0 ≤ j) (h1 : j < n) : 0 ≤ gt l j ∧ gt l j < n := by
 have hl : l.length = n := by rw [h.length_eq, nums_len]
 exact nums_memO.1 (h.mem_iff.1 (gt_mem h0 (by omega)))
theorem w_l08_other (hs : K_r05_Shuffle P F) (g : G) (cs : List Int) (hg : InG g) (h1 : cs.length ≤ maxL) (h2 : ∀ v ∈ cs, Byte v) : W P (c_l08_other F) (Done [.c 4 true 2, .c 5 true 2] [] (.tup [gA (othR g cs).1, mA (othR g cs).2]) []) (init [gD g, .lst 1 (u8s cs)]) := by
 refine W_of ?_
 obtain ⟨g1, g2, g3⟩ := hg
 have r1 := hs g.n.length cs (by omega) h1 h2
 have r2 := hs g.e.length cs (by omega) h1 h2
 have p1 := shfL_perm (n := g.n.length) h2
 have p2 := shfL_perm (n := g.e.length) h2
 have l1 := shfL_len g.n.length cs
 have l2 := shfL_len g.e.length cs
 have hR : othR g cs = (othG g (shfL g.n.length cs) (shfL g.e.length cs), ⟨shfL g.n.length cs, shfL g.e.length cs⟩) := rfl
 rw [hR]
 rw [show shufL g.n.length cs (min g.n.length cs.length) = shfL g.n.length cs from rfl] at r1
 rw [show shufL g.e.length cs (min g.e.length cs.length) = shfL g.e.length cs from rfl] at r2
 generalize shfL g.n.length cs = p at *
 generalize shfL g.e.length cs = q at *
 clear hR
 obtain ⟨gn, ge⟩ := g
 simp only [gD, gA, mA, othG] at *
 have k1 : (p.length : Int) = gn.length := by omega
 have k2 : (q.length : Int) = ge.length := by omega
 simp (disch := omega) only [go_sem, ↓reduceIte]
 refine call_by r1 ?_
 simp (disch := omega) only [go_sem, ↓reduceIte, l1]
 refine call_by r2 ?_
 simp (disch := omega) only [go_sem, ↓reduceIte, l1, l2]
 refine W_loop (fun i : Nat => ⟨[(2, .pt 0 0), (4, .pt 3 0), (5, .pt 6 0), (6, .sl 7 0 gn.length), (7, .sl 8 0 ge.length), (8, .pt 11 0), (31, .sl 7 0 gn.length), (32, .int .i64 gn.length), (33, .int .i64 i)],
  [(0, .box [.lst 1 (ints gn), .lst 3 (eds ge)]), (1, .arr 1 []), (2, .arr 3 []), (3, .box [.sl 1 0 0, .sl 2 0 0]), (4, .arr 1 []), (5, .arr 1 []), (6, .box [.sl 4 0 0, .sl 5 0 0]), (7, .arr 1 (ints p)), (8, .arr 1 (ints q)),
   (9, .arr 1 (ints (putO p gn i))), (10, .arr 3 (eds (List.replicate ge.length { t := 0, f := 0, o := 0 }))), (11, .box [.sl 9 0 gn.length, .sl 10 0 ge.length])], 12⟩) (fun i => i ≤ gn.length) (fun i => gn.length - i) 0 ?_ ?_ ?_
 ·simp (disch := omega) only [go_sem, ↓reduceIte]
  rfl
 ·omega
 ·intro i hi
  have e1 := putO_len p gn i
  simp (disch := omega) only [go_sem, ↓reduceIte, c_l08_other_b9]
  refine bran_dec (fun c => ?_) (fun c => ?_)
  ·have hpi := perm_inO p1 (j := (i : Int)) (by omega) (by omega)
   simp (disch := omega) only [go_sem, ↓reduceIte, e1]
   exact ⟨i + 1, by simp [putO], by omega, by omega⟩
  ·obtain rfl : i = gn.length := by omega
   have hm : (ge.map (mapO p)).length = ge.length := by simp
   generalize hP : putO p gn gn.length = pn at *
   simp (disch := omega) only [go_sem, ↓reduceIte, e1]
   refine W_loop (fun i : Nat => ⟨[(2, .pt 0 0), (4, .pt 3 0), (5, .pt 6 0), (6, .sl 7 0 gn.length), (7, .sl 8 0 ge.length), (8, .pt 11 0), (48, .sl 8 0 ge.length), (49, .int .i64 ge.length), (50, .int .i64 i)],
    [(0, .box [.lst 1 (ints gn), .lst 3 (eds ge)]), (1, .arr 1 []), (2, .arr 3 []), (3, .box [.sl 1 0 0, .sl 2 0 0]), (4, .arr 1 []), (5, .arr 1 []), (6, .box [.sl 4 0 0, .sl 5 0 0]), (7, .arr 1 (ints p)), (8, .arr 1 (ints q)),
     (9, .arr 1 (ints pn)), (10, .arr 3 (eds (putO q (ge.map (mapO p)) i))), (11, .box [.sl 9 0 gn.length, .sl 10 0 ge.length])], 12⟩) (fun i => i ≤ ge.length) (fun i => ge.length - i) 0 ?_ ?_ ?_
   ·simp (disch := omega) only [go_sem, ↓reduceIte, putO, hm]
    rfl
   ·omega
   ·intro i hi
    have e2 := putO_len q (ge.map (mapO p)) i
    rw [hm] at e2
    simp (disch := omega) only [go_sem, ↓reduceIte, c_l08_other_b16]
    refine bran_dec (fun c => ?_) (fun c => ?_)
    ·have hpi := perm_inO p2 (j := (i : Int)) (by omega) (by omega)
     have hv := g3 _ (gt_mem (l := ge) (j := (i : Int)) (by omega) (by omega))
     have hmi : gt (ge.map (mapO p)) (i : Int) = mapO p (gt ge (i : Int)) := by
      rw [gt_nat (by omega), gt_nat (by omega), List.getElem_map]
     obtain ⟨⟨xt, xf, xo⟩, hx⟩ : ∃ x, gt ge (i : Int) = x := ⟨_, rfl⟩
     rw [hx] at hv hmi
     simp only [mapO] at hv hmi
     simp (disch := omega) only [go_sem, ↓reduceIte, e2, hx]
     exact ⟨i + 1, by simp [putO, hmi], by omega, by omega⟩
    ·obtain rfl : i = ge.length := by omega
     simp (disch := omega) only [go_sem, ↓reduceIte, e2]
     rw [← hP]
     rfl
end
section
theorem take_app {β : Type} (A B : List β) (M : Nat) : (A.take M ++ B).take M = (A ++ B).take M := by
 rw [List.take_append, List.take_append, List.take_take, Nat.min_self, List.length_take]
 rcases Nat.le_total M A.length with h | h
 ·rw [show M - min M A.length = 0 by omega, show M - A.length = 0 by omega]
 ·rw [show min M A.length = A.length by omega]
theorem foldl_takM {β γ : Type} {f : List β → γ → List β} {g : γ → List β} {M : Nat} (hf : ∀ o x, o.length ≤ M → f o x = (o ++ g x).take M) : ∀ (l : List γ) (o : List β), o.length ≤ M → l.foldl f o = (o ++ l.flatMap g).take M
 | [], o, h => by rw [List.foldl_nil, List.flatMap_nil, List.append_nil, List.take_of_length_le h]
 | x :: l, o, h => by
  rw [List.foldl_cons, hf o x h, foldl_takM hf l _ (by rw [List.length_take]; omega), List.flatMap_cons, ← List.append_assoc, take_app]
theorem take_full {β : Type} {o : List β} (X : List β) {M : Nat} (h : o.length = M) : (o ++ X).take M = o := by
 rw [List.take_append_of_le_length (by omega), List.take_of_length_le (by omega)]
theorem eE_take (a b : G) (ns : List Int) (m : Int) (hm : 0 ≤ m) : ∀ (k : Nat) (es : List Int) (out : List Mo), out.length ≤ m.toNat + 1 →
  eE a b ns m k es out = (out ++ (fullN b.e.length (fun es n => wnt a b ns es n.toNat) k es).map fun es => (⟨ns, es⟩ : Mo)).take (m.toNat + 1)
 | 0, es, out, h => by
  simp only [eE, fullN, List.map_cons, List.map_nil]
  split
  ·rw [take_full _ (by omega)]
  ·rw [List.take_of_length_le (by simp; omega)]
 | k + 1, es, out, h => by
  simp only [eE]
  split
  ·rw [take_full _ (by omega)]
  ·rw [foldl_takM (g := fun (n : Nat) => (if wnt a b ns es n then fullN b.e.length (fun es n => wnt a b ns es n.toNat) k (es ++ [(n : Int)]) else []).map fun es => (⟨ns, es⟩ : Mo)) (M := m.toNat + 1) _ _ _ h]
   ·rw [fullN, List.map_flatMap]
    rfl
   ·intro o n ho
    split
    ·exact eE_take a b ns m hm k _ _ ho
    ·rw [List.map_nil, List.append_nil, List.take_of_length_le ho]
theorem nN_take (a b : G) (c : List Int) (m : Int) (al : Int → Int → Bool) (hm : 0 ≤ m) : ∀ (k : Nat) (ns : List Int) (out : List Mo), out.length ≤ m.toNat + 1 →
  nN a b c m al k ns out = (out ++ (fullN b.n.length (fun ns n => al ns.length n && fitsP a b c ns n) k ns).flatMap (imM a b)).take (m.toNat + 1)
 | 0, ns, out, h => by
  simp only [nN, fullN, List.flatMap_cons, List.flatMap_nil, List.append_nil]
  split
  ·rw [take_full _ (by omega)]
  ·rw [eE_take a b ns m hm _ _ _ h]
   rfl
 | k + 1, ns, out, h => by
  simp only [nN]
  split
  ·rw [take_full _ (by omega)]
  ·rw [foldl_takM (g := fun (n : Nat) => (if al ns.length (n : Int) && fitsP a b c ns (n : Int) then fullN b.n.length (fun ns n => al ns.length n && fitsP a b c ns n) k (ns ++ [(n : Int)]) else []).flatMap (imM a b)) (M := m.toNat + 1) _ _ _ h]
   ·rw [fullN, List.flatMap_assoc]
   ·intro o n ho
    split
    ·exact nN_take a b c m al hm k _ _ ho
    ·rw [List.flatMap_nil, List.append_nil, List.take_of_length_le ho]
theorem isoN_take (a b : G) {m : Int} (al : Int → Int → Bool) (hm : 0 ≤ m) : isoN a b m al = ((fullN b.n.length (fun ns n => al ns.length n && fitsP a b (colJ a b) ns n) a.n.length []).flatMap (imM a b)).take (m.toNat + 1) := by
 rw [isoN, nN_take _ _ _ _ _ hm _ _ _ (by simp), List.nil_append]
end
section
theorem joinG_two (a b : G) : joinG [a, b] = join2 a b := by
 have := joinG_one a
 simp only [joinG, List.foldl_cons, List.foldl_nil] at this ⊢
 rw [this]
theorem gt_app_r {α : Type} [Inhabited α] {x y : List α} {i : Int} (h0 : 0 ≤ i) (h : i < y.length) : gt (x ++ y) (i + x.length) = gt y i := by
 obtain ⟨j, rfl⟩ := Int.eq_ofNat_of_zero_le h0
 rw [show ((j : Int) + x.length) = ((j + x.length : Nat) : Int) by omega, gt_nat (by simp; omega), gt_nat (by omega), List.getElem_append_right (by omega)]
 simp
theorem flatMap_nil' {α β : Type} {f : α → List β} : ∀ {l : List α}, (∀ x ∈ l, f x = []) → l.flatMap f = []
 | [], _ => rfl
 | x :: l, h => by rw [List.flatMap_cons, h x (by simp), flatMap_nil' fun y hy => h y (by simp [hy]), List.append_nil]
theorem trE_nil {c : List Int} {i : Nat} {x : E} (h1 : x.f ≠ i) (h2 : x.o ≠ i) : trE c i x = [] := by
 unfold trE
 rw [if_neg h1, if_neg h2]; rfl
theorem sgn_join_l {a b : G} (va : InG a) (vb : InG b) {ca cb : List Int} (h1 : ca.length = a.n.length) {i : Nat} (hi : i < a.n.length) : sgnO (join2 a b).e (ca ++ cb) i = sgnO a.e ca i := by
 unfold sgnO
 rw [gt_app_l (by omega) (by omega)]
 congr 3
 simp only [join2, trL, List.flatMap_append]
 rw [flatMap_nil' (l := List.map _ _), List.append_nil]
 ·refine flatMap_congr' fun x hx => ?_
  have := va.2.2 x hx
  simp only [trE]
  rw [gt_app_l (i := x.o) (by omega) (by omega), gt_app_l (i := x.f) (by omega) (by omega)]
 ·intro x hx
  obtain ⟨y, hy, rfl⟩ := List.mem_map.1 hx
  have := vb.2.2 y hy
  exact trE_nil (by simp only [shJ]; omega) (by simp only [shJ]; omega)
theorem sgn_join_r {a b : G} (va : InG a) (vb : InG b) {ca cb : List Int} (h1 : ca.length = a.n.length) (h2 : cb.length = b.n.length) {i : Nat} (hi : i < b.n.length) : sgnO (join2 a b).e (ca ++ cb) (a.n.length + i) = sgnO b.e cb i := by
 unfold sgnO
 have e : ((a.n.length + i : Nat) : Int) = (i : Int) + ca.length := by omega
 rw [e, gt_app_r (by omega) (by omega)]
 congr 3
 simp only [join2, trL, List.flatMap_append]
 rw [flatMap_nil' (l := a.e), List.nil_append, List.flatMap_map]
 ·refine flatMap_congr' fun x hx => ?_
  have := vb.2.2 x hx
  refine trE_sh rfl (by simp only [shJ]; omega) (by simp only [shJ]; omega) ?_ ?_
  ·simp only [shJ]
   rw [← h1]
   exact gt_app_r (by omega) (by omega)
  ·simp only [shJ]
   rw [← h1]
   exact gt_app_r (by omega) (by omega)
 ·intro x hx
  have := va.2.2 x hx
  exact trE_nil (by omega) (by omega)
theorem nextL_join {a b : G} (va : InG a) (vb : InG b) {ca cb : List Int} (h1 : ca.length = a.n.length) (h2 : cb.length = b.n.length) : nextL (join2 a b) (ca ++ cb) = nextL a ca ++ nextL b cb := by
 have hn : (join2 a b).n.length = a.n.length + b.n.length := by simp [join2]
 refine List.ext_getElem (by simp [nextL, hn]) fun i hi _ => ?_
 simp only [nextL, List.length_map, List.length_range, hn] at hi
 rcases Nat.lt_or_ge i a.n.length with h | h
 ·rw [List.getElem_append_left (by simp [nextL]; omega)]
  simp only [nextL, List.getElem_map, List.getElem_range]
  exact sgn_join_l va vb h1 h
 ·rw [List.getElem_append_right (by simp [nextL]; omega)]
  simp only [nextL, List.getElem_map, List.getElem_range, List.length_map, List.length_range]
  obtain ⟨j, rfl⟩ : ∃ j, i = a.n.length + j := ⟨i - a.n.length, by omega⟩
  rw [show a.n.length + j - a.n.length = j by omega]
  exact sgn_join_r va vb h1 h2 (by omega)
theorem sgR_join {a b : G} (va : InG a) (vb : InG b) : ∀ r, sgR (joinG [a, b]) r = (sdR a b r).1 ++ (sdR a b r).2
 | 0 => by simp [sgR, sdR, frstL, joinG_two, join2]
 | r + 1 => by
  obtain ⟨l1, l2⟩ := sdR_length a b r
  rw [sgR, sgR_join va vb r, sdR, joinG_two]
  rw [show colL ((sdR a b r).1 ++ (sdR a b r).2) = colA (sdR a b r).1 (dstL ((sdR a b r).1 ++ (sdR a b r).2)) ++ colA (sdR a b r).2 (dstL ((sdR a b r).1 ++ (sdR a b r).2)) by simp [colL, colA]]
  exact nextL_join va vb (by rw [colA_length, l1]) (by rw [colA_length, l2])
theorem find_least {p : List Int → Bool} : ∀ {S : List (List Int)} {x y : List Int}, S.Pairwise (fun a b => scmp a b ≤ 0) → S.find? p = some x → y ∈ S → p y = true → scmp x y ≤ 0
 | [], x, y, _, h, _, _ => by simp at h
 | z :: S, x, y, hS, h, hy, hp => by
  rw [List.pairwise_cons] at hS
  rw [List.find?_cons] at h
  split at h
  ·simp only [Option.some.injEq] at h
   subst h
   rcases List.mem_cons.1 hy with rfl | hy
   ·rw [scmp_self]; omega
   ·exact hS.1 y hy
  ·rename_i hz
   rcases List.mem_cons.1 hy with rfl | hy
   ·rw [hp] at hz; cases hz
   ·exact find_least hS.2 h hy hp
theorem find_sorted {p : List Int → Bool} {S T : List (List Int)} (hS : S.Pairwise (fun a b => scmp a b ≤ 0)) (hT : T.Pairwise (fun a b => scmp a b ≤ 0)) (h : ∀ x, x ∈ S ↔ x ∈ T) : S.find? p = T.find? p := by
 cases hs : S.find? p with
 | none =>
  rw [List.find?_eq_none] at hs
  symm
  rw [List.find?_eq_none]
  exact fun x hx => hs x ((h x).2 hx)
 | some x =>
  have hxS := List.mem_of_find?_eq_some hs
  have hxp := List.find?_some hs
  cases ht : T.find? p with
  | none =>
   rw [List.find?_eq_none] at ht
   exact absurd hxp (ht x ((h x).1 hxS))
  | some z =>
   have hzT := List.mem_of_find?_eq_some ht
   have hzp := List.find?_some ht
   have h1 := find_least hS hs ((h z).2 hzT) hzp
   have h2 := find_least hT ht ((h x).1 hxS) hxp
   have := scmp_neg x z
   rw [scmp_eq x z (by omega)]
theorem dif_same (x y : List (List Int)) : difS (x ++ y) x.length = difD x y := by
 unfold difS difD
 rw [List.take_left, List.drop_left]
 exact find_sorted (sortL_sorted _) ((dstL_strict _).imp fun h => by omega) fun z => by rw [dstL_mem, (sortL_perm _).mem_iff]
theorem below_iff {S : List (List Int)} {x y : List Int} (hx : x ∈ S) (hy : y ∈ S) : scmp x y < 0 ↔ below S x < below S y := by
 refine ⟨below_lt hx, fun h => ?_⟩
 rcases Int.lt_trichotomy (scmp x y) 0 with k | k | k
 ·exact k
 ·rw [scmp_eq _ _ k] at h; omega
 ·have := scmp_neg x y
  have := below_lt (x := y) (y := x) hy (by omega)
  omega
theorem colL_stable {g : G} {s : List (List Int)} (hs : s.length = g.n.length) (h : ndL (nextL g (colL s)) = ndL s) : colL (nextL g (colL s)) = colL s := by
 obtain ⟨T, hT⟩ : ∃ T, T = dstL (nextL g (colL s)) := ⟨_, rfl⟩
 obtain ⟨S, hS⟩ : ∃ S, S = dstL s := ⟨_, rfl⟩
 have hlen : T.length = S.length := by rw [hT, hS]; exact h
 let hd : List Int → Int := fun l => l.headD 0
 have hhd : ∀ i : Nat, i < g.n.length → hd (gt (nextL g (colL s)) (i : Int)) = (below S (gt s (i : Int)) : Int) := fun i hi => by
  rw [nextL_gt hi]
  simp only [hd, sgnO, List.headD_cons]
  rw [colL_gt (by omega), ← hS]
 have hSn : (S.map fun x => (below S x : Int)).Nodup := by
  rw [List.nodup_iff_pairwise_ne, List.pairwise_map]
  have := dstL_nodup s
  rw [← hS, List.nodup_iff_pairwise_ne] at this
  exact List.Pairwise.imp_of_mem (fun {x y} hx hy hne e => hne (below_inj hx hy (by omega))) this
 have hsub : ∀ v ∈ S.map (fun x => (below S x : Int)), v ∈ T.map hd := fun v hv => by
  obtain ⟨x, hx, rfl⟩ := List.mem_map.1 hv
  obtain ⟨i, hi, rfl⟩ := List.mem_iff_getElem.1 (dstL_mem.1 (hS ▸ hx))
  refine List.mem_map.2 ⟨gt (nextL g (colL s)) (i : Int), hT ▸ dstL_mem.2 (gt_mem (by omega) (by rw [nextL_length]; omega)), ?_⟩
  rw [hhd i (by omega), gt_nat hi]
 have hperm := perm_sub hSn hsub (by simp [hlen])
 have hTn : (T.map hd).Nodup := hperm.nodup_iff.1 hSn
 have hinj : ∀ u ∈ T, ∀ t ∈ T, hd u = hd t → u = t := fun u hu t ht e => by
  obtain ⟨i, hi, rfl⟩ := List.mem_iff_getElem.1 hu
  obtain ⟨j, hj, rfl⟩ := List.mem_iff_getElem.1 ht
  rw [List.nodup_iff_pairwise_ne, List.pairwise_iff_getElem] at hTn
  rcases Nat.lt_trichotomy i j with k | k | k
  ·exact absurd (by rw [List.getElem_map, List.getElem_map]; exact e) (hTn i j (by simpa using hi) (by simpa using hj) k)
  ·subst k; rfl
  ·exact absurd (by rw [List.getElem_map, List.getElem_map]; exact e.symm) (hTn j i (by simpa using hj) (by simpa using hi) k)
 have hform : ∀ t ∈ T, ∃ r, t = hd t :: r := fun t ht => by
  obtain ⟨i, hi, rfl⟩ := List.mem_map.1 (dstL_mem.1 (hT ▸ ht))
  exact ⟨_, rfl⟩
 have hcmp : ∀ u ∈ T, ∀ t ∈ T, (scmp u t < 0 ↔ hd u < hd t) := fun u hu t ht => by
  by_cases e : hd u = hd t
  ·rw [hinj u hu t ht e, scmp_self]; omega
  ·obtain ⟨r, h1⟩ := hform u hu
   obtain ⟨q, h2⟩ := hform t ht
   generalize hd u = p at *
   generalize hd t = m at *
   subst h1 h2
   simp only [scmp, if_neg e, sgn]
   split
   ·omega
   ·split <;> omega
 refine List.ext_getElem (by rw [colL_length, colL_length, nextL_length, hs]) fun i h1 h2 => ?_
 rw [colL_length] at h2
 have e1 := colL_gt (l := nextL g (colL s)) (i := i) (by rw [nextL_length]; omega)
 have e2 := colL_gt (l := s) (i := i) h2
 rw [gt_nat h1] at e1
 rw [gt_nat (by rw [colL_length]; exact h2)] at e2
 rw [e1, e2, ← hT, ← hS]
 have hti : gt (nextL g (colL s)) (i : Int) ∈ T := hT ▸ dstL_mem.2 (gt_mem (by omega) (by rw [nextL_length]; omega))
 have hsi : gt s (i : Int) ∈ S := hS ▸ dstL_mem.2 (gt_mem (by omega) (by omega))
 have hh := hhd i (by omega)
 generalize gt (nextL g (colL s)) (i : Int) = t at *
 generalize gt s (i : Int) = x at *
 have k1 : below T t = ((T.map hd).filter fun v => decide (v < hd t)).length := by
  rw [List.filter_map, List.length_map, below]
  congr 1
  refine List.filter_congr fun u hu => ?_
  have := hcmp u hu t hti
  simp only [Function.comp_apply]
  exact decide_eq_decide.2 this
 have k2 : below S x = ((S.map fun x => (below S x : Int)).filter fun v => decide (v < hd t)).length := by
  rw [List.filter_map, List.length_map]
  rw [below]
  congr 1
  refine List.filter_congr fun u hu => ?_
  have := below_iff hu hsi
  simp only [Function.comp_apply, hh]
  exact decide_eq_decide.2 (by omega)
 rw [k1, k2, (hperm.filter _).length_eq]
theorem sgR_stop {g : G} {r : Nat} (h : ndL (sgR g (r + 1)) = ndL (sgR g r)) : ∀ k, sgR g (r + 1 + k) = sgR g (r + 1)
 | 0 => rfl
 | k + 1 => by
  rw [show r + 1 + (k + 1) = (r + 1 + k) + 1 from rfl, sgR, sgR_stop h k]
  rw [sgR] at h ⊢
  rw [colL_stable (sgR_length g r) h]
theorem runR_none {J : G} {n : Nat} {s : Df × Bool} : ∀ {k r : Nat}, (∀ j, j < k → difS (sgR J (r + j)) n = none) → runR (stpR J n) k s r = s
 | 0, _, _ => rfl
 | k + 1, r, h => by
  have h0 : difS (sgR J r) n = none := h 0 (by omega)
  have : stpR J n s r = (s, false) := by simp only [stpR, h0]
  rw [runR, this]
  simp only [Bool.false_eq_true, if_false]
  exact runR_none fun j hj => by
   have := h (j + 1) (by omega)
   rwa [show r + (j + 1) = r + 1 + j by omega] at this
theorem run_same {a b : G} (va : InG a) (vb : InG b) (d : Df) : ∀ (k r : Nat) (m : Int), (r = 0 → m = -1) → (∀ q, r = q + 1 → m = ndL (sgR (joinG [a, b]) q)) →
  runR (stpR (joinG [a, b]) a.n.length) k (d, false) r = match rfR a b k r m with | some x => (x, true) | none => (d, false)
 | 0, _, _, _, _ => rfl
 | k + 1, r, m, h0, h1 => by
  have hj := sgR_join va vb r
  obtain ⟨l1, l2⟩ := sdR_length a b r
  have hd : difS (sgR (joinG [a, b]) r) a.n.length = difD (sdR a b r).1 (sdR a b r).2 := by rw [hj, ← l1, dif_same]
  have hn : ((dstL ((sdR a b r).1 ++ (sdR a b r).2)).length : Int) = ndL (sgR (joinG [a, b]) r) := by rw [hj]; rfl
  rw [runR, rfR]
  cases hz : difD (sdR a b r).1 (sdR a b r).2 with
  | some z =>
   rw [hz] at hd
   have : stpR (joinG [a, b]) a.n.length (d, false) r = ((⟨r, z, cntL (sdR a b r).1 z, cntL (sdR a b r).2 z⟩, true), true) := by
    simp only [stpR, hd]
    rw [hj, ← l1, List.take_left, List.drop_left]
   rw [this]
   rfl
  | none =>
   rw [hz] at hd
   have : stpR (joinG [a, b]) a.n.length (d, false) r = ((d, false), false) := by simp only [stpR, hd]
   rw [this]
   simp only [Bool.false_eq_true, if_false]
   by_cases e : ((dstL ((sdR a b r).1 ++ (sdR a b r).2)).length : Int) = m
   ·rw [if_pos e]
    simp only
    cases r with
    | zero => have := h0 rfl; omega
    | succ q =>
     have h2 := h1 q rfl
     refine runR_none fun j _ => ?_
     rw [show q + 1 + 1 + j = q + 1 + (j + 1) by omega, sgR_stop (by omega), hd]
   ·rw [if_neg e]
    exact run_same va vb d k (r + 1) _ (by omega) fun q hq => by
     obtain rfl : q = r := by omega
     exact hn
theorem rsn_same (a b : G) : rsnD a b = rfrD a b := by
 unfold rsnD rfrD
 split
 ·rename_i h
  obtain ⟨va, vb⟩ : validG a = 0 ∧ validG b = 0 := by
   unfold bothE at h
   split at h
   ·exact ⟨by assumption, h⟩
   ·contradiction
  have := run_same (InG.of_valid va) (InG.of_valid vb) ⟨0, [], 0, 0⟩ 41 0 (-1) (fun _ => rfl) (by omega)
  rw [show rsnR a b = runR (stpR (joinG [a, b]) a.n.length) 41 (⟨0, [], 0, 0⟩, false) 0 from rfl, this]
  cases rfR a b 41 0 (-1) <;> rfl
 ·rfl
theorem rfR_ok {a b : G} {d : Df} : ∀ {k r : Nat} {m : Int}, rfR a b k r m = some d → ∃ q : Nat, d.r = q ∧ r ≤ q ∧ q < r + k ∧ (cntL (sdR a b q).1 d.c : Int) = d.x ∧ (cntL (sdR a b q).2 d.c : Int) = d.y ∧ d.x ≠ d.y ∧ d.c ∈ (sdR a b q).1 ++ (sdR a b q).2
 | 0, _, _, h => by simp [rfR] at h
 | k + 1, r, m, h => by
  rw [rfR] at h
  cases hz : difD (sdR a b r).1 (sdR a b r).2 with
  | some z =>
   rw [hz] at h
   simp only [Option.some.injEq] at h
   subst h
   have h1 := List.find?_some hz
   have h2 := List.mem_of_find?_eq_some hz
   simp only [Bool.not_eq_true', decide_eq_false_iff_not] at h1
   exact ⟨r, rfl, by omega, by omega, rfl, rfl, by simp only; omega, dstL_mem.1 h2⟩
  | none =>
   rw [hz] at h
   simp only at h
   split at h
   ·cases h
   ·obtain ⟨q, h1, h2, h3, h4⟩ := rfR_ok h
    exact ⟨q, h1, by omega, by omega, h4⟩
end
section
theorem fullN_filter {N : Nat} {ok : List Int → Int → Bool} : ∀ (k : Nat) (ns : List Int), fullN N ok k ns = (fullN N (fun _ _ => true) k ns).filter fun l => (List.range' ns.length k).all fun i => ok (l.take i) (gt l (i : Int))
 | 0, ns => by simp [fullN]
 | k + 1, ns => by
  simp only [fullN, if_true]
  rw [List.filter_flatMap]
  refine flatMap_congr' fun n _ => ?_
  have key : ∀ l ∈ fullN N (fun _ _ => true) k (ns ++ [(n : Int)]), ok (l.take ns.length) (gt l (ns.length : Int)) = ok ns n := fun l hl => by
   obtain ⟨h1, h2, _⟩ := mem_fullN.1 hl
   simp only [List.length_append, List.length_singleton] at h1 h2
   have e := take_gt (l := l) (i := ns.length) (by omega)
   rw [h2] at e
   obtain ⟨e1, e2⟩ := List.append_inj' e rfl
   simp only [List.cons.injEq, and_true] at e2
   rw [← e1, ← e2]
  by_cases h : ok ns n = true
  ·rw [if_pos h, fullN_filter k]
   refine List.filter_congr fun l hl => ?_
   rw [List.range'_succ, List.all_cons, key l hl, h, Bool.true_and, List.length_append, List.length_singleton]
  ·rw [if_neg h]
   symm
   rw [List.filter_eq_nil_iff]
   intro l hl
   rw [List.range'_succ, List.all_cons, key l hl]
   simp [h]
theorem fullN_eq {N : Nat} {ok1 ok2 : List Int → Int → Bool} {k : Nat} {ns : List Int} (h : ∀ l, l ∈ fullN N ok1 k ns ↔ l ∈ fullN N ok2 k ns) : fullN N ok1 k ns = fullN N ok2 k ns := by
 rw [fullN_filter (ok := ok1), fullN_filter (ok := ok2)] at *
 refine List.filter_congr fun l hl => ?_
 have := h l
 simp only [List.mem_filter, hl, true_and] at this
 exact Bool.eq_iff_iff.2 this
theorem betL_cnt (g : G) (f o t : Int) : (betL g f o).count t = numL g t f o := by
 rw [betL, (srt_perm _).count_eq, List.count_eq_countP, List.countP_map, List.countP_filter, numL, ← List.countP_eq_length_filter]
 refine List.countP_congr fun x _ => ?_
 simp only [Function.comp_apply, Bool.and_eq_true, decide_eq_true_eq, beq_iff_eq, numP]
theorem betL_iff {a b : G} {i k p q : Int} : betL a i k = betL b p q ↔ ∀ t, numL a t i k = numL b t p q := by
 constructor
 ·intro h t
  rw [← betL_cnt, ← betL_cnt, h]
 ·intro h
  refine asc_one (srt_sorted _) (srt_sorted _) (List.perm_iff_count.2 fun t => ?_)
  have := h t
  rw [← betL_cnt, ← betL_cnt] at this
  exact this
theorem mem_fullP {a b : G} {c l : List Int} {al : Int → Int → Bool} : l ∈ fullN b.n.length (fun ns n => al ns.length n && fitsP a b c ns n) a.n.length [] ↔
  l.length = a.n.length ∧ (∀ i : Nat, i < a.n.length → 0 ≤ gt l (i : Int) ∧ gt l (i : Int) < b.n.length) ∧ (∀ i k : Nat, i < a.n.length → k < a.n.length → gt l (i : Int) = gt l (k : Int) → i = k) ∧
   (∀ i : Nat, i < a.n.length → gt c (i : Int) = gt c ((a.n.length : Int) + gt l (i : Int))) ∧ (∀ (t : Int) (i k : Nat), i < a.n.length → k < a.n.length → numL a t i k = numL b t (gt l (i : Int)) (gt l (k : Int))) ∧ ∀ i : Nat, i < a.n.length → al i (gt l (i : Int)) = true := by
 rw [mem_fullN]
 simp only [List.length_nil, Nat.zero_add, List.take_zero, true_and, Nat.zero_le, forall_const]
 constructor
 ·rintro ⟨h1, h2⟩
  have h3 : ∀ i : Nat, i < a.n.length → al i (gt l (i : Int)) = true ∧ gt c (i : Int) = gt c ((a.n.length : Int) + gt l (i : Int)) ∧ (∀ k : Nat, k < i → gt l (k : Int) ≠ gt l (i : Int)) ∧ ∀ k : Nat, k ≤ i → ∀ t, numL a t k i = numL b t (gt l (k : Int)) (gt l (i : Int)) ∧ numL a t i k = numL b t (gt l (i : Int)) (gt l (k : Int)) := fun i hi => by
   have h := (h2 i (by omega)).2
   simp only [fitsP, Bool.and_eq_true, decide_eq_true_eq, Bool.not_eq_true', decide_eq_false_iff_not, List.all_eq_true, List.mem_range, List.length_take, show min i l.length = i by omega, pairO, betL_iff] at h
   obtain ⟨e0, e1, e2, e3, e4⟩ := h
   refine ⟨e0, e2, (not_mem_take (by omega)).1 e1, fun k hk t => ?_⟩
   rcases Nat.lt_or_ge k i with h | h
   ·have e5 := e4 k h
    rw [gt_take' h (by omega)] at e5
    exact ⟨e5.2 t, e5.1 t⟩
   ·obtain rfl : k = i := by omega
    exact ⟨e3 t, e3 t⟩
  refine ⟨h1, fun i hi => (h2 i (by omega)).1, fun i k hi hk e => ?_, fun i hi => (h3 i hi).2.1, fun t i k hi hk => ?_, fun i hi => (h3 i hi).1⟩
  ·rcases Nat.lt_trichotomy i k with h | h | h
   ·exact absurd e ((h3 k hk).2.2.1 i h)
   ·exact h
   ·exact absurd e.symm ((h3 i hi).2.2.1 k h)
  ·rcases Nat.le_total i k with h | h
   ·exact ((h3 k hk).2.2.2 i h t).1
   ·exact ((h3 i hi).2.2.2 k h t).2
 ·rintro ⟨hl, h1, h2, h3, h4, h5⟩
  refine ⟨hl, fun i hi => ⟨h1 i (by omega), ?_⟩⟩
  simp only [fitsP, Bool.and_eq_true, decide_eq_true_eq, Bool.not_eq_true', decide_eq_false_iff_not, List.all_eq_true, List.mem_range, List.length_take, show min i l.length = i by omega, pairO, betL_iff]
  refine ⟨h5 i (by omega), (not_mem_take hi).2 fun k hk e => ?_, h3 i (by omega), fun t => h4 t i i (by omega) (by omega), fun k hk => ?_⟩
  ·have := h2 k i (by omega) (by omega) e
   omega
  ·rw [gt_take' hk (by omega)]
   exact ⟨fun t => h4 t i k (by omega) (by omega), fun t => h4 t k i (by omega) (by omega)⟩
end
section
theorem colL_sig {s : List (List Int)} {i j : Nat} (hi : i < s.length) (hj : j < s.length) (h : gt (colL s) (i : Int) = gt (colL s) (j : Int)) : gt s (i : Int) = gt s (j : Int) := by
 rw [colL_gt hi, colL_gt hj] at h
 exact below_inj (dstL_mem.2 (gt_mem (by omega) (by omega))) (dstL_mem.2 (gt_mem (by omega) (by omega))) (by omega)
theorem stb_sig {g : G} : ∀ (k : Nat) {s : List (List Int)} {i j : Nat}, s.length = g.n.length → i < g.n.length → j < g.n.length → gt (stb g k s) (i : Int) = gt (stb g k s) (j : Int) → gt s (i : Int) = gt s (j : Int)
 | 0, s, i, j, hs, hi, hj, h => colL_sig (by omega) (by omega) h
 | k + 1, s, i, j, hs, hi, hj, h => by
  rw [stb] at h
  split at h
  ·exact colL_sig (by omega) (by omega) h
  ·have := stb_sig k (nextL_length g _) hi hj h
   rw [nextL_gt hi, nextL_gt hj] at this
   simp only [sgnO, List.cons.injEq] at this
   exact colL_sig (by omega) (by omega) this.1
theorem stabL_ty {g : G} {i j : Nat} (hi : i < g.n.length) (hj : j < g.n.length) (h : gt (stabL g) (i : Int) = gt (stabL g) (j : Int)) : gt g.n (i : Int) = gt g.n (j : Int) := by
 have := stb_sig _ (frstL_length g) hi hj h
 rw [gt_nat (by rw [frstL_length]; omega), gt_nat (by rw [frstL_length]; omega)] at this
 simp only [frstL, List.getElem_map, List.cons.injEq, and_true] at this
 rw [gt_nat hi, gt_nat hj, this]
theorem Car.perm {a b : G} {l : List Int} {x y : List (List Int)} (h : Car a l x y) (hl : NIso a b l) (hn : a.n.length = b.n.length) (hx : x.length = a.n.length) (hy : y.length = b.n.length) : x.Perm y := by
 have e1 : x = l.map fun i => gt y i := by
  refine List.ext_getElem (by rw [List.length_map, hl.len, hx]) fun i h1 h2 => ?_
  have := h i (by omega)
  rw [gt_nat h1, gt_nat (l := l) (by rw [hl.len]; omega)] at this
  rw [List.getElem_map]
  exact this
 have e2 : y = ((List.range b.n.length).map fun i : Nat => (i : Int)).map fun i => gt y i := by
  refine List.ext_getElem (by simp [hy]) fun i h1 h2 => ?_
  simp only [List.getElem_map, List.getElem_range]
  exact (gt_nat h1).symm
 have hp := perm_sub (A := l) (B := (List.range b.n.length).map fun i : Nat => (i : Int)) hl.nd (fun v hv => by
  obtain ⟨i, hi, rfl⟩ := List.mem_iff_getElem.1 hv
  have hle := hl.len
  have := hl.rng i (by omega)
  rw [gt_nat hi] at this
  obtain ⟨n, hn⟩ := Int.eq_ofNat_of_zero_le this.1
  exact List.mem_map.2 ⟨n, List.mem_range.2 (by omega), hn.symm⟩) (by have := hl.len; simp; omega)
 have h3 := hp.map fun i => gt y i
 rw [← e1, ← e2] at h3
 exact h3
theorem colL_app (x y : List (List Int)) : colL (x ++ y) = colA x (dstL (x ++ y)) ++ colA y (dstL (x ++ y)) := by simp [colL, colA]
theorem colA_gt {x S : List (List Int)} {i : Int} (h0 : 0 ≤ i) (h : i < x.length) : gt (colA x S) i = (below S (gt x i) : Int) := by
 rw [colA, gt_map_c h0 h]
theorem stb_join {a b : G} {l : List Int} (hl : NIso a b l) (va : InG a) (vb : InG b) (hn : a.n.length = b.n.length) : ∀ (k : Nat) {x y : List (List Int)}, Car a l x y → x.length = a.n.length → y.length = b.n.length → ∀ i : Nat, i < a.n.length →
  gt (stb (join2 a b) k (x ++ y)) (i : Int) = gt (stb (join2 a b) k (x ++ y)) (a.n.length + gt l (i : Int))
 | k, x, y, h, hx, hy, i, hi => by
  have base : gt (colL (x ++ y)) (i : Int) = gt (colL (x ++ y)) (a.n.length + gt l (i : Int)) := by
   have hr := hl.rng i hi
   rw [colL_app, gt_app_l (by omega) (by rw [colA_length]; omega), colA_gt (by omega) (by omega)]
   have e : (a.n.length : Int) + gt l (i : Int) = gt l (i : Int) + (colA x (dstL (x ++ y))).length := by rw [colA_length]; omega
   rw [e, gt_app_r hr.1 (by rw [colA_length]; omega), colA_gt hr.1 (by omega), h i hi]
  cases k with
  | zero => exact base
  | succ k =>
   rw [stb]
   split
   ·exact base
   ·rw [colL_app, nextL_join va vb (by rw [colA_length, hx]) (by rw [colA_length, hy])]
    exact stb_join hl va vb hn k (h.next hl va vb hn hx hy _) (nextL_length _ _) (nextL_length _ _) i hi
theorem NIso.col {a b : G} {l : List Int} (h : NIso a b l) (va : InG a) (vb : InG b) (hn : a.n.length = b.n.length) {i : Nat} (hi : i < a.n.length) : gt (colJ a b) (i : Int) = gt (colJ a b) (a.n.length + gt l (i : Int)) := by
 rw [colJ, stabL, joinG_two]
 have e : frstL (join2 a b) = frstL a ++ frstL b := by simp [frstL, join2]
 rw [e]
 exact stb_join h va vb hn _ (Car.first h) (frstL_length a) (frstL_length b) i hi
theorem dstL_congr {x y : List (List Int)} (h : ∀ z, z ∈ x ↔ z ∈ y) : dstL x = dstL y := dstL_one (dstL_strict x) fun z => by rw [dstL_mem, h]
theorem stb_iso {a b : G} {l : List Int} (hl : NIso a b l) (va : InG a) (vb : InG b) (hn : a.n.length = b.n.length) : ∀ (k : Nat) {x y : List (List Int)}, Car a l x y → x.length = a.n.length → y.length = b.n.length → ∀ i : Nat, i < a.n.length →
  gt (stb a k x) (i : Int) = gt (stb b k y) (gt l (i : Int))
 | k, x, y, h, hx, hy, i, hi => by
  have hd : dstL x = dstL y := dstL_congr (h.mem hl hn hx hy)
  have base : gt (colL x) (i : Int) = gt (colL y) (gt l (i : Int)) := by
   have hr := hl.rng i hi
   rw [show colL x = colA x (dstL x) from rfl, show colL y = colA y (dstL y) from rfl, colA_gt (by omega) (by omega), colA_gt hr.1 (by omega), h i hi, hd]
  cases k with
  | zero => exact base
  | succ k =>
   have hc : Car a l (nextL a (colL x)) (nextL b (colL y)) := by
    have := h.next hl va vb hn hx hy (dstL x)
    rw [show colL x = colA x (dstL x) from rfl, show colL y = colA y (dstL y) from rfl, ← hd]
    exact this
   have hn1 : ndL x = ndL y := by unfold ndL; rw [hd]
   have hn2 : ndL (nextL a (colL x)) = ndL (nextL b (colL y)) := by
    unfold ndL
    rw [dstL_congr (hc.mem hl hn (nextL_length _ _) (nextL_length _ _))]
   rw [stb, stb, hn1, hn2]
   split
   ·exact base
   ·exact stb_iso hl va vb hn k hc (nextL_length _ _) (nextL_length _ _) i hi
theorem NIso.stab {a b : G} {l : List Int} (h : NIso a b l) (va : InG a) (vb : InG b) (hn : a.n.length = b.n.length) {i : Nat} (hi : i < a.n.length) : gt (stabL a) (i : Int) = gt (stabL b) (gt l (i : Int)) := by
 rw [stabL, stabL, hn]
 exact stb_iso h va vb hn _ (Car.first h) (frstL_length a) (frstL_length b) i hi
theorem mem_fullP' {a b : G} {l : List Int} {al : Int → Int → Bool} (va : InG a) (vb : InG b) (hn : a.n.length = b.n.length) : l ∈ fullN b.n.length (fun ns n => al ns.length n && fitsP a b (colJ a b) ns n) a.n.length [] ↔
  NIso a b l ∧ ∀ i : Nat, i < a.n.length → al i (gt l (i : Int)) = true := by
 rw [mem_fullP]
 constructor
 ·rintro ⟨h1, h2, h3, h4, h5, h6⟩
  refine ⟨⟨h1, h2, h3, fun i hi => ?_, h5⟩, h6⟩
  have h := h4 i hi
  have hr := h2 i hi
  obtain ⟨j, hj⟩ := Int.eq_ofNat_of_zero_le hr.1
  rw [hj] at h hr ⊢
  have hJ : (joinG [a, b]).n = a.n ++ b.n := by rw [joinG_two]; rfl
  have h7 := stabL_ty (g := joinG [a, b]) (i := i) (j := a.n.length + j) (by rw [hJ]; simp; omega) (by rw [hJ]; simp; omega) (by
   rw [show ((a.n.length + j : Nat) : Int) = a.n.length + j by omega]; exact h)
  rw [hJ, gt_app_l (by omega) (by omega), show ((a.n.length + j : Nat) : Int) = (j : Int) + a.n.length by omega, gt_app_r (by omega) (by omega)] at h7
  exact h7
 ·rintro ⟨h, h6⟩
  exact ⟨h.len, h.rng, h.inj, fun i hi => h.col va vb hn hi, h.num, h6⟩
theorem fullP_R {a b : G} (va : InG a) (vb : InG b) (hn : a.n.length = b.n.length) : fullN b.n.length (fun ns n => (fun _ _ => true : Int → Int → Bool) ns.length n && fitsP a b (colJ a b) ns n) a.n.length [] = fullN b.n.length (fitsR a b) a.n.length [] :=
 fullN_eq fun l => by rw [mem_fullP' (al := fun _ _ => true) va vb hn, mem_fullR]; simp
theorem isoN_isos {a b : G} (va : InG a) (vb : InG b) (hn : a.n.length = b.n.length) {m : Int} (hm : 0 ≤ m) : isoN a b m (fun _ _ => true) = (isos a b).take (m.toNat + 1) := by
 rw [isoN_take _ _ _ hm, fullP_R va vb hn, isos]
end
section
theorem mem_imE {a b : G} {ns es : List Int} : es ∈ imE a b ns ↔ es.length = a.e.length ∧ (∀ i : Nat, i < a.e.length → 0 ≤ gt es (i : Int) ∧ gt es (i : Int) < b.e.length) ∧ (∀ i k : Nat, i < a.e.length → k < a.e.length → gt es (i : Int) = gt es (k : Int) → i = k) ∧
  ∀ i : Nat, i < a.e.length → gt b.e (gt es (i : Int)) = mapE ns (gt a.e (i : Int)) := by
 rw [imE, mem_fullN]
 simp only [List.length_nil, Nat.zero_add, List.take_zero, true_and, Nat.zero_le, forall_const]
 constructor
 ·rintro ⟨h1, h2⟩
  have h3 : ∀ i : Nat, i < a.e.length → gt b.e (gt es (i : Int)) = mapE ns (gt a.e (i : Int)) ∧ ∀ k : Nat, k < i → gt es (k : Int) ≠ gt es (i : Int) := fun i hi => by
   obtain ⟨⟨h4, h5⟩, h6⟩ := h2 i (by omega)
   have e : ((gt es (i : Int)).toNat : Int) = gt es (i : Int) := Int.toNat_of_nonneg h4
   rw [wnt_iff, e, List.length_take, show min i es.length = i by omega] at h6
   exact ⟨h6.1, (not_mem_take (by omega)).1 h6.2⟩
  refine ⟨h1, fun i hi => (h2 i (by omega)).1, fun i k hi hk e => ?_, fun i hi => (h3 i hi).1⟩
  rcases Nat.lt_trichotomy i k with h | h | h
  ·exact absurd e ((h3 k hk).2 i h)
  ·exact h
  ·exact absurd e.symm ((h3 i hi).2 k h)
 ·rintro ⟨h1, h2, h3, h4⟩
  refine ⟨h1, fun i hi => ⟨h2 i (by omega), ?_⟩⟩
  have h5 := h2 i (by omega)
  have e : ((gt es (i : Int)).toNat : Int) = gt es (i : Int) := Int.toNat_of_nonneg h5.1
  rw [wnt_iff, e, List.length_take, show min i es.length = i by omega]
  refine ⟨h4 i (by omega), (not_mem_take hi).2 fun k hk e => ?_⟩
  have := h3 k i (by omega) (by omega) e
  omega
theorem cov_full {l : List Int} {n : Nat} (h1 : l.length = n) (h2 : ∀ i : Nat, i < n → 0 ≤ gt l (i : Int) ∧ gt l (i : Int) < n) (h3 : ∀ i k : Nat, i < n → k < n → gt l (i : Int) = gt l (k : Int) → i = k) : l.Nodup ∧ covers l n = true := by
 have hnd : l.Nodup := by
  rw [List.nodup_iff_pairwise_ne, List.pairwise_iff_getElem]
  intro i j hi hj hij e
  have := h3 i j (by omega) (by omega) (by rw [gt_nat hi, gt_nat hj]; exact e)
  omega
 refine ⟨hnd, ?_⟩
 have hp := perm_sub (A := l) (B := (List.range n).map fun i : Nat => (i : Int)) hnd (fun x hx => by
  obtain ⟨i, hi, rfl⟩ := List.mem_iff_getElem.1 hx
  have := h2 i (by omega)
  rw [gt_nat hi] at this
  obtain ⟨k, hk⟩ := Int.eq_ofNat_of_zero_le this.1
  exact List.mem_map.2 ⟨k, List.mem_range.2 (by omega), hk.symm⟩) (by simp; omega)
 rw [covers, List.all_eq_true]
 intro k hk
 refine decide_eq_true (hp.mem_iff.2 (List.mem_map.2 ⟨k, hk, rfl⟩))
theorem isos_ok {a b : G} {m : Mo} (va : validG a = 0) (vb : validG b = 0) (hs : shpB a b = true) (h : m ∈ isos a b) : MOk a b m ∧ injM a b m = true ∧ surM a b m = true := by
 obtain ⟨h1, h2⟩ := mem_isos.1 h
 obtain ⟨e1, e2, e3, e4⟩ := mem_imE.1 h2
 simp only [shpB, Bool.and_eq_true, decide_eq_true_eq] at hs
 have hm : MOk a b m := ⟨va, vb, h1.len, e1, fun i hi => ⟨h1.rng i hi, (h1.ty i hi).symm⟩, fun i hi => ⟨e2 i hi, by
  rw [e4 i hi]
  exact ⟨rfl, rfl, rfl⟩⟩⟩
 have hv := mok.2 hm
 have k1 := cov_full (l := m.n) (n := b.n.length) (by rw [h1.len]; exact hs.1) (fun i hi => h1.rng i (by omega)) fun i k hi hk => h1.inj i k (by omega) (by omega)
 have k2 := cov_full (l := m.e) (n := b.e.length) (by rw [e1]; exact hs.2) (fun i hi => e2 i (by omega)) fun i k hi hk => e3 i k (by omega) (by omega)
 refine ⟨hm, ?_, ?_⟩
 ·rw [injM, decide_eq_true hv, distinct, distinct, decide_eq_true k1.1, decide_eq_true k2.1]
  rfl
 ·rw [surM, decide_eq_true hv, k1.2, k2.2]
  rfl
end
end Go.Am
