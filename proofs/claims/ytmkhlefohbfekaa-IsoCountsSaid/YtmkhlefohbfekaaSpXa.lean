/- The graph package and its reference: parts. -/
import Derived.Test.YtmkhlefohbfekaaSpPa
import Derived.Test.YtmkhlefohbfekaaSpPb
import Derived.Test.YtmkhlefohbfekaaSpPc
import Derived.Test.YtmkhlefohbfekaaAmZc
namespace Go.Am
open Go
set_option linter.unusedVariables false
set_option linter.unusedSimpArgs false
@[go_sem] def c_r05_Numbers_r0 : LL := [qn 4 1]
@[go_sem] def c_r05_Numbers_r1 : LL := [qn 5 1]
@[go_sem] def c_r05_Numbers_r2 : LL := [qi 6 0]
@[go_sem] def c_r05_Numbers_r3 : LL := [qm 7 6,qm 8 1,qo .lss 9 7 8]
@[go_sem] def c_r05_Numbers_r4 : LL := [qm 12 5,qm 13 0,qm 14 6,qo .add 15 13 14,⟨some 16,.buildSl 1 8 (.int .i64 (0)) 1 [(0,.t 15)],none⟩,qp 17 1 8 12 16,qm 5 17]
@[go_sem] def c_r05_Numbers_r5 : LL := [qm 10 6,qk .add 11 10 1,qm 6 11]
def c_r05_Numbers_b6 : LC := (.seq (.seq (.reg c_r05_Numbers_r3 [0,1,5,6,9]) (.cond (.t 9) .skip (.exit 0))) (.seq (.block 1 (.reg c_r05_Numbers_r4 [0,1,5,6])) (.reg c_r05_Numbers_r5 [0,1,5,6])))
@[go_sem] def c_r05_Numbers_r7 : LL := [qm 18 5,qm 4 18]
@[go_sem] def c_r05_Numbers (F : Fn) : LC := (.seq (.reg c_r05_Numbers_r0 [0,1]) (.seq (.reg c_r05_Numbers_r1 [0,1,5]) (.seq (.seq (.reg c_r05_Numbers_r2 [0,1,5,6]) (.block 0 (.loop [0,1,5,6] c_r05_Numbers_b6))) (.seq (.reg c_r05_Numbers_r7 [4]) .ret))))
def h_r05_Numbers : Hints := hOf [] (c_r05_Numbers fun _ => 0)
def mA (m : Mo) : D := .agg [.arr 1 (ints m.n), .arr 1 (ints m.e)]
section
variable (P : Program) (F : String → Nat)
def K_r05_Numbers : Prop := ∀ (f : Int) (n : Nat), 0 ≤ f → f ≤ 1000000 → n ≤ 1000000 → FC P (F "r05.Numbers") [.int .i64 f, .int .i64 n] (.arr 1 (ints (nums f n))) []
end
section
variable {P : Program} {F : String → Nat} {α : Type}
theorem w_r05_Numbers (f : Int) (n : Nat) (h0 : 0 ≤ f) (h1 : f ≤ 1000000) (h2 : n ≤ 1000000) : W P (c_r05_Numbers F) (Done [.t 4] [] (.arr 1 (ints (nums f n))) []) (init [.int .i64 f, .int .i64 n]) := by
 refine W_of ?_
 simp (disch := omega) only [go_sem, ↓reduceIte]
 refine W_loop (fun i : Nat => ⟨[(0, .int .i64 f), (1, .int .i64 n), (5, .sl 0 0 i), (6, .int .i64 i)], [(0, .arr 1 (ints (nums f i)))], 1⟩) (fun i => i ≤ n) (fun i => n - i) 0 ?_ ?_ ?_
 ·simp (disch := omega) only [go_sem, ↓reduceIte, nums_zero, ints_nil]
  rfl
 ·omega
 ·intro i hi
  have e1 := nums_len f i
  simp (disch := omega) only [go_sem, ↓reduceIte, c_r05_Numbers_b6]
  refine bran_dec (fun a => ?_) (fun a => ?_)
  ·simp (disch := omega) only [go_sem, ↓reduceIte, e1]
   exact ⟨i + 1, by simp [nums_succ], by omega, by omega⟩
  ·obtain rfl : i = n := by omega
   simp (disch := omega) only [go_sem, ↓reduceIte, e1]
end
@[go_sem] def c_r05_Made_r0 : LL := [qB 1 0,qa 2 [.nl 1,.nl 3]]
@[go_sem] def c_r05_Made_r1 : LL := [qa 3 [.nl 1,.nl 3]]
@[go_sem] def c_r05_Made_r2 : LL := [qi 4 0]
@[go_sem] def c_r05_Made_r3 : LL := [qm 7 4,qf 8 0 1,ql 9 1 8,qz 10 9,qo .lss 11 7 10,qm 12 11,qg 12 true (qm 13 4),qg 12 true (qk .lss 14 13 8),qP 15 12 14]
@[go_sem] def c_r05_Made_r4 : LL := [qf 18 0 3,ql 19 1 18,qf 20 0 1,ql 21 1 20,qm 22 4,qd 23 1 21 22,ql 24 1 23,⟨some 25,.bin .rem (.t 24) (.k (.int .u8 (3))),none⟩,⟨some 26,.conv .i64 (.t 25),none⟩,
 ⟨some 27,.buildSl 1 8 (.int .i64 (0)) 1 [(0,.t 26)],none⟩,qp 28 1 8 19 27,qf 29 0 3,qs 1 29 28]
@[go_sem] def c_r05_Made_r5 : LL := [qm 16 4,qk .add 17 16 1,qm 4 17]
def c_r05_Made_b6 : LC := (.seq (.seq (.reg c_r05_Made_r3 [1,2,3,4,15]) (.cond (.t 15) .skip (.exit 0))) (.seq (.block 1 (.dreg [(1,none,[],true),(9,none,[1],false)] c_r05_Made_r4 [1,2,3,4])) (.reg c_r05_Made_r5 [1,2,3,4])))
@[go_sem] def c_r05_Made_r7 : LL := [qf 30 0 3,ql 31 1 30,qz 32 31,qm 5 32]
@[go_sem] def c_r05_Made_r8 : LL := [qi 6 0]
@[go_sem] def c_r05_Made_r9 : LL := [qm 33 6,qf 34 1 1,ql 35 1 34,qz 36 35,qo .lss 37 33 36,qm 38 37,qg 38 true (qm 39 6),qg 38 true (qk .lss 40 39 10),qP 41 38 40,qm 42 41,qg 42 true (qm 43 5),
 qg 42 true (qk .gtr 44 43 0),qP 45 42 44]
@[go_sem] def c_r05_Made_r10 : LL := [qf 48 1 3,ql 49 1 48,qf 50 1 1,ql 51 1 50,qm 52 6,qd 53 3 51 52,⟨some 54,.iaa 3 1 (.t 53) (.k (.int .i64 (0))),none⟩,ql 55 1 54,
 ⟨some 56,.bin .rem (.t 55) (.k (.int .u8 (2))),none⟩,⟨some 57,.conv .i64 (.t 56),none⟩,qf 58 1 1,ql 59 1 58,qm 60 6,qd 61 3 59 60,
 ⟨some 62,.iaa 3 1 (.t 61) (.k (.int .i64 (1))),none⟩,ql 63 1 62,⟨some 64,.conv .i64 (.t 63),none⟩,qm 65 5,qo .rem 66 64 65,qf 67 1 1,ql 68 1 67,qm 69 6,qd 70 3 68 69,
 ⟨some 71,.iaa 3 1 (.t 70) (.k (.int .i64 (2))),none⟩,ql 72 1 71,⟨some 73,.conv .i64 (.t 72),none⟩,qm 74 5,qo .rem 75 73 74,
 qu 76 [.int .i64 (0),.int .i64 (0),.int .i64 (0)] [(0,1,.t 57),(1,1,.t 66),(2,1,.t 75)],
 ⟨some 77,.buildSl 3 24 (.agg [.int .i64 (0),.int .i64 (0),.int .i64 (0)]) 1 [(0,.t 76)],none⟩,qp 78 3 24 49 77,qf 79 1 3,qs 1 79 78]
@[go_sem] def c_r05_Made_r11 : LL := [qm 46 6,qk .add 47 46 1,qm 6 47]
def c_r05_Made_b12 : LC := (.seq (.seq (.reg c_r05_Made_r9 [1,2,3,5,6,45]) (.cond (.t 45) .skip (.exit 2))) (.seq (.block 3 (.dreg [(1,none,[],true),(29,none,[1],false)] c_r05_Made_r10 [1,2,3,5,6])) (.reg c_r05_Made_r11 [1,2,3,5,6])))
@[go_sem] def c_r05_Made_r13 : LL := [qL 80 2 3,qs 2 2 80]
@[go_sem] def c_r05_Made (F : Fn) : LC := (.seq (.reg c_r05_Made_r0 [1,2]) (.seq (.reg c_r05_Made_r1 [1,2,3]) (.seq (.seq (.reg c_r05_Made_r2 [1,2,3,4]) (.block 0 (.loop [1,2,3,4] c_r05_Made_b6))) (.seq (.reg c_r05_Made_r7 [1,2,3,5]) (.seq (.seq (.reg c_r05_Made_r8 [1,2,3,5,6]) (.block 2 (.loop [1,2,3,5,6] c_r05_Made_b12))) (.seq (.reg c_r05_Made_r13 [2]) .ret))))))
def h_r05_Made : Hints := hOf [] (c_r05_Made fun _ => 0)
def drD (x : Dr) : D := .agg [.lst 1 (u8s x.n), .lst 3 (trs x.e)]
def madeN (x : Dr) : List Int := (x.n.take 8).map fun v => v.tmod 3
def madeE (x : Dr) (m : Int) (t : E) : E := ⟨t.t.tmod 2, t.f.tmod m, t.o.tmod m⟩
def madeG (x : Dr) : G := ⟨madeN x, if (madeN x).length = 0 then [] else (x.e.take 10).map (madeE x (madeN x).length)⟩
section
variable (P : Program) (F : String → Nat)
def K_r05_Made : Prop := ∀ x : Dr, x.ok → x.n.length ≤ maxL → x.e.length ≤ maxL → FC P (F "r05.Made") [drD x] (gA (madeG x)) []
end
def shU8 : Sh := .int .u8
def shU8s : Sh := .slc 1 1 shU8
def shTr : Sh := .cat [shU8, shU8, shU8]
def shDr : Sh := .cat [shU8s, .slc 3 3 shTr]
theorem rd_u8 {x : D} (h : HasEl shU8 x) : ∃ n : Int, x = .int .u8 n ∧ Byte n := by
 simp only [shU8, HasEl] at h
 obtain ⟨n, rfl, h1, h2⟩ := h
 exact ⟨n, rfl, h1, h2⟩
theorem rd_u8l : ∀ {xs : List D}, (∀ y ∈ xs, HasEl shU8 y) → ∃ l : List Int, xs = u8s l ∧ ∀ v ∈ l, Byte v
 | [], _ => ⟨[], rfl, by simp⟩
 | x :: xs, h => by
  obtain ⟨l, rfl, hl⟩ := rd_u8l (xs := xs) fun y hy => h y (by simp [hy])
  obtain ⟨n, rfl, hn⟩ := rd_u8 (h x (by simp))
  exact ⟨n :: l, rfl, by simpa [hn] using hl⟩
theorem rd_u8s {x : D} (h : HasEl shU8s x) : ∃ l : List Int, x = .lst 1 (u8s l) ∧ (∀ v ∈ l, Byte v) ∧ l.length ≤ maxL := by
 simp only [shU8s, HasEl] at h
 obtain ⟨xs, rfl, h1, h2⟩ := h
 obtain ⟨l, rfl, hl⟩ := rd_u8l h2
 refine ⟨l, rfl, hl, ?_⟩
 rw [u8s_length] at h1
 unfold reachBytes at h1
 unfold maxL
 omega
theorem rd_tr {x : D} (h : HasEl shTr x) : ∃ e : E, x = .agg [.int .u8 e.t, .int .u8 e.f, .int .u8 e.o] ∧ Byte e.t ∧ Byte e.f ∧ Byte e.o := by
 simp only [shTr, HasEl] at h
 obtain ⟨ds, rfl, h⟩ := h
 simp only [shU8, HasShs, HasEl] at h
 obtain ⟨_, _, rfl, ⟨a, rfl, a1, a2⟩, _, _, rfl, ⟨b, rfl, b1, b2⟩, _, _, rfl, ⟨c, rfl, c1, c2⟩, rfl⟩ := h
 exact ⟨⟨a, b, c⟩, rfl, ⟨a1, a2⟩, ⟨b1, b2⟩, ⟨c1, c2⟩⟩
theorem rd_trl : ∀ {xs : List D}, (∀ y ∈ xs, HasEl shTr y) → ∃ l : List E, xs = trs l ∧ ∀ v ∈ l, Byte v.t ∧ Byte v.f ∧ Byte v.o
 | [], _ => ⟨[], rfl, by simp⟩
 | x :: xs, h => by
  obtain ⟨l, rfl, hl⟩ := rd_trl (xs := xs) fun y hy => h y (by simp [hy])
  obtain ⟨n, rfl, hn⟩ := rd_tr (h x (by simp))
  refine ⟨n :: l, rfl, fun v hv => ?_⟩
  simp only [List.mem_cons] at hv
  rcases hv with rfl | hv
  ·exact hn
  ·exact hl v hv
theorem rd_draft {x : D} (h : HasEl shDr x) : ∃ g : Dr, x = drD g ∧ g.ok ∧ g.n.length ≤ maxL ∧ g.e.length ≤ maxL := by
 simp only [shDr, HasEl] at h
 obtain ⟨ds, rfl, h⟩ := h
 have h' : ∃ a b, ds = a :: b ∧ HasEl shU8s a ∧ HasShs [.slc 3 3 shTr] b := by simpa only [shU8s, HasShs] using h
 obtain ⟨a, _, rfl, h1, h'⟩ := h'
 obtain ⟨l, rfl, hl, hl2⟩ := rd_u8s h1
 simp only [HasShs, HasEl] at h'
 obtain ⟨_, _, rfl, ⟨xs, rfl, hb, h3⟩, rfl⟩ := h'
 obtain ⟨es, rfl, he⟩ := rd_trl h3
 refine ⟨⟨l, es⟩, rfl, ⟨hl, he⟩, hl2, ?_⟩
 rw [trs_length] at hb
 unfold reachBytes at hb
 simp only [maxL]
 omega
section
variable {P : Program} {F : String → Nat} {α : Type}
theorem tmod_bd {x m : Int} (hx : 0 ≤ x) (hm : 0 < m) : 0 ≤ x.tmod m ∧ x.tmod m < m := ⟨Int.tmod_nonneg _ hx, Int.tmod_lt_of_pos _ hm⟩
theorem w_r05_Made (x : Dr) (hx : x.ok) (h1 : x.n.length ≤ maxL) (h2 : x.e.length ≤ maxL) : W P (c_r05_Made F) (Done [.c 2 true 2] [] (gA (madeG x)) []) (init [drD x]) := by
 refine W_of ?_
 obtain ⟨xn, xe⟩ := x
 obtain ⟨o1, o2⟩ := hx
 simp only at h1 h2 o1 o2
 unfold maxL at h1 h2
 simp (disch := omega) only [go_sem, ↓reduceIte, drD]
 have ml : ∀ i, ((xn.take i).map fun v => v.tmod 3).length = min i xn.length := fun i => by simp
 refine W_loop (fun i : Nat => ⟨[(1, D.pt 0 0), (2, D.pt 3 0), (3, D.pt 6 0), (4, D.int IntKind.i64 i)],
   [(0, Ent.box [D.lst 1 (u8s xn), D.lst 3 (trs xe)]), (1, Ent.arr 1 []), (2, Ent.arr 3 []), (3, Ent.box [D.sl 1 0 0, D.sl 2 0 0]), (4, Ent.arr 1 (ints ((xn.take i).map fun v => v.tmod 3))), (5, Ent.arr 3 []),
    (6, Ent.box [D.sl 4 0 i, D.sl 5 0 0])], 7⟩) (fun i => i ≤ xn.length ∧ i ≤ 8) (fun i => 8 - i) 0 ?_ ?_ ?_
 ·simp (disch := omega) only [go_sem, ↓reduceIte]
  rfl
 ·simp
 ·rintro i ⟨hi, hi8⟩
  have hml : ((xn.take i).map fun v => v.tmod 3).length = i := by rw [ml]; omega
  simp (disch := omega) only [go_sem, ↓reduceIte, c_r05_Made_b6]
  refine bran_dec ?ga ?gb
  case' ga =>
   intro c
   simp (disch := omega) only [go_sem, ↓reduceIte, c]
   refine bran_dec ?gc ?gd
   case' gc =>
    intro c2
    have ho := o1 _ (gt_mem (l := xn) (j := i) (by omega) (by omega))
    have hb := tmod_bd (m := 3) ho.1 (by omega)
    have hz : ¬ ((3 : Int) = 0) := by omega
    simp (disch := omega) only [go_sem, ↓reduceIte, hml, hz]
    exact ⟨i + 1, by rw [take_gt (by omega)]; simp, by omega, by omega⟩
   intro c2
   have h8 : i = 8 ∨ i = xn.length := by omega
   simp (disch := omega) only [go_sem, ↓reduceIte]
  case' gb =>
   intro c
   have h8 : i = 8 ∨ i = xn.length := by omega
   simp (disch := omega) only [go_sem, ↓reduceIte, c]
  all_goals
   have hmn : madeN ⟨xn, xe⟩ = (xn.take i).map fun v => v.tmod 3 := by
    simp only [madeN]
    rw [show xn.take 8 = xn.take i from List.take_eq_take_iff.2 (by omega)]
   have fin : ∀ j : Nat, (0 < i → j = 10 ∨ j = xe.length) → (i = 0 → j = 0) → j ≤ 10 → madeG ⟨xn, xe⟩ = ⟨(xn.take i).map fun v => v.tmod 3, (xe.take j).map (madeE ⟨xn, xe⟩ i)⟩ := fun j h1 h2 h3 => by
    simp only [madeG, hmn, hml]
    by_cases h0 : i = 0
    ·rw [if_pos h0, h2 h0]; simp
    ·rw [if_neg h0, show xe.take 10 = xe.take j from List.take_eq_take_iff.2 (by have := h1 (by omega); omega)]
   generalize hns : ((xn.take i).map fun v => v.tmod 3) = ns at hml fin
   clear hmn hns
   refine W_loop (fun j : Nat => ⟨[(1, D.pt 0 0), (2, D.pt 3 0), (3, D.pt 6 0), (5, D.int IntKind.i64 i), (6, D.int IntKind.i64 j)],
    [(0, Ent.box [D.lst 1 (u8s xn), D.lst 3 (trs xe)]), (1, Ent.arr 1 []), (2, Ent.arr 3 []), (3, Ent.box [D.sl 1 0 0, D.sl 2 0 0]), (4, Ent.arr 1 (ints ns)), (5, Ent.arr 3 (eds ((xe.take j).map (madeE ⟨xn, xe⟩ i)))),
     (6, Ent.box [D.sl 4 0 i, D.sl 5 0 j])], 7⟩) (fun j => j ≤ xe.length ∧ j ≤ 10 ∧ (i = 0 → j = 0)) (fun j => 10 - j) 0 ?_ ?_ ?_
   ·simp (disch := omega) only [go_sem, ↓reduceIte]
    rfl
   ·simp
   ·rintro j ⟨hj, hj10, hj0⟩
    have hel : ((xe.take j).map (madeE ⟨xn, xe⟩ i)).length = j := by simp; omega
    simp (disch := omega) only [go_sem, ↓reduceIte, c_r05_Made_b12]
    refine bran_dec (fun d => ?_) (fun d => ?_)
    ·simp (disch := omega) only [go_sem, ↓reduceIte, d]
     refine bran_dec (fun d2 => ?_) (fun d2 => ?_)
     ·simp (disch := omega) only [go_sem, ↓reduceIte, d2]
      refine bran_dec (fun d3 => ?_) (fun d3 => ?_)
      ·obtain ⟨ot, of, oo⟩ := o2 _ (gt_mem (l := xe) (j := j) (by omega) (by omega))
       have b1 := tmod_bd (x := (gt xe j).t) (m := 2) ot.1 (by omega)
       have b2 := tmod_bd (x := (gt xe j).f) (m := i) of.1 (by omega)
       have b3 := tmod_bd (x := (gt xe j).o) (m := i) oo.1 (by omega)
       have w1 : IntKind.i64.wrap (gt xe j).f = (gt xe j).f := wrap_i64 (by have := of.1; omega) (by have := of.2; omega)
       have w2 : IntKind.i64.wrap (gt xe j).o = (gt xe j).o := wrap_i64 (by have := oo.1; omega) (by have := oo.2; omega)
       have z1 : ¬ ((2 : Int) = 0) := by omega
       have z2 : ¬ ((i : Int) = 0) := by omega
       simp (disch := omega) only [go_sem, ↓reduceIte, hel, w1, w2, z1, z2, Int.reduceToNat]
       exact ⟨j + 1, by rw [take_gt (by omega)]; simp [madeE], by omega, by omega⟩
      ·simp (disch := omega) only [go_sem, ↓reduceIte, d3, hel, hml]
       rw [fin j (by omega) hj0 hj10]
       simp [gA]
     ·simp (disch := omega) only [go_sem, ↓reduceIte, d2, hel, hml]
      rw [fin j (by omega) hj0 hj10]
      simp [gA]
    ·simp (disch := omega) only [go_sem, ↓reduceIte, d, hel, hml]
     rw [fin j (by omega) hj0 hj10]
     simp [gA]
theorem madeN_len (x : Dr) : (madeN x).length ≤ 8 := by simp [madeN]; omega
theorem madeE_len (x : Dr) : (madeG x).e.length ≤ 10 := by
 simp only [madeG]
 split
 ·simp
 ·simp; omega
theorem madeG_valid {x : Dr} (hx : x.ok) : validG (madeG x) = 0 := by
 have h1 := madeN_len x
 have h2 := madeE_len x
 unfold validG
 rw [if_neg (show ¬ (40 < (madeG x).n.length ∨ 80 < (madeG x).e.length) by simp only [madeG] at h2 ⊢; omega), if_pos]
 simp only [Bool.and_eq_true, List.all_eq_true]
 refine ⟨fun v hv => ?_, fun v hv => ?_⟩
 ·simp only [madeG, madeN, List.mem_map] at hv
  obtain ⟨u, hu, rfl⟩ := hv
  have := hx.1 u (List.mem_of_mem_take hu)
  have := tmod_bd (x := u) (m := 3) this.1 (by omega)
  simp only [okN, decide_eq_true_eq]
  omega
 ·simp only [madeG] at hv
  split at hv
  ·simp at hv
  ·rename_i h0
   simp only [List.mem_map] at hv
   obtain ⟨u, hu, rfl⟩ := hv
   obtain ⟨o1, o2, o3⟩ := hx.2 u (List.mem_of_mem_take hu)
   have b1 := tmod_bd (x := u.t) (m := 2) o1.1 (by omega)
   have b2 := tmod_bd (x := u.f) (m := (madeN x).length) o2.1 (by omega)
   have b3 := tmod_bd (x := u.o) (m := (madeN x).length) o3.1 (by omega)
   exact fits_mk (by simp only [madeE]; omega) b2 b3
end
def thenM (m n : Mo) : Mo := ⟨thr m.n n.n, thr m.e n.e⟩
section
variable (P : Program) (F : String → Nat)
end
section
variable {P : Program} {F : String → Nat} {α : Type}
end
section
theorem gen_Fo {n : Nat} {l : List Pr} (hl : PrIn n l) : ∀ i : Nat, i ≤ l.length → ∃ p, Fo p (genI n l i) ∧ p.length = n
 | 0, _ => ⟨_, nums_Fo n, nums_len 0 n⟩
 | i + 1, hi => by
  obtain ⟨p, h1, h2⟩ := gen_Fo hl i (by omega)
  obtain ⟨⟨a1, a2⟩, b1, b2⟩ := hl i (by omega)
  obtain ⟨a, ha⟩ := natI a1
  obtain ⟨b, hb⟩ := natI b1
  rw [genI, ha, hb]
  exact ⟨_, h1.unite (a := a) (b := b) (by omega) (by omega), by rw [List.length_set, h2]⟩
theorem gen_idem {n : Nat} {l : List Pr} (hl : PrIn n l) {i : Nat} (hi : i ≤ l.length) : Idem (genI n l i) :=
 let ⟨_, h, _⟩ := gen_Fo hl i hi; h.idem
theorem merge_same {p : List Int} {a b : Int} {x y : Nat} (hx : x < p.length) (hy : y < p.length) (h : gt p x = gt p y) : gt (mergeL p a b) x = gt (mergeL p a b) y := by
 rw [mergeL_gt hx, mergeL_gt hy, h]
theorem merge_ab {p : List Int} {a b : Nat} (ha : a < p.length) (hb : b < p.length) : gt (mergeL p a b) a = gt (mergeL p a b) b := by
 rw [mergeL_gt ha, mergeL_gt hb]
 by_cases c : gt p a ≤ gt p b
 ·rw [Int.max_eq_right c, Int.min_eq_left c, if_pos rfl]
  split <;> rfl
 ·rw [Int.max_eq_left (by omega), Int.min_eq_right (by omega), if_pos rfl]
  split <;> rfl
theorem gen_pair {n : Nat} {l : List Pr} (hl : PrIn n l) : ∀ i : Nat, i ≤ l.length → ∀ k : Nat, k < i → gt (genI n l i) (gt l k).a = gt (genI n l i) (gt l k).b
 | 0, _, k, hk => by omega
 | i + 1, hi, k, hk => by
  have gl := gen_len (n := n) (l := l) i
  obtain ⟨⟨a1, a2⟩, b1, b2⟩ := hl k (by omega)
  rw [genI]
  by_cases c : k = i
  ·subst c
   obtain ⟨a, ha⟩ := natI a1
   obtain ⟨b, hb⟩ := natI b1
   rw [ha, hb]
   exact merge_ab (by omega) (by omega)
  ·have ih := gen_pair hl i (by omega) k (by omega)
   obtain ⟨a, ha⟩ := natI a1
   obtain ⟨b, hb⟩ := natI b1
   rw [ha, hb] at ih ⊢
   exact merge_same (by omega) (by omega) ih
theorem gen_fun {β : Type} {φ : Int → β} {n : Nat} {l : List Pr} (hl : PrIn n l) (hf : ∀ i : Nat, i < l.length → φ (gt l i).a = φ (gt l i).b) : ∀ i : Nat, i ≤ l.length → ∀ k : Nat, k < n → φ (gt (genI n l i) k) = φ k
 | 0, _, k, hk => by rw [genI, nums_gt hk]
 | i + 1, hi, k, hk => by
  have gl := gen_len (n := n) (l := l) i
  obtain ⟨⟨a1, a2⟩, b1, b2⟩ := hl i (by omega)
  have ih := gen_fun hl hf i (by omega)
  have he := hf i (by omega)
  obtain ⟨a, ha⟩ := natI a1
  obtain ⟨b, hb⟩ := natI b1
  rw [genI, ha, hb, mergeL_gt (by omega)]
  rw [ha, hb] at he
  have ea := ih a (by omega)
  have eb := ih b (by omega)
  have ek := ih k hk
  by_cases c : gt (genI n l i) a ≤ gt (genI n l i) b
  ·rw [Int.max_eq_right c, Int.min_eq_left c]
   split
   ·rename_i e
    rw [ea, he, ← eb, ← e, ek]
   ·exact ek
  ·rw [Int.max_eq_left (by omega), Int.min_eq_right (by omega)]
   split
   ·rename_i e
    rw [eb, ← he, ← ea, ← e, ek]
   ·exact ek
end
attribute [local irreducible] W
section
variable (P : Program) (F : String → Nat)
end
section
variable {α : Type}
theorem Cmp.self {c : α → α → Int} (hc : Cmp c) (a : α) : c a a = 0 := by have := hc.neg a a; omega
theorem strict_one {c : α → α → Int} (hc : Cmp c) {a b : List α} (h1 : a.Pairwise (fun x y => c x y < 0)) (h2 : b.Pairwise (fun x y => c x y < 0)) (h : ∀ x, x ∈ a ↔ x ∈ b) : a = b := by
 have nd : ∀ {l : List α}, l.Pairwise (fun x y => c x y < 0) → l.Nodup := fun {l} hl => hl.imp fun {x y} hxy e => by subst e; have := hc.self x; omega
 refine sorted_one hc (h1.imp fun h => by omega) (h2.imp fun h => by omega) ?_
 exact (List.perm_ext_iff_of_nodup (nd h1) (nd h2)).2 h
end
section
variable {P : Program} {F : String → Nat} {α : Type}
end
section
variable (P : Program) (F : String → Nat)
end
section
variable {α : Type}
theorem dstL_one {l S : List (List Int)} (h : S.Pairwise (fun a b => scmp a b < 0)) (hm : ∀ x, x ∈ S ↔ x ∈ l) : S = dstL l :=
 strict_one scmp_cmp h (dstL_strict l) fun x => by rw [hm, dstL_mem]
end
section
variable {P : Program} {F : String → Nat} {α : Type}
end
section
variable (P : Program) (F : String → Nat)
end
section
variable {α : Type}
theorem colA_length (l S : List (List Int)) : (colA l S).length = l.length := by simp [colA]
end
section
variable {P : Program} {F : String → Nat} {α : Type}
end
@[go_sem] def c_r05_Shuffle_r0 : LL := [qn 4 1]
@[go_sem] def c_r05_Shuffle_r1 (F : Fn) : LL := [qm 8 0,qc 9 (F "r05.Numbers") [.k (.int .i64 (0)),.t 8],qm 5 9]
@[go_sem] def c_r05_Shuffle_r2 : LL := [qi 6 0]
@[go_sem] def c_r05_Shuffle_r3 : LL := [qm 10 6,qm 11 0,qo .lss 12 10 11,qm 13 12,qg 13 true (qm 14 6),qg 13 true (qm 15 1),qg 13 true (qz 16 15),qg 13 true (qo .lss 17 14 16),qP 18 13 17]
@[go_sem] def c_r05_Shuffle_r4 : LL := [qm 21 6,qm 22 1,qm 23 6,qd 24 1 22 23,ql 25 1 24,⟨some 26,.conv .i64 (.t 25),none⟩,qm 27 0,qm 28 6,qo .sub 29 27 28,qo .rem 30 26 29,qo .add 31 21 30,qm 7 31]
@[go_sem] def c_r05_Shuffle_r5 : LL := [qm 32 5,qm 33 6,qm 34 5,qm 35 7,qm 36 5,qm 37 7,qd 38 1 36 37,ql 39 1 38,qm 40 5,qm 41 6,qd 42 1 40 41,ql 43 1 42,qd 44 1 32 33,qs 1 44 39,qd 45 1 34 35,qs 1 45 43]
@[go_sem] def c_r05_Shuffle_r6 : LL := [qm 19 6,qk .add 20 19 1,qm 6 20]
def c_r05_Shuffle_b7 : LC := (.seq (.seq (.reg c_r05_Shuffle_r3 [0,1,5,6,18]) (.cond (.t 18) .skip (.exit 0))) (.seq (.block 1 (.seq (.reg c_r05_Shuffle_r4 [0,1,5,6,7]) (.dreg [] c_r05_Shuffle_r5 [0,1,5,6]))) (.reg c_r05_Shuffle_r6 [0,1,5,6])))
@[go_sem] def c_r05_Shuffle_r8 : LL := [qm 46 5,qm 4 46]
@[go_sem] def c_r05_Shuffle (F : Fn) : LC := (.seq (.reg c_r05_Shuffle_r0 [0,1]) (.seq (.reg (c_r05_Shuffle_r1 F) [0,1,5]) (.seq (.seq (.reg c_r05_Shuffle_r2 [0,1,5,6]) (.block 0 (.loop [0,1,5,6] c_r05_Shuffle_b7))) (.seq (.reg c_r05_Shuffle_r8 [4]) .ret))))
def h_r05_Shuffle : Hints := hn [] [(0,[0,1]),(1,[0,1,5]),(2,[0,1,5,6]),(3,[0,1,5,6,18]),(4,[0,1,5,6]),(5,[0,1,5,6,7]),(6,[0,1,5,6]),(7,[4])] [(3,[0,1,5,6])]
def swapL (l : List Int) (i k : Nat) : List Int := (l.set i (gt l k)).set k (gt l i)
def shufK (n : Nat) (cs : List Int) (i : Nat) : Nat := i + ((gt cs i).tmod (n - i)).toNat
def shufL (n : Nat) (cs : List Int) : Nat → List Int
 | 0 => nums 0 n
 | i + 1 => swapL (shufL n cs i) i (shufK n cs i)
section
variable (P : Program) (F : String → Nat)
def K_r05_Shuffle : Prop := ∀ (n : Nat) (cs : List Int), n ≤ 1000000 → cs.length ≤ maxL → (∀ v ∈ cs, Byte v) → FC P (F "r05.Shuffle") [.int .i64 n, .lst 1 (u8s cs)] (.arr 1 (ints (shufL n cs (min n cs.length)))) []
end
section
variable {P : Program} {F : String → Nat} {α : Type}
theorem shufL_len (n : Nat) (cs : List Int) : ∀ i, (shufL n cs i).length = n
 | 0 => by simp [shufL, nums_len]
 | i + 1 => by simp [shufL, swapL, shufL_len n cs i]
theorem w_r05_Shuffle (hn : K_r05_Numbers P F) (n : Nat) (cs : List Int) (h1 : n ≤ 1000000) (h2 : cs.length ≤ maxL) (h3 : ∀ v ∈ cs, Byte v) : W P (c_r05_Shuffle F) (Done [.t 4] [] (.arr 1 (ints (shufL n cs (min n cs.length)))) []) (init [.int .i64 n, .lst 1 (u8s cs)]) := by
 refine W_of ?_
 unfold maxL at h2
 have hl := shufL_len n cs
 simp (disch := omega) only [go_sem, ↓reduceIte]
 refine call_by (hn _ _ (by omega) (by omega) (by omega)) ?_
 simp (disch := omega) only [go_sem, ↓reduceIte, nums_len]
 refine W_loop (fun i : Nat => ⟨[(0, D.int IntKind.i64 n), (1, D.lst 1 (u8s cs)), (5, D.sl 0 0 n), (6, D.int IntKind.i64 i)], [(0, Ent.arr 1 (ints (shufL n cs i)))], 1⟩) (fun i => i ≤ n ∧ i ≤ cs.length) (fun i => n - i) 0 ?_ ?_ ?_
 ·simp (disch := omega) only [go_sem, ↓reduceIte, nums_len]
  rfl
 ·simp
 ·rintro i ⟨hi, hi2⟩
  have hli := hl i
  simp (disch := omega) only [go_sem, ↓reduceIte, c_r05_Shuffle_b7]
  refine bran_dec (fun c => ?_) (fun c => ?_)
  ·simp (disch := omega) only [go_sem, ↓reduceIte, c]
   refine bran_dec (fun c2 => ?_) (fun c2 => ?_)
   ·have ho := h3 _ (gt_mem (l := cs) (j := i) (by omega) (by omega))
    have hb := tmod_bd (x := gt cs i) (m := (n : Int) - i) ho.1 (by omega)
    have hwr : IntKind.i64.wrap (gt cs i) = gt cs i := wrap_i64 (by have := ho.1; omega) (by have := ho.2; omega)
    have hz : ¬ ((n : Int) - i = 0) := by omega
    have hsh : (i : Int) + (gt cs i).tmod ((n : Int) - i) = ((shufK n cs i : Nat) : Int) := by unfold shufK; omega
    have hsk : shufK n cs i < n := by omega
    have hsl : ((shufL n cs i).set i (gt (shufL n cs i) (shufK n cs i : Int))).length = n := by rw [List.length_set, hli]
    simp (disch := omega) only [go_sem, ↓reduceIte, hli, hwr, hz, hsh]
    exact ⟨i + 1, by simp [shufL, swapL], by omega, by omega⟩
   ·simp (disch := omega) only [go_sem, ↓reduceIte]
    rw [show min n cs.length = i by omega]
  ·simp (disch := omega) only [go_sem, ↓reduceIte, c]
   rw [show min n cs.length = i by omega]
theorem shufK_lt {n : Nat} {cs : List Int} {i : Nat} (h1 : i < n) (h2 : i < cs.length) (h3 : ∀ v ∈ cs, Byte v) : shufK n cs i < n := by
 have ho := h3 _ (gt_mem (l := cs) (j := i) (by omega) (by omega))
 have hb := tmod_bd (x := gt cs i) (m := (n : Int) - i) ho.1 (by omega)
 unfold shufK
 omega
theorem shufL_perm {n : Nat} {cs : List Int} (h3 : ∀ v ∈ cs, Byte v) : ∀ i, i ≤ n → i ≤ cs.length → (shufL n cs i).Perm (nums 0 n)
 | 0, _, _ => List.Perm.refl _
 | i + 1, h1, h2 => by
  have hl := shufL_len n cs i
  have hk := shufK_lt (n := n) (cs := cs) (i := i) (by omega) (by omega) h3
  refine List.Perm.trans ?_ (shufL_perm h3 i (by omega) (by omega))
  simp only [shufL, swapL]
  rw [gt_nat (by omega), gt_nat (by omega)]
  exact List.set_set_perm (by omega) (by omega)
end
@[go_sem] def c_l08_other_r0 : LL := [qB 2 0,qa 4 [.nl 1,.nl 3],qa 5 [.nl 1,.nl 1]]
@[go_sem] def c_l08_other_r1 (F : Fn) : LL := [qf 14 0 2,ql 15 1 14,qz 16 15,qm 17 1,qc 18 (F "r05.Shuffle") [.t 16,.t 17],qm 6 18]
@[go_sem] def c_l08_other_r2 (F : Fn) : LL := [qf 19 1 2,ql 20 1 19,qz 21 20,qm 22 1,qc 23 (F "r05.Shuffle") [.t 21,.t 22],qm 7 23]
@[go_sem] def c_l08_other_r3 : LL := [qm 24 6,qz 25 24,⟨some 26,.makeSl 1 8 (.int .i64 (0)) (.t 25),none⟩,qm 27 7,qz 28 27,⟨some 29,.makeSl 3 24 (.agg [.int .i64 (0),.int .i64 (0),.int .i64 (0)]) (.t 28),none⟩,
 qu 30 [.nl 1,.nl 3] [(0,1,.t 26),(1,1,.t 29)],qa 8 [.nl 1,.nl 3],qs 2 8 30]
@[go_sem] def c_l08_other_r4 : LL := [qm 31 6,qz 32 31,qi 33 0]
@[go_sem] def c_l08_other_r5 : LL := [qo .lss 34 33 32]
@[go_sem] def c_l08_other_r6 : LL := [qm 35 33,qd 36 1 31 33,ql 37 1 36,qm 9 35,qm 10 37]
@[go_sem] def c_l08_other_r7 : LL := [qf 38 0 8,ql 39 1 38,qm 40 10,qf 41 0 2,ql 42 1 41,qm 43 9,qd 44 1 42 43,ql 45 1 44,qd 46 1 39 40,qs 1 46 45]
@[go_sem] def c_l08_other_r8 : LL := [qk .add 47 33 1,qm 33 47]
def c_l08_other_b9 : LC := (.seq (.reg c_l08_other_r5 [2,4,5,6,7,8,31,32,33,34]) (.seq (.cond (.t 34) .skip (.exit 0)) (.seq (.block 1 (.seq (.reg c_l08_other_r6 [2,4,5,6,7,8,9,10,31,32,33]) (.dreg [] c_l08_other_r7 [2,4,5,6,7,8,31,32,33]))) (.reg c_l08_other_r8 [2,4,5,6,7,8,31,32,33]))))
@[go_sem] def c_l08_other_r10 : LL := [qm 48 7,qz 49 48,qi 50 0]
@[go_sem] def c_l08_other_r11 : LL := [qo .lss 51 50 49]
@[go_sem] def c_l08_other_r12 : LL := [qm 52 50,qd 53 1 48 50,ql 54 1 53,qm 11 52,qm 12 54]
@[go_sem] def c_l08_other_r13 : LL := [qf 55 1 2,ql 56 1 55,qm 57 11,qd 58 3 56 57,qL 59 3 58,qa 13 [.int .i64 (0),.int .i64 (0),.int .i64 (0)],qs 3 13 59]
@[go_sem] def c_l08_other_r14 : LL := [qf 60 1 8,ql 61 1 60,qm 62 12,qf 63 0 13,ql 64 1 63,qm 65 6,qf 66 1 13,ql 67 1 66,qd 68 1 65 67,ql 69 1 68,qm 70 6,qf 71 2 13,ql 72 1 71,qd 73 1 70 72,ql 74 1 73,
 qu 75 [.int .i64 (0),.int .i64 (0),.int .i64 (0)] [(0,1,.t 64),(1,1,.t 69),(2,1,.t 74)],qd 76 3 61 62,qs 3 76 75]
@[go_sem] def c_l08_other_r15 : LL := [qk .add 77 50 1,qm 50 77]
def c_l08_other_b16 : LC := (.seq (.reg c_l08_other_r11 [2,4,5,6,7,8,48,49,50,51]) (.seq (.cond (.t 51) .skip (.exit 2)) (.seq (.block 3 (.seq (.reg c_l08_other_r12 [2,4,5,6,7,8,11,12,48,49,50]) (.seq (.reg c_l08_other_r13 [2,4,5,6,7,8,12,13,48,49,50]) (.dreg [] c_l08_other_r14 [2,4,5,6,7,8,48,49,50])))) (.reg c_l08_other_r15 [2,4,5,6,7,8,48,49,50]))))
@[go_sem] def c_l08_other_r17 : LL := [qL 78 2 8,qm 79 6,qm 80 7,qu 81 [.nl 1,.nl 1] [(0,1,.t 79),(1,1,.t 80)],qs 2 4 78,qs 2 5 81]
@[go_sem] def c_l08_other (F : Fn) : LC := (.seq (.reg c_l08_other_r0 [1,2,4,5]) (.seq (.reg (c_l08_other_r1 F) [1,2,4,5,6]) (.seq (.reg (c_l08_other_r2 F) [2,4,5,6,7]) (.seq (.dreg [] c_l08_other_r3 [2,4,5,6,7,8]) (.seq (.seq (.reg c_l08_other_r4 [2,4,5,6,7,8,31,32,33]) (.block 0 (.loop [2,4,5,6,7,8,31,32,33] c_l08_other_b9))) (.seq (.seq (.reg c_l08_other_r10 [2,4,5,6,7,8,48,49,50]) (.block 2 (.loop [2,4,5,6,7,8,48,49,50] c_l08_other_b16))) (.seq (.reg c_l08_other_r17 [4,5]) .ret)))))))
def h_l08_other : Hints := hOf [] (c_l08_other fun _ => 0)
def putO {α : Type} [Inhabited α] (p : List Int) (l : List α) : Nat → List α
 | 0 => List.replicate l.length default
 | k + 1 => (putO p l k).set (gt p k).toNat (gt l k)
def mapO (p : List Int) (x : E) : E := ⟨x.t, gt p x.f, gt p x.o⟩
def othG (g : G) (p q : List Int) : G := ⟨putO p g.n g.n.length, putO q (g.e.map (mapO p)) g.e.length⟩
def shfL (n : Nat) (cs : List Int) : List Int := shufL n cs (min n cs.length)
def othR (g : G) (cs : List Int) : G × Mo := (othG g (shfL g.n.length cs) (shfL g.e.length cs), ⟨shfL g.n.length cs, shfL g.e.length cs⟩)
section
variable (P : Program) (F : String → Nat)
def K_l08_other : Prop := ∀ (g : G) (cs : List Int), InG g → cs.length ≤ maxL → (∀ v ∈ cs, Byte v) → FC P (F "l08.other") [gD g, .lst 1 (u8s cs)] (.tup [gA (othR g cs).1, mA (othR g cs).2]) []
end
section
variable {P : Program} {F : String → Nat} {α : Type}
theorem putO_len [Inhabited α] (p : List Int) (l : List α) : ∀ k, (putO p l k).length = l.length
 | 0 => by simp [putO]
 | k + 1 => by simp [putO, putO_len p l k]
theorem nums_memO {n : Nat} {x : Int} : x ∈ nums 0 n ↔ 0 ≤ x ∧ x < n := by
 unfold nums
 constructor
 ·intro h
  simp at h
  omega
 ·intro h
  simp
  exact ⟨x.toNat, by omega, by omega⟩
theorem shfL_perm {n : Nat} {cs : List Int} (h : ∀ v ∈ cs, Byte v) : (shfL n cs).Perm (nums 0 n) := shufL_perm h _ (by omega) (by omega)
theorem shfL_len (n : Nat) (cs : List Int) : (shfL n cs).length = n := shufL_len _ _ _
theorem perm_inO {l : List Int} {n : Nat} (h : l.Perm (nums 0 n)) {j : Int} (h0 : 0 ≤ j) (h1 : j < n) : 0 ≤ gt l j ∧ gt l j < n := by
 have hl : l.length = n := by rw [h.length_eq, nums_len]
 exact nums_memO.1 (h.mem_iff.1 (gt_mem h0 (by omega)))
theorem w_l08_other (hs : K_r05_Shuffle P F) (g : G) (cs : List Int) (hg : InG g) (h1 : cs.length ≤ maxL) (h2 : ∀ v ∈ cs, Byte v) : W P (c_l08_other F) (Done [.c 4 true 2, .c 5 true 2] [] (.tup [gA (othR g cs).1, mA (othR g cs).2]) []) (init [gD g, .lst 1 (u8s cs)]) := by
 refine W_of ?_
 obtain ⟨g1, g2, g3⟩ := hg
 have r1 := hs g.n.length cs (by omega) h1 h2
 have r2 := hs g.e.length cs (by omega) h1 h2
 have p1 := shfL_perm (n := g.n.length) h2
 have p2 := shfL_perm (n := g.e.length) h2
 have l1 := shfL_len g.n.length cs
 have l2 := shfL_len g.e.length cs
 have hR : othR g cs = (othG g (shfL g.n.length cs) (shfL g.e.length cs), ⟨shfL g.n.length cs, shfL g.e.length cs⟩) := rfl
 rw [hR]
 rw [show shufL g.n.length cs (min g.n.length cs.length) = shfL g.n.length cs from rfl] at r1
 rw [show shufL g.e.length cs (min g.e.length cs.length) = shfL g.e.length cs from rfl] at r2
 generalize shfL g.n.length cs = p at *
 generalize shfL g.e.length cs = q at *
 clear hR
 obtain ⟨gn, ge⟩ := g
 simp only [gD, gA, mA, othG] at *
 have k1 : (p.length : Int) = gn.length := by omega
 have k2 : (q.length : Int) = ge.length := by omega
 simp (disch := omega) only [go_sem, ↓reduceIte]
 refine call_by r1 ?_
 simp (disch := omega) only [go_sem, ↓reduceIte, l1]
 refine call_by r2 ?_
 simp (disch := omega) only [go_sem, ↓reduceIte, l1, l2]
 refine W_loop (fun i : Nat => ⟨[(2, .pt 0 0), (4, .pt 3 0), (5, .pt 6 0), (6, .sl 7 0 gn.length), (7, .sl 8 0 ge.length), (8, .pt 11 0), (31, .sl 7 0 gn.length), (32, .int .i64 gn.length), (33, .int .i64 i)],
  [(0, .box [.lst 1 (ints gn), .lst 3 (eds ge)]), (1, .arr 1 []), (2, .arr 3 []), (3, .box [.sl 1 0 0, .sl 2 0 0]), (4, .arr 1 []), (5, .arr 1 []), (6, .box [.sl 4 0 0, .sl 5 0 0]), (7, .arr 1 (ints p)), (8, .arr 1 (ints q)),
   (9, .arr 1 (ints (putO p gn i))), (10, .arr 3 (eds (List.replicate ge.length { t := 0, f := 0, o := 0 }))), (11, .box [.sl 9 0 gn.length, .sl 10 0 ge.length])], 12⟩) (fun i => i ≤ gn.length) (fun i => gn.length - i) 0 ?_ ?_ ?_
 ·simp (disch := omega) only [go_sem, ↓reduceIte]
  rfl
 ·omega
 ·intro i hi
  have e1 := putO_len p gn i
  simp (disch := omega) only [go_sem, ↓reduceIte, c_l08_other_b9]
  refine bran_dec (fun c => ?_) (fun c => ?_)
  ·have hpi := perm_inO p1 (j := (i : Int)) (by omega) (by omega)
   simp (disch := omega) only [go_sem, ↓reduceIte, e1]
   exact ⟨i + 1, by simp [putO], by omega, by omega⟩
  ·obtain rfl : i = gn.length := by omega
   have hm : (ge.map (mapO p)).length = ge.length := by simp
   generalize hP : putO p gn gn.length = pn at *
   simp (disch := omega) only [go_sem, ↓reduceIte, e1]
   refine W_loop (fun i : Nat => ⟨[(2, .pt 0 0), (4, .pt 3 0), (5, .pt 6 0), (6, .sl 7 0 gn.length), (7, .sl 8 0 ge.length), (8, .pt 11 0), (48, .sl 8 0 ge.length), (49, .int .i64 ge.length), (50, .int .i64 i)],
    [(0, .box [.lst 1 (ints gn), .lst 3 (eds ge)]), (1, .arr 1 []), (2, .arr 3 []), (3, .box [.sl 1 0 0, .sl 2 0 0]), (4, .arr 1 []), (5, .arr 1 []), (6, .box [.sl 4 0 0, .sl 5 0 0]), (7, .arr 1 (ints p)), (8, .arr 1 (ints q)),
     (9, .arr 1 (ints pn)), (10, .arr 3 (eds (putO q (ge.map (mapO p)) i))), (11, .box [.sl 9 0 gn.length, .sl 10 0 ge.length])], 12⟩) (fun i => i ≤ ge.length) (fun i => ge.length - i) 0 ?_ ?_ ?_
   ·simp (disch := omega) only [go_sem, ↓reduceIte, putO, hm]
    rfl
   ·omega
   ·intro i hi
    have e2 := putO_len q (ge.map (mapO p)) i
    rw [hm] at e2
    simp (disch := omega) only [go_sem, ↓reduceIte, c_l08_other_b16]
    refine bran_dec (fun c => ?_) (fun c => ?_)
    ·have hpi := perm_inO p2 (j := (i : Int)) (by omega) (by omega)
     have hv := g3 _ (gt_mem (l := ge) (j := (i : Int)) (by omega) (by omega))
     have hmi : gt (ge.map (mapO p)) (i : Int) = mapO p (gt ge (i : Int)) := by
      rw [gt_nat (by omega), gt_nat (by omega), List.getElem_map]
     obtain ⟨⟨xt, xf, xo⟩, hx⟩ : ∃ x, gt ge (i : Int) = x := ⟨_, rfl⟩
     rw [hx] at hv hmi
     simp only [mapO] at hv hmi
     simp (disch := omega) only [go_sem, ↓reduceIte, e2, hx]
     exact ⟨i + 1, by simp [putO, hmi], by omega, by omega⟩
    ·obtain rfl : i = ge.length := by omega
     simp (disch := omega) only [go_sem, ↓reduceIte, e2]
     rw [← hP]
     rfl
end
def mapR (a b : G) (most : Int) : Nat → List Int → List (List Int) → List (List Int)
 | 0, ns, out => out ++ [ns]
 | k + 1, ns, out => (List.range b.n.length).foldl (fun o (i : Nat) => if (o.length : Int) < most then (if fitsR a b ns i then mapR a b most k (ns ++ [(i : Int)]) o else o) else o) out
def edgR (a b : G) (ns : List Int) (most : Int) : Nat → List Int → List (List Int) → List (List Int)
 | 0, es, out => out ++ [es]
 | k + 1, es, out => (List.range b.e.length).foldl (fun o (i : Nat) => if (o.length : Int) < most then (if wnt a b ns es i then edgR a b ns most k (es ++ [(i : Int)]) o else o) else o) out
section
variable (P : Program) (F : String → Nat)
end
section
variable {α : Type}
end
section
variable {P : Program} {F : String → Nat} {α : Type}
end
def addR (a b : G) (most : Int) (out : List Mo) (ns : List Int) : List Mo := if (out.length : Int) < most then out ++ (edgR a b ns (most - out.length) a.e.length [] []).map (fun es => ⟨ns, es⟩) else out
def allR (a b : G) (most : Int) : List Mo := if shpB a b = true then (mapR a b most a.n.length [] []).foldl (addR a b most) [] else []
section
variable (P : Program) (F : String → Nat)
end
section
variable {α : Type}
end
section
variable {P : Program} {F : String → Nat} {α : Type}
end
section
theorem take_app {β : Type} (A B : List β) (M : Nat) : (A.take M ++ B).take M = (A ++ B).take M := by
 rw [List.take_append, List.take_append, List.take_take, Nat.min_self, List.length_take]
 rcases Nat.le_total M A.length with h | h
 ·rw [show M - min M A.length = 0 by omega, show M - A.length = 0 by omega]
 ·rw [show min M A.length = A.length by omega]
theorem foldl_takM {β γ : Type} {f : List β → γ → List β} {g : γ → List β} {M : Nat} (hf : ∀ o x, o.length ≤ M → f o x = (o ++ g x).take M) : ∀ (l : List γ) (o : List β), o.length ≤ M → l.foldl f o = (o ++ l.flatMap g).take M
 | [], o, h => by rw [List.foldl_nil, List.flatMap_nil, List.append_nil, List.take_of_length_le h]
 | x :: l, o, h => by
  rw [List.foldl_cons, hf o x h, foldl_takM hf l _ (by rw [List.length_take]; omega), List.flatMap_cons, ← List.append_assoc, take_app]
theorem take_full {β : Type} {o : List β} (X : List β) {M : Nat} (h : o.length = M) : (o ++ X).take M = o := by
 rw [List.take_append_of_le_length (by omega), List.take_of_length_le (by omega)]
theorem eE_take (a b : G) (ns : List Int) (m : Int) (hm : 0 ≤ m) : ∀ (k : Nat) (es : List Int) (out : List Mo), out.length ≤ m.toNat + 1 →
  eE a b ns m k es out = (out ++ (fullN b.e.length (fun es n => wnt a b ns es n.toNat) k es).map fun es => (⟨ns, es⟩ : Mo)).take (m.toNat + 1)
 | 0, es, out, h => by
  simp only [eE, fullN, List.map_cons, List.map_nil]
  split
  ·rw [take_full _ (by omega)]
  ·rw [List.take_of_length_le (by simp; omega)]
 | k + 1, es, out, h => by
  simp only [eE]
  split
  ·rw [take_full _ (by omega)]
  ·rw [foldl_takM (g := fun (n : Nat) => (if wnt a b ns es n then fullN b.e.length (fun es n => wnt a b ns es n.toNat) k (es ++ [(n : Int)]) else []).map fun es => (⟨ns, es⟩ : Mo)) (M := m.toNat + 1) _ _ _ h]
   ·rw [fullN, List.map_flatMap]
    rfl
   ·intro o n ho
    split
    ·exact eE_take a b ns m hm k _ _ ho
    ·rw [List.map_nil, List.append_nil, List.take_of_length_le ho]
theorem nN_take (a b : G) (c : List Int) (m : Int) (al : Int → Int → Bool) (hm : 0 ≤ m) : ∀ (k : Nat) (ns : List Int) (out : List Mo), out.length ≤ m.toNat + 1 →
  nN a b c m al k ns out = (out ++ (fullN b.n.length (fun ns n => al ns.length n && fitsP a b c ns n) k ns).flatMap (imM a b)).take (m.toNat + 1)
 | 0, ns, out, h => by
  simp only [nN, fullN, List.flatMap_cons, List.flatMap_nil, List.append_nil]
  split
  ·rw [take_full _ (by omega)]
  ·rw [eE_take a b ns m hm _ _ _ h]
   rfl
 | k + 1, ns, out, h => by
  simp only [nN]
  split
  ·rw [take_full _ (by omega)]
  ·rw [foldl_takM (g := fun (n : Nat) => (if al ns.length (n : Int) && fitsP a b c ns (n : Int) then fullN b.n.length (fun ns n => al ns.length n && fitsP a b c ns n) k (ns ++ [(n : Int)]) else []).flatMap (imM a b)) (M := m.toNat + 1) _ _ _ h]
   ·rw [fullN, List.flatMap_assoc]
   ·intro o n ho
    split
    ·exact nN_take a b c m al hm k _ _ ho
    ·rw [List.flatMap_nil, List.append_nil, List.take_of_length_le ho]
theorem mapR_take (a b : G) (most : Int) : ∀ (k : Nat) (ns : List Int) (out : List (List Int)), (out.length : Int) < most →
  mapR a b most k ns out = (out ++ fullN b.n.length (fitsR a b) k ns).take most.toNat
 | 0, ns, out, h => by
  simp only [mapR, fullN]
  rw [List.take_of_length_le (by simp; omega)]
 | k + 1, ns, out, h => by
  simp only [mapR]
  rw [foldl_takM (g := fun (n : Nat) => if fitsR a b ns (n : Int) then fullN b.n.length (fitsR a b) k (ns ++ [(n : Int)]) else []) (M := most.toNat) _ _ _ (by omega)]
  ·rfl
  ·intro o n ho
   split
   ·split
    ·exact mapR_take a b most k _ _ (by assumption)
    ·rw [List.append_nil, List.take_of_length_le ho]
   ·rw [take_full _ (by omega)]
theorem edgR_take (a b : G) (ns : List Int) (most : Int) : ∀ (k : Nat) (es : List Int) (out : List (List Int)), (out.length : Int) < most →
  edgR a b ns most k es out = (out ++ fullN b.e.length (fun es n => wnt a b ns es n.toNat) k es).take most.toNat
 | 0, es, out, h => by
  simp only [edgR, fullN]
  rw [List.take_of_length_le (by simp; omega)]
 | k + 1, es, out, h => by
  simp only [edgR]
  rw [foldl_takM (g := fun (n : Nat) => if wnt a b ns es n then fullN b.e.length (fun es n => wnt a b ns es n.toNat) k (es ++ [(n : Int)]) else []) (M := most.toNat) _ _ _ (by omega)]
  ·rfl
  ·intro o n ho
   split
   ·split
    ·exact edgR_take a b ns most k _ _ (by assumption)
    ·rw [List.append_nil, List.take_of_length_le ho]
   ·rw [take_full _ (by omega)]
theorem flatM_take {β γ : Type} {g : γ → List β} : ∀ (l : List γ) (M : Nat), (∀ x ∈ l, g x ≠ []) → ((l.take M).flatMap g).take M = (l.flatMap g).take M
 | [], M, _ => by simp
 | x :: l, 0, _ => by simp
 | x :: l, M + 1, h => by
  have hx : 0 < (g x).length := List.length_pos_iff.2 (h x (by simp))
  have key : ∀ K, K ≤ M → ((l.take M).flatMap g).take K = (l.flatMap g).take K := fun K hK => by
   have := congrArg (List.take K) (flatM_take l M fun y hy => h y (by simp [hy]))
   rw [List.take_take, List.take_take, show min K M = K by omega] at this
   exact this
  rw [List.take_succ_cons, List.flatMap_cons, List.flatMap_cons, List.take_append, List.take_append, key _ (by omega)]
theorem allR_take {a b : G} {most : Int} (h1 : 1 ≤ most) (hs : shpB a b = true) (hne : ∀ ns ∈ fullN b.n.length (fitsR a b) a.n.length [], imE a b ns ≠ []) :
  allR a b most = ((fullN b.n.length (fitsR a b) a.n.length []).flatMap (imM a b)).take most.toNat := by
 rw [allR, if_pos hs, mapR_take _ _ _ _ _ _ (by simp; omega), List.nil_append]
 rw [foldl_takM (g := imM a b) (M := most.toNat) _ _ _ (by simp), List.nil_append]
 ·exact flatM_take _ _ fun ns hns e => hne ns hns (List.map_eq_nil_iff.1 e)
 ·intro o ns ho
  unfold addR
  split
  ·rw [edgR_take _ _ _ _ _ _ _ (by simp; omega), List.nil_append, List.map_take, List.take_append, List.take_of_length_le ho]
   rw [show (most - (o.length : Int)).toNat = most.toNat - o.length by omega]
   rfl
  ·rw [take_full _ (by omega)]
theorem isoN_take (a b : G) {m : Int} (al : Int → Int → Bool) (hm : 0 ≤ m) : isoN a b m al = ((fullN b.n.length (fun ns n => al ns.length n && fitsP a b (colJ a b) ns n) a.n.length []).flatMap (imM a b)).take (m.toNat + 1) := by
 rw [isoN, nN_take _ _ _ _ _ hm _ _ _ (by simp), List.nil_append]
end
section
theorem joinG_two (a b : G) : joinG [a, b] = join2 a b := by
 have := joinG_one a
 simp only [joinG, List.foldl_cons, List.foldl_nil] at this ⊢
 rw [this]
theorem gt_app_r {α : Type} [Inhabited α] {x y : List α} {i : Int} (h0 : 0 ≤ i) (h : i < y.length) : gt (x ++ y) (i + x.length) = gt y i := by
 obtain ⟨j, rfl⟩ := Int.eq_ofNat_of_zero_le h0
 rw [show ((j : Int) + x.length) = ((j + x.length : Nat) : Int) by omega, gt_nat (by simp; omega), gt_nat (by omega), List.getElem_append_right (by omega)]
 simp
theorem flatMap_nil' {α β : Type} {f : α → List β} : ∀ {l : List α}, (∀ x ∈ l, f x = []) → l.flatMap f = []
 | [], _ => rfl
 | x :: l, h => by rw [List.flatMap_cons, h x (by simp), flatMap_nil' fun y hy => h y (by simp [hy]), List.append_nil]
theorem trE_nil {c : List Int} {i : Nat} {x : E} (h1 : x.f ≠ i) (h2 : x.o ≠ i) : trE c i x = [] := by
 unfold trE
 rw [if_neg h1, if_neg h2]; rfl
theorem sgn_join_l {a b : G} (va : InG a) (vb : InG b) {ca cb : List Int} (h1 : ca.length = a.n.length) {i : Nat} (hi : i < a.n.length) : sgnO (join2 a b).e (ca ++ cb) i = sgnO a.e ca i := by
 unfold sgnO
 rw [gt_app_l (by omega) (by omega)]
 congr 3
 simp only [join2, trL, List.flatMap_append]
 rw [flatMap_nil' (l := List.map _ _), List.append_nil]
 ·refine flatMap_congr' fun x hx => ?_
  have := va.2.2 x hx
  simp only [trE]
  rw [gt_app_l (i := x.o) (by omega) (by omega), gt_app_l (i := x.f) (by omega) (by omega)]
 ·intro x hx
  obtain ⟨y, hy, rfl⟩ := List.mem_map.1 hx
  have := vb.2.2 y hy
  exact trE_nil (by simp only [shJ]; omega) (by simp only [shJ]; omega)
theorem sgn_join_r {a b : G} (va : InG a) (vb : InG b) {ca cb : List Int} (h1 : ca.length = a.n.length) (h2 : cb.length = b.n.length) {i : Nat} (hi : i < b.n.length) : sgnO (join2 a b).e (ca ++ cb) (a.n.length + i) = sgnO b.e cb i := by
 unfold sgnO
 have e : ((a.n.length + i : Nat) : Int) = (i : Int) + ca.length := by omega
 rw [e, gt_app_r (by omega) (by omega)]
 congr 3
 simp only [join2, trL, List.flatMap_append]
 rw [flatMap_nil' (l := a.e), List.nil_append, List.flatMap_map]
 ·refine flatMap_congr' fun x hx => ?_
  have := vb.2.2 x hx
  refine trE_sh rfl (by simp only [shJ]; omega) (by simp only [shJ]; omega) ?_ ?_
  ·simp only [shJ]
   rw [← h1]
   exact gt_app_r (by omega) (by omega)
  ·simp only [shJ]
   rw [← h1]
   exact gt_app_r (by omega) (by omega)
 ·intro x hx
  have := va.2.2 x hx
  exact trE_nil (by omega) (by omega)
theorem nextL_join {a b : G} (va : InG a) (vb : InG b) {ca cb : List Int} (h1 : ca.length = a.n.length) (h2 : cb.length = b.n.length) : nextL (join2 a b) (ca ++ cb) = nextL a ca ++ nextL b cb := by
 have hn : (join2 a b).n.length = a.n.length + b.n.length := by simp [join2]
 refine List.ext_getElem (by simp [nextL, hn]) fun i hi _ => ?_
 simp only [nextL, List.length_map, List.length_range, hn] at hi
 rcases Nat.lt_or_ge i a.n.length with h | h
 ·rw [List.getElem_append_left (by simp [nextL]; omega)]
  simp only [nextL, List.getElem_map, List.getElem_range]
  exact sgn_join_l va vb h1 h
 ·rw [List.getElem_append_right (by simp [nextL]; omega)]
  simp only [nextL, List.getElem_map, List.getElem_range, List.length_map, List.length_range]
  obtain ⟨j, rfl⟩ : ∃ j, i = a.n.length + j := ⟨i - a.n.length, by omega⟩
  rw [show a.n.length + j - a.n.length = j by omega]
  exact sgn_join_r va vb h1 h2 (by omega)
end
section
theorem fullN_filter {N : Nat} {ok : List Int → Int → Bool} : ∀ (k : Nat) (ns : List Int), fullN N ok k ns = (fullN N (fun _ _ => true) k ns).filter fun l => (List.range' ns.length k).all fun i => ok (l.take i) (gt l (i : Int))
 | 0, ns => by simp [fullN]
 | k + 1, ns => by
  simp only [fullN, if_true]
  rw [List.filter_flatMap]
  refine flatMap_congr' fun n _ => ?_
  have key : ∀ l ∈ fullN N (fun _ _ => true) k (ns ++ [(n : Int)]), ok (l.take ns.length) (gt l (ns.length : Int)) = ok ns n := fun l hl => by
   obtain ⟨h1, h2, _⟩ := mem_fullN.1 hl
   simp only [List.length_append, List.length_singleton] at h1 h2
   have e := take_gt (l := l) (i := ns.length) (by omega)
   rw [h2] at e
   obtain ⟨e1, e2⟩ := List.append_inj' e rfl
   simp only [List.cons.injEq, and_true] at e2
   rw [← e1, ← e2]
  by_cases h : ok ns n = true
  ·rw [if_pos h, fullN_filter k]
   refine List.filter_congr fun l hl => ?_
   rw [List.range'_succ, List.all_cons, key l hl, h, Bool.true_and, List.length_append, List.length_singleton]
  ·rw [if_neg h]
   symm
   rw [List.filter_eq_nil_iff]
   intro l hl
   rw [List.range'_succ, List.all_cons, key l hl]
   simp [h]
theorem fullN_eq {N : Nat} {ok1 ok2 : List Int → Int → Bool} {k : Nat} {ns : List Int} (h : ∀ l, l ∈ fullN N ok1 k ns ↔ l ∈ fullN N ok2 k ns) : fullN N ok1 k ns = fullN N ok2 k ns := by
 rw [fullN_filter (ok := ok1), fullN_filter (ok := ok2)] at *
 refine List.filter_congr fun l hl => ?_
 have := h l
 simp only [List.mem_filter, hl, true_and] at this
 exact Bool.eq_iff_iff.2 this
theorem fullN_nodup {N : Nat} {ok : List Int → Int → Bool} : ∀ (k : Nat) (ns : List Int), (fullN N ok k ns).Nodup
 | 0, ns => by simp [fullN]
 | k + 1, ns => by
  simp only [fullN]
  have key : ∀ l : List Nat, l.Nodup → (l.flatMap fun (n : Nat) => if ok ns (n : Int) then fullN N ok k (ns ++ [(n : Int)]) else []).Nodup := fun l => by
   induction l with
   | nil => intro _; simp
   | cons n l ih =>
    intro hn
    rw [List.nodup_cons] at hn
    rw [List.flatMap_cons, List.nodup_append]
    refine ⟨?_, ih hn.2, fun x hx y hy e => ?_⟩
    ·split
     ·exact fullN_nodup k _
     ·exact List.nodup_nil
    ·subst e
     obtain ⟨m, hm, hy⟩ := List.mem_flatMap.1 hy
     split at hx
     ·split at hy
      ·have e1 := (mem_fullN.1 hx).2.1
       have e2 := (mem_fullN.1 hy).2.1
       simp only [List.length_append, List.length_singleton] at e1 e2
       rw [e1] at e2
       have := (List.append_inj' e2 rfl).2
       simp only [List.cons.injEq, and_true] at this
       obtain rfl : n = m := by omega
       exact hn.1 hm
      ·cases hy
     ·cases hx
  exact key _ List.nodup_range
theorem betL_cnt (g : G) (f o t : Int) : (betL g f o).count t = numL g t f o := by
 rw [betL, (srt_perm _).count_eq, List.count_eq_countP, List.countP_map, List.countP_filter, numL, ← List.countP_eq_length_filter]
 refine List.countP_congr fun x _ => ?_
 simp only [Function.comp_apply, Bool.and_eq_true, decide_eq_true_eq, beq_iff_eq, numP]
theorem betL_iff {a b : G} {i k p q : Int} : betL a i k = betL b p q ↔ ∀ t, numL a t i k = numL b t p q := by
 constructor
 ·intro h t
  rw [← betL_cnt, ← betL_cnt, h]
 ·intro h
  refine asc_one (srt_sorted _) (srt_sorted _) (List.perm_iff_count.2 fun t => ?_)
  have := h t
  rw [← betL_cnt, ← betL_cnt] at this
  exact this
theorem mem_fullP {a b : G} {c l : List Int} {al : Int → Int → Bool} : l ∈ fullN b.n.length (fun ns n => al ns.length n && fitsP a b c ns n) a.n.length [] ↔
  l.length = a.n.length ∧ (∀ i : Nat, i < a.n.length → 0 ≤ gt l (i : Int) ∧ gt l (i : Int) < b.n.length) ∧ (∀ i k : Nat, i < a.n.length → k < a.n.length → gt l (i : Int) = gt l (k : Int) → i = k) ∧
   (∀ i : Nat, i < a.n.length → gt c (i : Int) = gt c ((a.n.length : Int) + gt l (i : Int))) ∧ (∀ (t : Int) (i k : Nat), i < a.n.length → k < a.n.length → numL a t i k = numL b t (gt l (i : Int)) (gt l (k : Int))) ∧ ∀ i : Nat, i < a.n.length → al i (gt l (i : Int)) = true := by
 rw [mem_fullN]
 simp only [List.length_nil, Nat.zero_add, List.take_zero, true_and, Nat.zero_le, forall_const]
 constructor
 ·rintro ⟨h1, h2⟩
  have h3 : ∀ i : Nat, i < a.n.length → al i (gt l (i : Int)) = true ∧ gt c (i : Int) = gt c ((a.n.length : Int) + gt l (i : Int)) ∧ (∀ k : Nat, k < i → gt l (k : Int) ≠ gt l (i : Int)) ∧ ∀ k : Nat, k ≤ i → ∀ t, numL a t k i = numL b t (gt l (k : Int)) (gt l (i : Int)) ∧ numL a t i k = numL b t (gt l (i : Int)) (gt l (k : Int)) := fun i hi => by
   have h := (h2 i (by omega)).2
   simp only [fitsP, Bool.and_eq_true, decide_eq_true_eq, Bool.not_eq_true', decide_eq_false_iff_not, List.all_eq_true, List.mem_range, List.length_take, show min i l.length = i by omega, pairO, betL_iff] at h
   obtain ⟨e0, e1, e2, e3, e4⟩ := h
   refine ⟨e0, e2, (not_mem_take (by omega)).1 e1, fun k hk t => ?_⟩
   rcases Nat.lt_or_ge k i with h | h
   ·have e5 := e4 k h
    rw [gt_take' h (by omega)] at e5
    exact ⟨e5.2 t, e5.1 t⟩
   ·obtain rfl : k = i := by omega
    exact ⟨e3 t, e3 t⟩
  refine ⟨h1, fun i hi => (h2 i (by omega)).1, fun i k hi hk e => ?_, fun i hi => (h3 i hi).2.1, fun t i k hi hk => ?_, fun i hi => (h3 i hi).1⟩
  ·rcases Nat.lt_trichotomy i k with h | h | h
   ·exact absurd e ((h3 k hk).2.2.1 i h)
   ·exact h
   ·exact absurd e.symm ((h3 i hi).2.2.1 k h)
  ·rcases Nat.le_total i k with h | h
   ·exact ((h3 k hk).2.2.2 i h t).1
   ·exact ((h3 i hi).2.2.2 k h t).2
 ·rintro ⟨hl, h1, h2, h3, h4, h5⟩
  refine ⟨hl, fun i hi => ⟨h1 i (by omega), ?_⟩⟩
  simp only [fitsP, Bool.and_eq_true, decide_eq_true_eq, Bool.not_eq_true', decide_eq_false_iff_not, List.all_eq_true, List.mem_range, List.length_take, show min i l.length = i by omega, pairO, betL_iff]
  refine ⟨h5 i (by omega), (not_mem_take hi).2 fun k hk e => ?_, h3 i (by omega), fun t => h4 t i i (by omega) (by omega), fun k hk => ?_⟩
  ·have := h2 k i (by omega) (by omega) e
   omega
  ·rw [gt_take' hk (by omega)]
   exact ⟨fun t => h4 t i k (by omega) (by omega), fun t => h4 t k i (by omega) (by omega)⟩
end
section
theorem colL_sig {s : List (List Int)} {i j : Nat} (hi : i < s.length) (hj : j < s.length) (h : gt (colL s) (i : Int) = gt (colL s) (j : Int)) : gt s (i : Int) = gt s (j : Int) := by
 rw [colL_gt hi, colL_gt hj] at h
 exact below_inj (dstL_mem.2 (gt_mem (by omega) (by omega))) (dstL_mem.2 (gt_mem (by omega) (by omega))) (by omega)
theorem stb_sig {g : G} : ∀ (k : Nat) {s : List (List Int)} {i j : Nat}, s.length = g.n.length → i < g.n.length → j < g.n.length → gt (stb g k s) (i : Int) = gt (stb g k s) (j : Int) → gt s (i : Int) = gt s (j : Int)
 | 0, s, i, j, hs, hi, hj, h => colL_sig (by omega) (by omega) h
 | k + 1, s, i, j, hs, hi, hj, h => by
  rw [stb] at h
  split at h
  ·exact colL_sig (by omega) (by omega) h
  ·have := stb_sig k (nextL_length g _) hi hj h
   rw [nextL_gt hi, nextL_gt hj] at this
   simp only [sgnO, List.cons.injEq] at this
   exact colL_sig (by omega) (by omega) this.1
theorem stabL_ty {g : G} {i j : Nat} (hi : i < g.n.length) (hj : j < g.n.length) (h : gt (stabL g) (i : Int) = gt (stabL g) (j : Int)) : gt g.n (i : Int) = gt g.n (j : Int) := by
 have := stb_sig _ (frstL_length g) hi hj h
 rw [gt_nat (by rw [frstL_length]; omega), gt_nat (by rw [frstL_length]; omega)] at this
 simp only [frstL, List.getElem_map, List.cons.injEq, and_true] at this
 rw [gt_nat hi, gt_nat hj, this]
theorem colL_app (x y : List (List Int)) : colL (x ++ y) = colA x (dstL (x ++ y)) ++ colA y (dstL (x ++ y)) := by simp [colL, colA]
theorem colA_gt {x S : List (List Int)} {i : Int} (h0 : 0 ≤ i) (h : i < x.length) : gt (colA x S) i = (below S (gt x i) : Int) := by
 rw [colA, gt_map_c h0 h]
theorem stb_join {a b : G} {l : List Int} (hl : NIso a b l) (va : InG a) (vb : InG b) (hn : a.n.length = b.n.length) : ∀ (k : Nat) {x y : List (List Int)}, Car a l x y → x.length = a.n.length → y.length = b.n.length → ∀ i : Nat, i < a.n.length →
  gt (stb (join2 a b) k (x ++ y)) (i : Int) = gt (stb (join2 a b) k (x ++ y)) (a.n.length + gt l (i : Int))
 | k, x, y, h, hx, hy, i, hi => by
  have base : gt (colL (x ++ y)) (i : Int) = gt (colL (x ++ y)) (a.n.length + gt l (i : Int)) := by
   have hr := hl.rng i hi
   rw [colL_app, gt_app_l (by omega) (by rw [colA_length]; omega), colA_gt (by omega) (by omega)]
   have e : (a.n.length : Int) + gt l (i : Int) = gt l (i : Int) + (colA x (dstL (x ++ y))).length := by rw [colA_length]; omega
   rw [e, gt_app_r hr.1 (by rw [colA_length]; omega), colA_gt hr.1 (by omega), h i hi]
  cases k with
  | zero => exact base
  | succ k =>
   rw [stb]
   split
   ·exact base
   ·rw [colL_app, nextL_join va vb (by rw [colA_length, hx]) (by rw [colA_length, hy])]
    exact stb_join hl va vb hn k (h.next hl va vb hn hx hy _) (nextL_length _ _) (nextL_length _ _) i hi
theorem NIso.col {a b : G} {l : List Int} (h : NIso a b l) (va : InG a) (vb : InG b) (hn : a.n.length = b.n.length) {i : Nat} (hi : i < a.n.length) : gt (colJ a b) (i : Int) = gt (colJ a b) (a.n.length + gt l (i : Int)) := by
 rw [colJ, stabL, joinG_two]
 have e : frstL (join2 a b) = frstL a ++ frstL b := by simp [frstL, join2]
 rw [e]
 exact stb_join h va vb hn _ (Car.first h) (frstL_length a) (frstL_length b) i hi
theorem dstL_congr {x y : List (List Int)} (h : ∀ z, z ∈ x ↔ z ∈ y) : dstL x = dstL y := dstL_one (dstL_strict x) fun z => by rw [dstL_mem, h]
theorem stb_iso {a b : G} {l : List Int} (hl : NIso a b l) (va : InG a) (vb : InG b) (hn : a.n.length = b.n.length) : ∀ (k : Nat) {x y : List (List Int)}, Car a l x y → x.length = a.n.length → y.length = b.n.length → ∀ i : Nat, i < a.n.length →
  gt (stb a k x) (i : Int) = gt (stb b k y) (gt l (i : Int))
 | k, x, y, h, hx, hy, i, hi => by
  have hd : dstL x = dstL y := dstL_congr (h.mem hl hn hx hy)
  have base : gt (colL x) (i : Int) = gt (colL y) (gt l (i : Int)) := by
   have hr := hl.rng i hi
   rw [show colL x = colA x (dstL x) from rfl, show colL y = colA y (dstL y) from rfl, colA_gt (by omega) (by omega), colA_gt hr.1 (by omega), h i hi, hd]
  cases k with
  | zero => exact base
  | succ k =>
   have hc : Car a l (nextL a (colL x)) (nextL b (colL y)) := by
    have := h.next hl va vb hn hx hy (dstL x)
    rw [show colL x = colA x (dstL x) from rfl, show colL y = colA y (dstL y) from rfl, ← hd]
    exact this
   have hn1 : ndL x = ndL y := by unfold ndL; rw [hd]
   have hn2 : ndL (nextL a (colL x)) = ndL (nextL b (colL y)) := by
    unfold ndL
    rw [dstL_congr (hc.mem hl hn (nextL_length _ _) (nextL_length _ _))]
   rw [stb, stb, hn1, hn2]
   split
   ·exact base
   ·exact stb_iso hl va vb hn k hc (nextL_length _ _) (nextL_length _ _) i hi
theorem NIso.stab {a b : G} {l : List Int} (h : NIso a b l) (va : InG a) (vb : InG b) (hn : a.n.length = b.n.length) {i : Nat} (hi : i < a.n.length) : gt (stabL a) (i : Int) = gt (stabL b) (gt l (i : Int)) := by
 rw [stabL, stabL, hn]
 exact stb_iso h va vb hn _ (Car.first h) (frstL_length a) (frstL_length b) i hi
theorem mem_fullP' {a b : G} {l : List Int} {al : Int → Int → Bool} (va : InG a) (vb : InG b) (hn : a.n.length = b.n.length) : l ∈ fullN b.n.length (fun ns n => al ns.length n && fitsP a b (colJ a b) ns n) a.n.length [] ↔
  NIso a b l ∧ ∀ i : Nat, i < a.n.length → al i (gt l (i : Int)) = true := by
 rw [mem_fullP]
 constructor
 ·rintro ⟨h1, h2, h3, h4, h5, h6⟩
  refine ⟨⟨h1, h2, h3, fun i hi => ?_, h5⟩, h6⟩
  have h := h4 i hi
  have hr := h2 i hi
  obtain ⟨j, hj⟩ := Int.eq_ofNat_of_zero_le hr.1
  rw [hj] at h hr ⊢
  have hJ : (joinG [a, b]).n = a.n ++ b.n := by rw [joinG_two]; rfl
  have h7 := stabL_ty (g := joinG [a, b]) (i := i) (j := a.n.length + j) (by rw [hJ]; simp; omega) (by rw [hJ]; simp; omega) (by
   rw [show ((a.n.length + j : Nat) : Int) = a.n.length + j by omega]; exact h)
  rw [hJ, gt_app_l (by omega) (by omega), show ((a.n.length + j : Nat) : Int) = (j : Int) + a.n.length by omega, gt_app_r (by omega) (by omega)] at h7
  exact h7
 ·rintro ⟨h, h6⟩
  exact ⟨h.len, h.rng, h.inj, fun i hi => h.col va vb hn hi, h.num, h6⟩
theorem fullP_R {a b : G} (va : InG a) (vb : InG b) (hn : a.n.length = b.n.length) : fullN b.n.length (fun ns n => (fun _ _ => true : Int → Int → Bool) ns.length n && fitsP a b (colJ a b) ns n) a.n.length [] = fullN b.n.length (fitsR a b) a.n.length [] :=
 fullN_eq fun l => by rw [mem_fullP' (al := fun _ _ => true) va vb hn, mem_fullR]; simp
theorem isoN_isos {a b : G} (va : InG a) (vb : InG b) (hn : a.n.length = b.n.length) {m : Int} (hm : 0 ≤ m) : isoN a b m (fun _ _ => true) = (isos a b).take (m.toNat + 1) := by
 rw [isoN_take _ _ _ hm, fullP_R va vb hn, isos]
theorem allR_isos {a b : G} (va : InG a) (vb : InG b) (hs : shpB a b = true) {most : Int} (h1 : 1 ≤ most) : allR a b most = (isos a b).take most.toNat := by
 have hn : a.n.length = b.n.length := by
  simp only [shpB, Bool.and_eq_true, decide_eq_true_eq] at hs; exact hs.1
 exact allR_take h1 hs fun ns hns => (mem_fullR.1 hns).imE_ne va vb hn
end
section
theorem mem_imE {a b : G} {ns es : List Int} : es ∈ imE a b ns ↔ es.length = a.e.length ∧ (∀ i : Nat, i < a.e.length → 0 ≤ gt es (i : Int) ∧ gt es (i : Int) < b.e.length) ∧ (∀ i k : Nat, i < a.e.length → k < a.e.length → gt es (i : Int) = gt es (k : Int) → i = k) ∧
  ∀ i : Nat, i < a.e.length → gt b.e (gt es (i : Int)) = mapE ns (gt a.e (i : Int)) := by
 rw [imE, mem_fullN]
 simp only [List.length_nil, Nat.zero_add, List.take_zero, true_and, Nat.zero_le, forall_const]
 constructor
 ·rintro ⟨h1, h2⟩
  have h3 : ∀ i : Nat, i < a.e.length → gt b.e (gt es (i : Int)) = mapE ns (gt a.e (i : Int)) ∧ ∀ k : Nat, k < i → gt es (k : Int) ≠ gt es (i : Int) := fun i hi => by
   obtain ⟨⟨h4, h5⟩, h6⟩ := h2 i (by omega)
   have e : ((gt es (i : Int)).toNat : Int) = gt es (i : Int) := Int.toNat_of_nonneg h4
   rw [wnt_iff, e, List.length_take, show min i es.length = i by omega] at h6
   exact ⟨h6.1, (not_mem_take (by omega)).1 h6.2⟩
  refine ⟨h1, fun i hi => (h2 i (by omega)).1, fun i k hi hk e => ?_, fun i hi => (h3 i hi).1⟩
  rcases Nat.lt_trichotomy i k with h | h | h
  ·exact absurd e ((h3 k hk).2 i h)
  ·exact h
  ·exact absurd e.symm ((h3 i hi).2 k h)
 ·rintro ⟨h1, h2, h3, h4⟩
  refine ⟨h1, fun i hi => ⟨h2 i (by omega), ?_⟩⟩
  have h5 := h2 i (by omega)
  have e : ((gt es (i : Int)).toNat : Int) = gt es (i : Int) := Int.toNat_of_nonneg h5.1
  rw [wnt_iff, e, List.length_take, show min i es.length = i by omega]
  refine ⟨h4 i (by omega), (not_mem_take hi).2 fun k hk e => ?_⟩
  have := h3 k i (by omega) (by omega) e
  omega
end
def movR (g : G) (u v : Nat) : Bool := decide (gt g.n (u : Int) = gt g.n (v : Int)) && !(allR (setG g u) (setG g v) 1).isEmpty
def orbF (g : G) (i : Nat) : Nat → Nat → Nat
 | 0, k => k
 | f + 1, k => if k < i ∧ movR g k i = false then orbF g i f (k + 1) else k
def orbV (g : G) (i : Nat) : Int := (orbF g i i 0 : Nat)
def orbRf (g : G) : List Int × Int := if validG g = 0 then (if 12 < g.n.length then ([], 3) else ((List.range g.n.length).map (orbV g), 0)) else ([], validG g)
section
variable (P : Program) (F : String → Nat)
end
section
variable {P : Program} {F : String → Nat} {α : Type}
theorem orbF_le (g : G) (i : Nat) : ∀ f k, k ≤ i → orbF g i f k ≤ i
 | 0, k, h => h
 | f + 1, k, h => by
  rw [orbF]
  split
  ·exact orbF_le g i f (k + 1) (by omega)
  ·exact h
end
section
theorem fnd_iff {g : G} (vg : InG g) {u v : Nat} (hu : u < g.n.length) : fndO g u v = true ↔ Orb g u v := by
 have e : fndO g u v = true ↔ ∃ m, m ∈ (fullN g.n.length (fun ns n => alO u v ns.length n && fitsP g g (colJ g g) ns n) g.n.length []).flatMap (imM g g) := by
  rw [fndO, isoN_take _ _ _ (by omega)]
  cases hh : (fullN g.n.length (fun ns n => alO u v ns.length n && fitsP g g (colJ g g) ns n) g.n.length []).flatMap (imM g g) with
  | nil => simp
  | cons x l => simp
 rw [e]
 constructor
 ·rintro ⟨m, hm⟩
  obtain ⟨l, hl, _⟩ := List.mem_flatMap.1 hm
  obtain ⟨h1, h2⟩ := (mem_fullP' vg vg rfl).1 hl
  have := h2 u hu
  simp only [alO, decide_true, Bool.not_true, Bool.false_or, decide_eq_true_eq] at this
  exact ⟨l, h1, this⟩
 ·rintro ⟨l, h1, h2⟩
  have hl : l ∈ fullN g.n.length (fun ns n => alO u v ns.length n && fitsP g g (colJ g g) ns n) g.n.length [] := (mem_fullP' vg vg rfl).2 ⟨h1, fun i hi => by
   simp only [alO, Bool.or_eq_true, Bool.not_eq_true', decide_eq_false_iff_not, decide_eq_true_eq]
   by_cases e : (i : Int) = u
   ·right; rw [e, h2]
   ·left; exact e⟩
  obtain ⟨es, hes⟩ := List.exists_mem_of_ne_nil _ (h1.imE_ne vg vg rfl)
  exact ⟨⟨l, es⟩, List.mem_flatMap.2 ⟨l, hl, List.mem_map.2 ⟨es, hes, rfl⟩⟩⟩
theorem gt_setG {g : G} {u i : Nat} (hi : i < g.n.length) : gt (setG g u).n (i : Int) = if i = u then -1 else gt g.n (i : Int) := by
 have h1 : i < (g.n.set u (-1)).length := by simpa using hi
 show gt (g.n.set u (-1)) (i : Int) = _
 rw [gt_nat h1, gt_nat hi, List.getElem_set]
 by_cases e : u = i
 ·rw [if_pos e, if_pos e.symm]
 ·rw [if_neg e, if_neg (fun h => e h.symm)]
theorem mov_iff {g : G} (vg : validG g = 0) {u v : Nat} (hu : u < g.n.length) (hv : v < g.n.length) : movR g u v = true ↔ Orb g u v := by
 have ig := InG.of_valid vg
 have hl1 : (setG g u).n.length = g.n.length := by simp [setG]
 have hl2 : (setG g v).n.length = g.n.length := by simp [setG]
 have hs : shpB (setG g u) (setG g v) = true := by simp [shpB, setG]
 have hpos : ∀ i : Nat, i < g.n.length → gt g.n (i : Int) ≠ -1 := fun i hi e => by
  obtain ⟨_, _, h3, _⟩ := valid_spec vg
  have := h3 _ (gt_mem (l := g.n) (j := (i : Int)) (by omega) (by omega))
  rw [e] at this
  simp [okN] at this
 have e : movR g u v = true ↔ gt g.n (u : Int) = gt g.n (v : Int) ∧ ∃ m, m ∈ isos (setG g u) (setG g v) := by
  rw [movR, allR_isos (ig.set u) (ig.set v) hs (by omega)]
  cases hh : isos (setG g u) (setG g v) with
  | nil => simp
  | cons x l => simp
 rw [e]
 constructor
 ·rintro ⟨ht, m, hm⟩
  obtain ⟨h1, _⟩ := mem_isos.1 hm
  have hr : ∀ i : Nat, i < g.n.length → 0 ≤ gt m.n (i : Int) ∧ gt m.n (i : Int) < g.n.length := fun i hi => by
   have := h1.rng i (by omega)
   rw [hl2] at this
   exact this
  have huv : gt m.n (u : Int) = v := by
   have := h1.ty u (by omega)
   obtain ⟨j, hj⟩ := Int.eq_ofNat_of_zero_le (hr u hu).1
   have hjl := (hr u hu).2
   rw [hj, gt_setG hu, if_pos rfl, gt_setG (by omega)] at this
   split at this
   ·rename_i e; rw [hj, e]
   ·exact absurd this.symm (hpos j (by omega))
  refine ⟨m.n, ⟨by rw [h1.len, hl1], hr, fun i k hi hk => h1.inj i k (by omega) (by omega), fun i hi => ?_, fun t i k hi hk => h1.num t i k (by omega) (by omega)⟩, huv⟩
  by_cases e : i = u
  ·rw [e, huv, ht]
  ·have := h1.ty i (by omega)
   obtain ⟨j, hj⟩ := Int.eq_ofNat_of_zero_le (hr i hi).1
   have hjl := (hr i hi).2
   rw [hj, gt_setG hi, if_neg e, gt_setG (by omega)] at this
   split at this
   ·exact absurd this (hpos i hi)
   ·rw [hj, this]
 ·rintro ⟨l, h1, h2⟩
  have ht := h1.ty u hu
  rw [h2] at ht
  refine ⟨ht, ?_⟩
  have h3 : NIso (setG g u) (setG g v) l := by
   refine ⟨by rw [h1.len, hl1], fun i hi => ?_, fun i k hi hk => h1.inj i k (by omega) (by omega), fun i hi => ?_, fun t i k hi hk => h1.num t i k (by omega) (by omega)⟩
   ·rw [hl2]; exact h1.rng i (by omega)
   ·rw [hl1] at hi
    have hr := h1.rng i hi
    have hty := h1.ty i hi
    obtain ⟨j, hj⟩ := Int.eq_ofNat_of_zero_le hr.1
    rw [hj] at hr hty ⊢
    rw [gt_setG hi, gt_setG (by omega)]
    by_cases e : i = u
    ·have : j = v := by rw [e, h2] at hj; omega
     rw [if_pos e, if_pos this]
    ·have : j ≠ v := fun e2 => e (h1.inj i u hi hu (by rw [hj, h2, e2]))
     rw [if_neg e, if_neg this, hty]
  obtain ⟨es, hes⟩ := List.exists_mem_of_ne_nil _ (h3.imE_ne (ig.set u) (ig.set v) (by rw [hl1, hl2]))
  exact ⟨⟨l, es⟩, mem_isos.2 ⟨h3, hes⟩⟩
theorem orbF_spec {g : G} {i : Nat} : ∀ (f k : Nat), k + f = i → (∀ j, j < k → movR g j i = false) → (∀ j, j < orbF g i f k → movR g j i = false) ∧ (orbF g i f k < i → movR g (orbF g i f k) i = true)
 | 0, k, h, hk => ⟨hk, fun h1 => by simp only [orbF] at h1; omega⟩
 | f + 1, k, h, hk => by
  rw [orbF]
  split
  ·rename_i hc
   refine orbF_spec f (k + 1) (by omega) fun j hj => ?_
   rcases Nat.lt_or_ge j k with h1 | h1
   ·exact hk j h1
   ·obtain rfl : j = k := by omega
    exact hc.2
  ·rename_i hc
   refine ⟨hk, fun h1 => ?_⟩
   cases hm : movR g k i
   ·exact absurd ⟨h1, hm⟩ hc
   ·rfl
theorem orbF_orb {g : G} (vg : validG g = 0) {i : Nat} (hi : i < g.n.length) : orbF g i i 0 ≤ i ∧ Orb g (orbF g i i 0) i ∧ ∀ j, j < orbF g i i 0 → ¬ Orb g j i := by
 have hle := orbF_le g i i 0 (by omega)
 obtain ⟨h1, h2⟩ := orbF_spec (g := g) (i := i) i 0 (by omega) (by omega)
 refine ⟨hle, ?_, fun j hj h => ?_⟩
 ·rcases Nat.lt_or_ge (orbF g i i 0) i with h | h
  ·exact (mov_iff vg (by omega) hi).1 (h2 h)
  ·rw [show orbF g i i 0 = i by omega]
   exact Orb.refl hi
 ·have := h1 j hj
  rw [(mov_iff vg (by omega) hi).2 h] at this
  cases this
theorem orbF_same {g : G} (vg : validG g = 0) {u v : Nat} (hu : u < g.n.length) (hv : v < g.n.length) (h : Orb g u v) : orbF g u u 0 = orbF g v v 0 := by
 obtain ⟨a1, a2, a3⟩ := orbF_orb vg hu
 obtain ⟨b1, b2, b3⟩ := orbF_orb vg hv
 have h1 : Orb g (orbF g u u 0) v := a2.trans (by omega) h
 have h2 : Orb g (orbF g v v 0) u := b2.trans (by omega) (h.symm hu)
 rcases Nat.lt_trichotomy (orbF g u u 0) (orbF g v v 0) with k | k | k
 ·exact absurd h1 (b3 _ k)
 ·exact k
 ·exact absurd h2 (a3 _ k)
theorem orbU_iff {g : G} (vg : validG g = 0) {v : Nat} (hv : v < g.n.length) : orbU g v = if orbF g v v 0 < v then some (orbF g v v 0) else none := by
 obtain ⟨b1, b2, b3⟩ := orbF_orb vg hv
 have hf : ∀ u, u < g.n.length → (fndO g u v = true ↔ Orb g u v) := fun u hu => fnd_iff (InG.of_valid vg) hu
 split
 ·rename_i h
  rw [orbU, List.find?_range_eq_some]
  refine ⟨(hf _ (by omega)).2 b2, List.mem_range.2 h, fun j hj => ?_⟩
  cases hc : fndO g j v
  ·rfl
  ·exact absurd ((hf j (by omega)).1 hc) (b3 j hj)
 ·rw [orbU, List.find?_eq_none]
  intro j hj hc
  have hj := List.mem_range.1 hj
  exact b3 j (by omega) ((hf j (by omega)).1 hc)
theorem gen_orb {g : G} (vg : validG g = 0) : genL g.n.length (orbP g) = (List.range g.n.length).map (orbV g) := by
 have hin := orbP_in g
 have hlen : (genL g.n.length (orbP g)).length = g.n.length := gen_len _
 have hid := gen_idem hin (Nat.le_refl _)
 let φ : Int → Int := fun x => orbV g x.toNat
 have hP : ∀ i : Nat, i < (orbP g).length → ∃ u v : Nat, gt (orbP g) (i : Int) = ⟨u, v⟩ ∧ v < g.n.length ∧ orbU g v = some u := fun i hi => by
  have hm := gt_mem (l := orbP g) (j := (i : Int)) (by omega) (by omega)
  obtain ⟨v, hv, hx⟩ := List.mem_flatMap.1 hm
  have hv := List.mem_range.1 hv
  unfold orbS at hx
  split at hx
  ·rename_i u hu
   simp only [List.mem_singleton] at hx
   exact ⟨u, v, hx, hv, hu⟩
  ·cases hx
 have hφ := gen_fun (φ := φ) hin (fun i hi => by
  obtain ⟨u, v, e, hv, hu⟩ := hP i hi
  rw [e]
  have hlt := orbU_lt hu
  have hb := (orbF_orb vg hv)
  rw [orbU_iff vg hv] at hu
  split at hu
  ·simp only [Option.some.injEq] at hu
   show orbV g (u : Int).toNat = orbV g (v : Int).toNat
   rw [Int.toNat_natCast, Int.toNat_natCast, orbV, orbV, orbF_same vg (by omega) hv (hu ▸ hb.2.1)]
  ·cases hu) (orbP g).length (Nat.le_refl _)
 have hpair := gen_pair hin (orbP g).length (Nat.le_refl _)
 refine List.ext_getElem (by rw [hlen]; simp) fun i h1 h2 => ?_
 rw [hlen] at h1
 simp only [List.getElem_map, List.getElem_range]
 have e1 := gt_nat (l := genL g.n.length (orbP g)) (i := i) (by rw [hlen]; exact h1)
 rw [← e1]
 obtain ⟨⟨a1, a2⟩, a3⟩ := hid i (by rw [gen_len]; exact h1)
 obtain ⟨b1, b2, b3⟩ := orbF_orb vg h1
 have h3 : gt (genL g.n.length (orbP g)) (orbF g i i 0 : Nat) = gt (genL g.n.length (orbP g)) (i : Int) := by
  by_cases hlt : orbF g i i 0 < i
  ·have hm : (⟨(orbF g i i 0 : Nat), i⟩ : Pr) ∈ orbP g := by
    refine List.mem_flatMap.2 ⟨i, List.mem_range.2 h1, ?_⟩
    unfold orbS
    rw [orbU_iff vg h1, if_pos hlt]
    exact List.mem_singleton.2 rfl
   obtain ⟨k, hk, e⟩ := List.mem_iff_getElem.1 hm
   have := hpair k hk
   rw [gt_nat hk, e] at this
   exact this
  ·rw [show orbF g i i 0 = i by omega]
 have h4 := hid (orbF g i i 0) (by rw [gen_len]; omega)
 have h5 := hφ i h1
 show gt (genL g.n.length (orbP g)) (i : Int) = orbV g i
 change gt (genI g.n.length (orbP g) (orbP g).length) _ = gt (genI g.n.length (orbP g) (orbP g).length) _ at h3
 change gt (genI g.n.length (orbP g) (orbP g).length) _ = _
 obtain ⟨r, hr⟩ := Int.eq_ofNat_of_zero_le a1
 rw [hr] at h5 a2
 have hrl : r < g.n.length := by omega
 have c1 := (orbF_orb vg hrl).1
 have h5' : orbV g r = orbV g i := by
  have : φ (r : Int) = φ (i : Int) := h5
  simpa only [φ, Int.toNat_natCast] using this
 rw [orbV, orbV] at h5'
 rw [h3, hr] at h4
 rw [hr, orbV]
 omega
theorem orb_same (g : G) : orbR g = orbRf g := by
 unfold orbR orbRf
 split
 ·rename_i h
  split
  ·rfl
  ·rw [gen_orb h]
 ·rfl
end
section
theorem perm_inj {p : List Int} {n : Nat} (hp : p.Perm (nums 0 n)) {i k : Int} (hi : 0 ≤ i ∧ i < n) (hk : 0 ≤ k ∧ k < n) (e : gt p i = gt p k) : i = k := by
 have hl : p.length = n := by rw [hp.length_eq, nums_len]
 have hnd : p.Nodup := hp.nodup_iff.2 (by
  unfold nums
  rw [List.nodup_iff_pairwise_ne, List.pairwise_map]
  exact List.Pairwise.imp (fun h e => h (by omega)) (List.nodup_iff_pairwise_ne.1 List.nodup_range))
 obtain ⟨a, rfl⟩ := Int.eq_ofNat_of_zero_le hi.1
 obtain ⟨b, rfl⟩ := Int.eq_ofNat_of_zero_le hk.1
 rw [gt_nat (by omega), gt_nat (by omega)] at e
 rw [List.nodup_iff_pairwise_ne, List.pairwise_iff_getElem] at hnd
 rcases Nat.lt_trichotomy a b with h | h | h
 ·exact absurd e (hnd a b (by omega) (by omega) h)
 ·omega
 ·exact absurd e.symm (hnd b a (by omega) (by omega) h)
theorem putO_gt {α : Type} [Inhabited α] {p : List Int} {l : List α} (hp : p.Perm (nums 0 l.length)) : ∀ k, k ≤ l.length → ∀ i : Nat, i < k → gt (putO p l k) (gt p (i : Int)) = gt l (i : Int)
 | 0, _, i, hi => by omega
 | k + 1, hk, i, hi => by
  have r1 := perm_inO hp (j := (i : Int)) (by omega) (by omega)
  have r2 := perm_inO hp (j := (k : Int)) (by omega) (by omega)
  have hlen := putO_len p l k
  obtain ⟨a, ha⟩ := Int.eq_ofNat_of_zero_le r1.1
  obtain ⟨b, hb⟩ := Int.eq_ofNat_of_zero_le r2.1
  rw [putO, hb, Int.toNat_natCast]
  rcases Nat.lt_or_ge i k with h | h
  ·have ih := putO_gt hp k (by omega) i h
   have hne : a ≠ b := fun e => by
    have := perm_inj hp (i := (i : Int)) (k := (k : Int)) (by omega) (by omega) (by rw [ha, hb, e])
    omega
   rw [ha] at ih ⊢
   rw [gt_nat (by rw [List.length_set, hlen]; omega), List.getElem_set, if_neg (fun e => hne e.symm), ← ih, gt_nat (l := putO p l k) (by rw [hlen]; omega)]
  ·obtain rfl : i = k := by omega
   have : a = b := by omega
   rw [ha, this, gt_nat (by rw [List.length_set, hlen]; omega), List.getElem_set, if_pos rfl]
theorem putO_perm {α : Type} [Inhabited α] {p : List Int} {l : List α} (hp : p.Perm (nums 0 l.length)) : (putO p l l.length).Perm l := by
 have hl : p.length = l.length := by rw [hp.length_eq, nums_len]
 have e1 : l = p.map fun x => gt (putO p l l.length) x := by
  refine List.ext_getElem (by simp [hl]) fun i h1 h2 => ?_
  have := putO_gt hp l.length (Nat.le_refl _) i h1
  rw [gt_nat h1, gt_nat (l := p) (by omega)] at this
  rw [List.getElem_map]
  exact this.symm
 have e2 : putO p l l.length = (nums 0 l.length).map fun x => gt (putO p l l.length) x := by
  refine List.ext_getElem (by simp [putO_len, nums_len]) fun i h1 h2 => ?_
  rw [putO_len] at h1
  rw [List.getElem_map]
  have : (nums 0 l.length)[i]'(by rw [nums_len]; exact h1) = (i : Int) := by
   have := nums_gt h1
   rw [gt_nat (by rw [nums_len]; exact h1)] at this
   exact this
  rw [this, gt_nat (by rw [putO_len]; exact h1)]
 have := (hp.map fun x => gt (putO p l l.length) x).symm
 rw [← e2, ← e1] at this
 exact this
theorem oth_len (g : G) (p q : List Int) : (othG g p q).n.length = g.n.length ∧ (othG g p q).e.length = g.e.length := by
 refine ⟨putO_len _ _ _, ?_⟩
 simp only [othG]
 rw [putO_len, List.length_map]
theorem oth_eperm {g : G} {p q : List Int} (hq : q.Perm (nums 0 g.e.length)) : (othG g p q).e.Perm (g.e.map (mapO p)) := by
 have := putO_perm (p := q) (l := g.e.map (mapO p)) (by rw [List.length_map]; exact hq)
 rw [List.length_map] at this
 exact this
theorem oth_valid {g : G} {p q : List Int} (vg : validG g = 0) (hp : p.Perm (nums 0 g.n.length)) (hq : q.Perm (nums 0 g.e.length)) : validG (othG g p q) = 0 := by
 obtain ⟨h1, h2, h3, h4⟩ := valid_spec vg
 obtain ⟨l1, l2⟩ := oth_len g p q
 refine valid_mk (by omega) (by omega) (fun x hx => h3 x ((putO_perm hp).mem_iff.1 hx)) fun x hx => ?_
 obtain ⟨y, hy, rfl⟩ := List.mem_map.1 ((oth_eperm hq).mem_iff.1 hx)
 have := h4 y hy
 rw [l1]
 simp only [fitsE, Bool.and_eq_true, decide_eq_true_eq] at this ⊢
 have a1 := perm_inO hp (j := y.f) (by omega) (by omega)
 have a2 := perm_inO hp (j := y.o) (by omega) (by omega)
 simp only [mapO]
 omega
theorem oth_iso {g : G} {p q : List Int} (vg : InG g) (hp : p.Perm (nums 0 g.n.length)) (hq : q.Perm (nums 0 g.e.length)) : NIso g (othG g p q) p := by
 have hl : p.length = g.n.length := by rw [hp.length_eq, nums_len]
 obtain ⟨l1, l2⟩ := oth_len g p q
 refine ⟨hl, fun i hi => ?_, fun i k hi hk e => ?_, fun i hi => ?_, fun t i k hi hk => ?_⟩
 ·rw [l1]
  exact perm_inO hp (by omega) (by omega)
 ·have := perm_inj hp (i := (i : Int)) (k := (k : Int)) (by omega) (by omega) e
  omega
 ·exact (putO_gt hp g.n.length (Nat.le_refl _) i hi).symm
 ·rw [numL_count, numL_count, (oth_eperm hq).count_eq, List.count_eq_countP, List.count_eq_countP, List.countP_map]
  refine List.countP_congr fun x hx => ?_
  have hv := vg.2.2 x hx
  obtain ⟨xt, xf, xo⟩ := x
  simp only [Function.comp_apply, mapO, beq_iff_eq, E.mk.injEq] at hv ⊢
  constructor
  ·rintro ⟨rfl, rfl, rfl⟩
   exact ⟨rfl, rfl, rfl⟩
  ·rintro ⟨h1, h2, h3⟩
   exact ⟨h1, perm_inj hp ⟨hv.1, hv.2.1⟩ (by omega) h2, perm_inj hp ⟨hv.2.2.1, hv.2.2.2⟩ (by omega) h3⟩
theorem isos_nodup (a b : G) : (isos a b).Nodup := by
 have key : ∀ l : List (List Int), l.Nodup → (l.flatMap (imM a b)).Nodup := fun l => by
  induction l with
  | nil => intro _; simp
  | cons x l ih =>
   intro hn
   rw [List.nodup_cons] at hn
   rw [List.flatMap_cons, List.nodup_append]
   refine ⟨?_, ih hn.2, fun u hu v hv e => ?_⟩
   ·rw [imM, List.nodup_iff_pairwise_ne, List.pairwise_map]
    have := fullN_nodup (N := b.e.length) (ok := fun es n => wnt a b x es n.toNat) a.e.length []
    rw [List.nodup_iff_pairwise_ne] at this
    exact this.imp fun h e => h (by simpa using e)
   ·subst e
    obtain ⟨es, _, rfl⟩ := List.mem_map.1 hu
    obtain ⟨y, hy, hv⟩ := List.mem_flatMap.1 hv
    obtain ⟨fs, _, e⟩ := List.mem_map.1 hv
    simp only [Mo.mk.injEq] at e
    exact hn.1 (e.1 ▸ hy)
 exact key _ (fullN_nodup _ _)
theorem isos_comp {a b c : G} (va : InG a) {m s : Mo} (hm : m ∈ isos a b) (hs : s ∈ isos b c) : thenM m s ∈ isos a c := by
 obtain ⟨h1, h2⟩ := mem_isos.1 hm
 obtain ⟨k1, k2⟩ := mem_isos.1 hs
 obtain ⟨e1, e2, e3, e4⟩ := mem_imE.1 h2
 obtain ⟨f1, f2, f3, f4⟩ := mem_imE.1 k2
 refine mem_isos.2 ⟨h1.comp k1, mem_imE.2 ⟨?_, ?_, ?_, ?_⟩⟩
 ·simp only [thenM, thr_len]; exact e1
 all_goals
  have hg : ∀ i : Nat, i < a.e.length → ∃ j : Nat, j < b.e.length ∧ gt m.e (i : Int) = j ∧ gt (thr m.e s.e) (i : Int) = gt s.e (j : Int) := fun i hi => by
   have hr := e2 i hi
   obtain ⟨j, hj⟩ := Int.eq_ofNat_of_zero_le hr.1
   exact ⟨j, by omega, hj, by rw [thr_gt (by omega), hj]⟩
  simp only [thenM]
 ·intro i hi
  obtain ⟨j, hj, h3, h4⟩ := hg i hi
  rw [h4]
  exact f2 j hj
 ·intro i k hi hk e
  obtain ⟨j, hj, h3, h4⟩ := hg i hi
  obtain ⟨p, hp, h5, h6⟩ := hg k hk
  rw [h4, h6] at e
  have := f3 j p hj hp e
  exact e3 i k hi hk (by rw [h3, h5, this])
 ·intro i hi
  obtain ⟨j, hj, h3, h4⟩ := hg i hi
  have h5 := e4 i hi
  have h6 := f4 j hj
  rw [h3] at h5
  rw [h4, h6, h5]
  have hv := va.2.2 _ (gt_mem (l := a.e) (j := (i : Int)) (by omega) (by omega))
  generalize gt a.e (i : Int) = x at *
  obtain ⟨xt, xf, xo⟩ := x
  simp only [mapE] at hv ⊢
  have g1 : gt (thr m.n s.n) xf = gt s.n (gt m.n xf) := by
   obtain ⟨u, rfl⟩ := Int.eq_ofNat_of_zero_le hv.1
   exact thr_gt (by have := h1.len; omega)
  have g2 : gt (thr m.n s.n) xo = gt s.n (gt m.n xo) := by
   obtain ⟨u, rfl⟩ := Int.eq_ofNat_of_zero_le hv.2.2.1
   exact thr_gt (by have := h1.len; omega)
  rw [g1, g2]
theorem isos_inj {a b c : G} {m n s : Mo} (hm : m ∈ isos a b) (hn : n ∈ isos a b) (hs : s ∈ isos b c) (e : thenM m s = thenM n s) : m = n := by
 obtain ⟨h1, h2⟩ := mem_isos.1 hm
 obtain ⟨g1, g2⟩ := mem_isos.1 hn
 obtain ⟨k1, k2⟩ := mem_isos.1 hs
 obtain ⟨e1, e2, _, _⟩ := mem_imE.1 h2
 obtain ⟨d1, d2, _, _⟩ := mem_imE.1 g2
 obtain ⟨f1, f2, f3, _⟩ := mem_imE.1 k2
 simp only [thenM, Mo.mk.injEq] at e
 have hn1 : m.n = n.n := by
  refine List.ext_getElem (by rw [h1.len, g1.len]) fun i hi1 hi2 => ?_
  have hi : i < a.n.length := by have := h1.len; omega
  have t : gt (thr m.n s.n) (i : Int) = gt (thr n.n s.n) (i : Int) := by rw [e.1]
  rw [thr_gt hi1, thr_gt hi2] at t
  have := k1.inj' (h1.rng i hi) (g1.rng i hi) t
  rw [gt_nat hi1, gt_nat hi2] at this
  exact this
 have he1 : m.e = n.e := by
  refine List.ext_getElem (by rw [e1, d1]) fun i hi1 hi2 => ?_
  have hi : i < a.e.length := by omega
  have t : gt (thr m.e s.e) (i : Int) = gt (thr n.e s.e) (i : Int) := by rw [e.2]
  rw [thr_gt hi1, thr_gt hi2] at t
  have r1 := e2 i hi
  have r2 := d2 i hi
  obtain ⟨u, hu⟩ := Int.eq_ofNat_of_zero_le r1.1
  obtain ⟨v, hv⟩ := Int.eq_ofNat_of_zero_le r2.1
  rw [hu, hv] at t
  have := f3 u v (by omega) (by omega) t
  rw [gt_nat hi1] at hu
  rw [gt_nat hi2] at hv
  omega
 obtain ⟨_, _⟩ := m
 obtain ⟨_, _⟩ := n
 simp only at hn1 he1
 rw [hn1, he1]
theorem isos_le {a b c : G} (va : InG a) {s : Mo} (hs : s ∈ isos b c) : (isos a b).length ≤ (isos a c).length := by
 have hnd : ((isos a b).map fun m => thenM m s).Nodup := by
  rw [List.nodup_iff_pairwise_ne, List.pairwise_map]
  have := isos_nodup a b
  rw [List.nodup_iff_pairwise_ne] at this
  exact List.Pairwise.imp_of_mem (fun {m n} hm hn hne e => hne (isos_inj hm hn hs e)) this
 have hsub : ((isos a b).map fun m => thenM m s) ⊆ isos a c := fun x hx => by
  obtain ⟨m, hm, rfl⟩ := List.mem_map.1 hx
  exact isos_comp va hm hs
 have := List.Nodup.length_le_of_subset hnd hsub
 simpa using this
theorem isos_count {a b : G} {l : List Int} (h : NIso a b l) (va : InG a) (vb : InG b) (hn : a.n.length = b.n.length) : (isos a b).length = (isos a a).length := by
 obtain ⟨es, h1⟩ := h.ex va vb hn
 obtain ⟨fs, h2⟩ := (h.inv hn).1.ex vb va hn.symm
 have := isos_le va h1
 have := isos_le va h2
 omega
end
section
variable (P : Program) (F : String → Nat)
end
section
theorem stabL_len (g : G) : (stabL g).length = g.n.length := by
 have key : ∀ (k : Nat) (s : List (List Int)), s.length = g.n.length → (stb g k s).length = g.n.length := fun k => by
  induction k with
  | zero => intro s h; rw [stb, colL_length, h]
  | succ k ih =>
   intro s h
   rw [stb]
   split
   ·rw [colL_length, h]
   ·exact ih _ (nextL_length g _)
 exact key _ _ (frstL_length _)
theorem othR_ok {g : G} {cs : List Int} (vg : validG g = 0) (hb : ∀ v ∈ cs, Byte v) : validG (othR g cs).1 = 0 ∧ (othR g cs).1.n.length = g.n.length ∧ (othR g cs).1.e.length = g.e.length ∧ NIso g (othR g cs).1 (othR g cs).2.n :=
 ⟨oth_valid vg (shfL_perm hb) (shfL_perm hb), (oth_len _ _ _).1, (oth_len _ _ _).2, oth_iso (InG.of_valid vg) (shfL_perm hb) (shfL_perm hb)⟩
theorem bothE_ok {a b : G} (va : validG a = 0) (vb : validG b = 0) : bothE a b = 0 := by rw [bothE, if_pos va, vb]
end
section
variable {P : Program} {F : String → Nat} {α : Type}
end
@[go_sem] def c_l08_IsoCounts_r0 : LL := [qB 2 0,qb 4 false]
@[go_sem] def c_l08_IsoCounts_r1 (F : Fn) : LL := [qc 22 (F "l08.awake") [],qv 23 22,qm 24 23,qg 24 false (qf 25 0 2),qg 24 false (ql 26 1 25),qg 24 false (qz 27 26),qg 24 false (qk .gtr 28 27 6),qQ 29 24 28,qm 30 29,qg 30 false (qf 31 1 2),
 qg 30 false (ql 32 1 31),qg 30 false (qz 33 32),qg 30 false (qk .gtr 34 33 8),qQ 35 30 34]
@[go_sem] def c_l08_IsoCounts_r2 (F : Fn) : LL := [qc 36 (F "l08.awake") [],qm 4 36]
@[go_sem] def c_l08_IsoCounts_r3 (F : Fn) : LL := [qL 37 2 2,qc 38 (F "r05.Made") [.t 37],qa 5 [.nl 1,.nl 3],qs 2 5 38]
@[go_sem] def c_l08_IsoCounts_r4 (F : Fn) : LL := [qL 40 2 5,qm 41 1,qc 42 (F "l08.other") [.t 40,.t 41],qm 39 42,qx 43 39 0,qx 44 39 1,qa 6 [.nl 1,.nl 3],qa 7 [.nl 1,.nl 1],qs 2 6 43,qs 2 7 44]
@[go_sem] def c_l08_IsoCounts_r5 (F : Fn) : LL := [qL 46 2 5,qL 47 2 6,qc 48 (F "iso.All") [.t 46,.t 47],qm 45 48,qx 49 45 0,qx 50 45 1,qm 8 49,qm 9 50]
@[go_sem] def c_l08_IsoCounts_r6 (F : Fn) : LL := [qL 52 2 5,qL 53 2 5,qc 54 (F "iso.All") [.t 52,.t 53],qm 51 54,qx 55 51 0,qx 56 51 1,qm 10 55,qm 11 56]
@[go_sem] def c_l08_IsoCounts_r7 (F : Fn) : LL := [qL 58 2 5,qc 59 (F "iso.Orbits") [.t 58],qm 57 59,qx 60 57 0,qx 61 57 1,qm 12 60,qm 13 61]
@[go_sem] def c_l08_IsoCounts_r8 (F : Fn) : LL := [qL 63 2 5,qc 64 (F "iso.Refine") [.t 63],qm 62 64,qx 65 62 0,qx 66 62 1,qm 14 65,qm 15 66]
@[go_sem] def c_l08_IsoCounts_r9 : LL := [qm 67 9,qm 68 11,qo .neq 69 67 68,qm 70 69,qg 70 false (qm 71 8),qg 70 false (qz 72 71),qg 70 false (qm 73 10),qg 70 false (qz 74 73),qg 70 false (qo .neq 75 72 74),qQ 76 70 75,
 qm 77 76,qg 77 false (qm 78 13),qg 77 false (qk .neq 79 78 0),qQ 80 77 79,qm 81 80,qg 81 false (qm 82 15),qg 81 false (qk .neq 83 82 0),qQ 84 81 83,qm 85 84,qg 85 false (qm 86 12),
 qg 85 false (qz 87 86),qg 85 false (qf 88 0 5),qg 85 false (ql 89 1 88),qg 85 false (qz 90 89),qg 85 false (qo .neq 91 87 90),qQ 92 85 91,qm 93 92,qg 93 false (qm 94 14),
 qg 93 false (qz 95 94),qg 93 false (qm 96 12),qg 93 false (qz 97 96),qg 93 false (qo .neq 98 95 97),qQ 99 93 98]
@[go_sem] def c_l08_IsoCounts_r10 : LL := [qb 4 false]
@[go_sem] def c_l08_IsoCounts_r11 : LL := [qm 100 12,qz 101 100,qi 102 0]
@[go_sem] def c_l08_IsoCounts_r12 : LL := [qo .lss 103 102 101]
@[go_sem] def c_l08_IsoCounts_r13 : LL := [qm 104 102,qd 105 1 100 102,ql 106 1 105,qm 16 104,qm 17 106]
@[go_sem] def c_l08_IsoCounts_r14 : LL := [qm 107 17,qk .lss 108 107 0,qm 109 108,qg 109 false (qm 110 17),qg 109 false (qm 111 16),qg 109 false (qo .gtr 112 110 111),qQ 113 109 112,qm 114 113,qg 114 false (qm 115 14),
 qg 114 false (qm 116 16),qg 114 false (qd 117 1 115 116),qg 114 false (ql 118 1 117),qg 114 false (qm 119 14),qg 114 false (qm 120 17),qg 114 false (qd 121 1 119 120),
 qg 114 false (ql 122 1 121),qg 114 false (qo .neq 123 118 122),qQ 124 114 123]
@[go_sem] def c_l08_IsoCounts_r15 : LL := [qb 4 false]
@[go_sem] def c_l08_IsoCounts_r16 : LL := [qk .add 125 102 1,qm 102 125]
def c_l08_IsoCounts_b17 : LC := (.seq (.reg c_l08_IsoCounts_r12 [9,10,12,14,100,101,102,103]) (.seq (.cond (.t 103) .skip (.exit 0)) (.seq (.block 1 (.seq (.reg c_l08_IsoCounts_r13 [9,10,12,14,16,17,100,101,102]) (.seq (.dreg [] c_l08_IsoCounts_r14 [9,10,12,14,100,101,102,124]) (.cond (.t 124) (.seq (.reg c_l08_IsoCounts_r15 [4]) .ret) .skip)))) (.reg c_l08_IsoCounts_r16 [9,10,12,14,100,101,102]))))
@[go_sem] def c_l08_IsoCounts_r18 : LL := [qm 126 10,qz 127 126,qi 128 0]
@[go_sem] def c_l08_IsoCounts_r19 : LL := [qo .lss 129 128 127]
@[go_sem] def c_l08_IsoCounts_r20 : LL := [qd 130 2 126 128,qL 131 2 130,qa 19 [.nl 1,.nl 1],qs 2 19 131]
@[go_sem] def c_l08_IsoCounts_r21 : LL := [qf 132 0 19,ql 133 1 132,qz 134 133,qi 135 0]
@[go_sem] def c_l08_IsoCounts_r22 : LL := [qo .lss 136 135 134]
@[go_sem] def c_l08_IsoCounts_r23 : LL := [qm 137 135,qd 138 1 133 135,ql 139 1 138,qm 20 137,qm 21 139]
@[go_sem] def c_l08_IsoCounts_r24 : LL := [qm 140 20,qm 141 12,qz 142 141,qo .geq 143 140 142,qm 144 143,qg 144 false (qm 145 21),qg 144 false (qm 146 12),qg 144 false (qz 147 146),qg 144 false (qo .geq 148 145 147),
 qQ 149 144 148,qm 150 149,qg 150 false (qm 151 21),qg 150 false (qk .lss 152 151 0),qQ 153 150 152,qm 154 153,qg 154 false (qm 155 12),qg 154 false (qm 156 20),
 qg 154 false (qd 157 1 155 156),qg 154 false (ql 158 1 157),qg 154 false (qm 159 12),qg 154 false (qm 160 21),qg 154 false (qd 161 1 159 160),qg 154 false (ql 162 1 161),
 qg 154 false (qo .neq 163 158 162),qQ 164 154 163]
@[go_sem] def c_l08_IsoCounts_r25 : LL := [qb 4 false]
@[go_sem] def c_l08_IsoCounts_r26 : LL := [qk .add 165 135 1,qm 135 165]
def c_l08_IsoCounts_b27 : LC := (.seq (.reg c_l08_IsoCounts_r22 [9,12,126,127,128,133,134,135,136]) (.seq (.cond (.t 136) .skip (.exit 4)) (.seq (.block 5 (.seq (.reg c_l08_IsoCounts_r23 [9,12,20,21,126,127,128,133,134,135]) (.seq (.dreg [] c_l08_IsoCounts_r24 [9,12,126,127,128,133,134,135,164]) (.cond (.t 164) (.seq (.reg c_l08_IsoCounts_r25 [4]) .ret) .skip)))) (.reg c_l08_IsoCounts_r26 [9,12,126,127,128,133,134,135]))))
@[go_sem] def c_l08_IsoCounts_r28 : LL := [qk .add 166 128 1,qm 128 166]
def c_l08_IsoCounts_b29 : LC := (.seq (.reg c_l08_IsoCounts_r19 [9,12,126,127,128,129]) (.seq (.cond (.t 129) .skip (.exit 2)) (.seq (.block 3 (.seq (.reg c_l08_IsoCounts_r20 [9,12,19,126,127,128]) (.seq (.reg c_l08_IsoCounts_r21 [9,12,126,127,128,133,134,135]) (.block 4 (.loop [9,12,126,127,128,133,134,135] c_l08_IsoCounts_b27))))) (.reg c_l08_IsoCounts_r28 [9,12,126,127,128]))))
@[go_sem] def c_l08_IsoCounts_r30 : LL := [qm 167 9,qk .eql 168 167 0,qm 169 168,qg 169 false (qm 170 9),qg 169 false (qk .eql 171 170 3),qQ 172 169 171,qm 4 172]
@[go_sem] def c_l08_IsoCounts (F : Fn) : LC := (.seq (.reg c_l08_IsoCounts_r0 [1,2]) (.seq (.seq (.reg (c_l08_IsoCounts_r1 F) [1,2,35]) (.cond (.t 35) (.seq (.reg (c_l08_IsoCounts_r2 F) [4]) .ret) .skip)) (.seq (.reg (c_l08_IsoCounts_r3 F) [1,5]) (.seq (.reg (c_l08_IsoCounts_r4 F) [5,6]) (.seq (.reg (c_l08_IsoCounts_r5 F) [5,8,9]) (.seq (.reg (c_l08_IsoCounts_r6 F) [5,8,9,10,11]) (.seq (.reg (c_l08_IsoCounts_r7 F) [5,8,9,10,11,12,13]) (.seq (.reg (c_l08_IsoCounts_r8 F) [5,8,9,10,11,12,13,14,15]) (.seq (.seq (.reg c_l08_IsoCounts_r9 [9,10,12,14,99]) (.cond (.t 99) (.seq (.reg c_l08_IsoCounts_r10 [4]) .ret) .skip)) (.seq (.seq (.reg c_l08_IsoCounts_r11 [9,10,12,14,100,101,102]) (.block 0 (.loop [9,10,12,14,100,101,102] c_l08_IsoCounts_b17))) (.seq (.seq (.reg c_l08_IsoCounts_r18 [9,12,126,127,128]) (.block 2 (.loop [9,12,126,127,128] c_l08_IsoCounts_b29))) (.seq (.reg c_l08_IsoCounts_r30 [4]) .ret))))))))))))
def h_l08_IsoCounts : Hints := hOf [] (c_l08_IsoCounts fun _ => 0)
section
variable (P : Program) (F : String → Nat)
def K_l08_IsoCounts : Prop := ∀ (x : Dr) (cs : List Int), x.ok → x.n.length ≤ maxL → x.e.length ≤ maxL → cs.length ≤ maxL → (∀ v ∈ cs, Byte v) → FC P (F "l08.IsoCounts") [drD x, .lst 1 (u8s cs)] (.bool true) []
end
section
theorem madeG_len (x : Dr) : (madeG x).n.length ≤ x.n.length := by
 simp only [madeG, madeN, List.length_map, List.length_take]
 omega
theorem allP_ok {a b : G} (va : validG a = 0) (vb : validG b = 0) (hs : shpB a b = true) : allP a b = if 2000 < ((isos a b).take 2001).length then ([], 3) else ((isos a b).take 2001, 0) := by
 have hn : a.n.length = b.n.length := by
  simp only [shpB, Bool.and_eq_true, decide_eq_true_eq] at hs; exact hs.1
 rw [allP, if_pos (bothE_ok va vb), if_pos hs, isoN_isos (InG.of_valid va) (InG.of_valid vb) hn (by omega)]
 rfl
theorem allP_count {a b : G} {l : List Int} (va : validG a = 0) (vb : validG b = 0) (hs : shpB a b = true) (h : NIso a b l) : (allP a b).2 = (allP a a).2 ∧ (allP a b).1.length = (allP a a).1.length ∧ ((allP a a).2 = 0 ∨ (allP a a).2 = 3) ∧ (allP a a).1.length ≤ 2001 := by
 have hn : a.n.length = b.n.length := by
  simp only [shpB, Bool.and_eq_true, decide_eq_true_eq] at hs; exact hs.1
 have hc := isos_count h (InG.of_valid va) (InG.of_valid vb) hn
 rw [allP_ok va vb hs, allP_ok va va (by simp [shpB])]
 simp only [List.length_take]
 rw [hc]
 split
 ·exact ⟨rfl, rfl, .inr rfl, by simp⟩
 ·exact ⟨rfl, by simp only [List.length_take, hc], .inl rfl, by simp only [List.length_take]; omega⟩
theorem allP_mem {a : G} (va : validG a = 0) {m : Mo} (h : m ∈ (allP a a).1) : NIso a a m.n := by
 rw [allP_ok va va (by simp [shpB])] at h
 split at h
 ·cases h
 ·exact (mem_isos.1 (List.mem_of_mem_take h)).1
theorem orbV_ok {g : G} (vg : validG g = 0) {i : Nat} (hi : i < g.n.length) : 0 ≤ orbV g i ∧ orbV g i ≤ i ∧ gt (stabL g) (i : Int) = gt (stabL g) (orbV g i) := by
 obtain ⟨h1, ⟨l, h2, h3⟩, _⟩ := orbF_orb vg hi
 have ig := InG.of_valid vg
 refine ⟨by rw [orbV]; omega, by rw [orbV]; omega, ?_⟩
 have := h2.stab ig ig rfl (i := orbF g i i 0) (by omega)
 rw [h3] at this
 rw [orbV, this]
theorem orbV_same {g : G} (vg : validG g = 0) {i j : Nat} {l : List Int} (hl : NIso g g l) (hi : i < g.n.length) (hj : gt l (i : Int) = j) : orbV g i = orbV g j := by
 have := hl.rng i hi
 rw [orbV, orbV, orbF_same vg hi (by omega) ⟨l, hl, hj⟩]
theorem orbRf_ok {g : G} (vg : validG g = 0) (h : g.n.length ≤ 12) : orbRf g = ((List.range g.n.length).map (orbV g), 0) := by
 rw [orbRf, if_pos vg, if_neg (by omega)]
end
section
variable {P : Program} {F : String → Nat} {α : Type}
theorem w_l08_IsoCounts (hw : K_l08_awake P F) (hm : K_r05_Made P F) (ho : K_l08_other P F) (h1 : K_iso_All P F) (h2 : K_iso_Orbits P F) (h3 : K_iso_Refine P F) (x : Dr) (cs : List Int) (hx : x.ok) (l1 : x.n.length ≤ maxL) (l2 : x.e.length ≤ maxL) (l3 : cs.length ≤ maxL) (hb : ∀ v ∈ cs, Byte v) :
  W P (c_l08_IsoCounts F) (Done [.t 4] [] (.bool true) []) (init [drD x, .lst 1 (u8s cs)]) := by
 refine W_of ?_
 have r0 := hm x hx l1 l2
 have vg := madeG_valid hx
 have hml := madeG_len x
 obtain ⟨x1, x2⟩ := x
 simp only [drD] at *
 generalize madeG ⟨x1, x2⟩ = g at *
 by_cases c6 : (6 : Int) < x1.length
 ·have d6 := decide_eq_true c6
  simp only [gD, gA] at *
  simp (disch := omega) only [go_sem, ↓reduceIte, d6]
  refine call_by hw ?_
  simp (disch := omega) only [go_sem, ↓reduceIte, d6]
  refine call_by hw ?_
  simp (disch := omega) only [go_sem, ↓reduceIte]
 have d6 := decide_eq_false c6
 by_cases c8 : (8 : Int) < x2.length
 ·have d8 := decide_eq_true c8
  simp only [gD, gA] at *
  simp (disch := omega) only [go_sem, ↓reduceIte, d6, d8]
  refine call_by hw ?_
  simp (disch := omega) only [go_sem, ↓reduceIte, d6, d8]
  refine call_by hw ?_
  simp (disch := omega) only [go_sem, ↓reduceIte]
 have d8 := decide_eq_false c8
 have ig := InG.of_valid vg
 obtain ⟨vb, n1, n2, hN⟩ := othR_ok (cs := cs) vg hb
 have r1 := ho g cs ig l3 hb
 have r2 := h1 g (othR g cs).1
 have r3 := h1 g g
 have r4 := h2 g
 have r5 := h3 g
 obtain ⟨k1, k2, k3, k4⟩ := allP_count vg vb (by simp [shpB, n1, n2]) hN
 have k5 := fun m => allP_mem vg (m := m)
 rw [orb_same, orbRf_ok vg (by omega)] at r4
 rw [refD, if_pos vg] at r5
 have c4 := stabL_len g
 have o0 : ((List.range g.n.length).map (orbV g)).length = g.n.length := by simp
 have og : ∀ i : Nat, i < g.n.length → gt ((List.range g.n.length).map (orbV g)) (i : Int) = orbV g i := fun i hi => by
  rw [gt_nat (by simp; exact hi)]
  simp
 have o1 : ∀ i : Nat, i < g.n.length → 0 ≤ gt ((List.range g.n.length).map (orbV g)) (i : Int) ∧ gt ((List.range g.n.length).map (orbV g)) (i : Int) ≤ i ∧ gt (stabL g) (i : Int) = gt (stabL g) (gt ((List.range g.n.length).map (orbV g)) (i : Int)) := fun i hi => by
  rw [og i hi]; exact orbV_ok vg hi
 have o2 : ∀ m, m ∈ (allP g g).1 → m.n.length = g.n.length ∧ ∀ i : Nat, i < g.n.length → 0 ≤ gt m.n (i : Int) ∧ gt m.n (i : Int) < g.n.length ∧ gt ((List.range g.n.length).map (orbV g)) (i : Int) = gt ((List.range g.n.length).map (orbV g)) (gt m.n (i : Int)) := fun m hm => by
  have hl := k5 m hm
  refine ⟨hl.len, fun i hi => ?_⟩
  have hr := hl.rng i hi
  obtain ⟨j, hj⟩ := Int.eq_ofNat_of_zero_le hr.1
  refine ⟨hr.1, hr.2, ?_⟩
  rw [hj, og i hi, og j (by omega)]
  exact orbV_same vg hl hi hj
 clear og k5
 generalize (List.range g.n.length).map (orbV g) = O at *
 generalize stabL g = X at *
 generalize (allP g (othR g cs).1).2 = e1 at *
 generalize (allP g (othR g cs).1).1 = A at *
 generalize (allP g g).2 = e2 at *
 generalize (allP g g).1 = B at *
 clear hN vb
 generalize (othR g cs).1 = b at *
 generalize (othR g cs).2 = m at *
 clear ho h1 h2 h3 hm
 have g1 := ig.1
 subst k1
 obtain ⟨gn, ge⟩ := g
 obtain ⟨bn, be⟩ := b
 obtain ⟨mn, me⟩ := m
 simp only [gD, gA, mA] at *
 have d1 : decide ((A.length : Int) = B.length) = true := decide_eq_true (by omega)
 have d2 : decide ((O.length : Int) = gn.length) = true := decide_eq_true (by omega)
 have d3 : decide ((X.length : Int) = O.length) = true := decide_eq_true (by omega)
 have d0 : decide (e1 = e1) = true := decide_eq_true rfl
 cases f1 : (pts A).all D.flatE <;> cases f2 : (pts B).all D.flatE
 all_goals
  simp (disch := omega) only [go_sem, ↓reduceIte, d6, d8]
  refine call_by hw ?_
  simp (disch := omega) only [go_sem, ↓reduceIte, d6, d8]
  refine call_by r0 ?_
  simp (disch := omega) only [go_sem, ↓reduceIte]
  refine call_by r1 ?_
  simp (disch := omega) only [go_sem, ↓reduceIte]
  refine call_by r2 ?_
  simp (disch := omega) only [go_sem, ↓reduceIte, f1, f2]
  refine call_by r3 ?_
  simp (disch := omega) only [go_sem, ↓reduceIte, f1, f2]
  refine call_by r4 ?_
  simp (disch := omega) only [go_sem, ↓reduceIte, f1, f2]
  refine call_by r5 ?_
  simp (disch := omega) only [go_sem, ↓reduceIte, f1, f2, d0, d1, d2, d3]
  refine W_loop (fun i : Nat => ⟨[(9, .int .i64 e1), (10, .sl 0 0 B.length), (12, .sl 1 0 O.length), (14, .lst 1 (ints X)), (100, .sl 1 0 O.length), (101, .int .i64 O.length), (102, .int .i64 i)], [(0, .arr 2 (pts B)), (1, .arr 1 (ints O))], 2⟩) (fun i => i ≤ O.length) (fun i => O.length - i) 0 ?_ ?_ ?_
  ·simp (disch := omega) only [go_sem, ↓reduceIte]
   rfl
  ·omega
  ·intro i hi
   simp (disch := omega) only [go_sem, ↓reduceIte, c_l08_IsoCounts_b17]
   refine bran_dec (fun c => ?_) (fun c => ?_)
   ·obtain ⟨q1, q2, q3⟩ := o1 i (by omega)
    have t1 : decide (gt O (i : Int) < 0) = false := decide_eq_false (by omega)
    have t2 : decide ((i : Int) < gt O (i : Int)) = false := decide_eq_false (by omega)
    have t3 : decide (gt X (i : Int) = gt X (gt O (i : Int))) = true := decide_eq_true q3
    simp (disch := omega) only [go_sem, ↓reduceIte, t1, t2, t3]
    exact ⟨i + 1, by simp, by omega, by omega⟩
   ·simp (disch := omega) only [go_sem, ↓reduceIte]
    refine W_loop (fun i : Nat => ⟨[(9, .int .i64 e1), (12, .sl 0 0 O.length), (126, .sl 1 0 B.length), (127, .int .i64 B.length), (128, .int .i64 i)], [(0, .arr 1 (ints O)), (1, .arr 2 (pts B))], 2⟩) (fun i => i ≤ B.length) (fun i => B.length - i) 0 ?_ ?_ ?_
    ·simp (disch := omega) only [go_sem, ↓reduceIte]
     rfl
    ·omega
    ·intro i hi
     simp (disch := omega) only [go_sem, ↓reduceIte, c_l08_IsoCounts_b29]
     refine bran_dec (fun c => ?_) (fun c => ?_)
     ·obtain ⟨w1, w2⟩ := o2 (gt B (i : Int)) (gt_mem (by omega) (by omega))
      have hat : (pts B)[i]? = some (.agg [.lst 1 (ints (gt B (i : Int)).n), .lst 1 (ints (gt B (i : Int)).e)]) := by
       rw [gt_nat (by omega)]
       simp [pts, mD, show i < B.length by omega]
      generalize gt B (i : Int) = z at *
      obtain ⟨zn, ze⟩ := z
      simp only at w1 w2 hat
      simp (disch := omega) only [go_sem, ↓reduceIte, hat]
      refine W_loop (fun k : Nat => ⟨[(9, .int .i64 e1), (12, .sl 0 0 O.length), (126, .sl 1 0 B.length), (127, .int .i64 B.length), (128, .int .i64 i), (133, .lst 1 (ints zn)), (134, .int .i64 zn.length), (135, .int .i64 k)], [(0, .arr 1 (ints O)), (1, .arr 2 (pts B))], 2⟩) (fun k => k ≤ zn.length) (fun k => zn.length - k) 0 ?_ ?_ ?_
      ·simp (disch := omega) only [go_sem, ↓reduceIte]
       rfl
      ·omega
      ·intro k hk
       simp (disch := omega) only [go_sem, ↓reduceIte, c_l08_IsoCounts_b27]
       refine bran_dec (fun e => ?_) (fun e => ?_)
       ·obtain ⟨w3, w4, w5⟩ := w2 k (by omega)
        have t0 : decide ((O.length : Int) ≤ k) = false := decide_eq_false (by omega)
        have t1 : decide ((O.length : Int) ≤ gt zn (k : Int)) = false := decide_eq_false (by omega)
        have t2 : decide (gt zn (k : Int) < 0) = false := decide_eq_false (by omega)
        have t3 : decide (gt O (k : Int) = gt O (gt zn (k : Int))) = true := decide_eq_true w5
        simp (disch := omega) only [go_sem, ↓reduceIte, t0, t1, t2, t3]
        exact ⟨k + 1, by simp, by omega, by omega⟩
       ·simp (disch := omega) only [go_sem, ↓reduceIte]
        exact ⟨i + 1, by simp, by omega, by omega⟩
     ·rcases k3 with rfl | rfl
      ·simp (disch := omega) only [go_sem, ↓reduceIte, show decide ((0 : Int) = 0) = true from rfl]
      ·simp (disch := omega) only [go_sem, ↓reduceIte, show decide ((3 : Int) = 0) = false from rfl, show decide ((3 : Int) = 3) = true from rfl]
theorem x_l08_IsoCounts (h : K_l08_IsoCounts P F) (args : List D) (ha : HasEls [shDr, shU8s] args) : FC P (F "l08.IsoCounts") args (.bool true) [] := by
 simp only [HasEls] at ha
 obtain ⟨_, _, rfl, h1, _, _, rfl, h2, rfl⟩ := ha
 obtain ⟨x, rfl, a1, a2, a3⟩ := rd_draft h1
 obtain ⟨c, rfl, c1, c2⟩ := rd_u8s h2
 exact h x c a1 a2 a3 c2 c1
end
end Go.Am
