/- Drafts of graphs; what laws take. -/
import Derived.Test.YtelmgaflhmcihaaGreatSpPa
import Derived.Test.YtelmgaflhmcihaaGreatSpPb
import Derived.Test.YtelmgaflhmcihaaGreatSpPc
import Derived.Test.YtelmgaflhmcihaaGreatSpPd
import Derived.Test.YtelmgaflhmcihaaGreatSpPe
namespace Go.Am
open Go
set_option linter.unusedVariables false
set_option linter.unusedSimpArgs false
@[go_sem] def c_r05_Made_r0 : LL := [qB 1 0,qa 2 [.nl 1,.nl 3]]
@[go_sem] def c_r05_Made_r1 : LL := [qa 3 [.nl 1,.nl 3]]
@[go_sem] def c_r05_Made_r2 : LL := [qi 4 0]
@[go_sem] def c_r05_Made_r3 : LL := [qm 7 4,qf 8 0 1,ql 9 1 8,qz 10 9,qo .lss 11 7 10,qm 12 11,qg 12 true (qm 13 4),qg 12 true (qk .lss 14 13 8),qP 15 12 14]
@[go_sem] def c_r05_Made_r4 : LL := [qf 18 0 3,ql 19 1 18,qf 20 0 1,ql 21 1 20,qm 22 4,qd 23 1 21 22,ql 24 1 23,⟨some 25,.bin .rem (.t 24) (.k (.int .u8 (3))),none⟩,⟨some 26,.conv .i64 (.t 25),none⟩,
 ⟨some 27,.buildSl 1 8 (.int .i64 (0)) 1 [(0,.t 26)],none⟩,qp 28 1 8 19 27,qf 29 0 3,qs 1 29 28]
@[go_sem] def c_r05_Made_r5 : LL := [qm 16 4,qk .add 17 16 1,qm 4 17]
def c_r05_Made_b6 : LC := (.seq (.seq (.reg c_r05_Made_r3 [1,2,3,4,15]) (.cond (.t 15) .skip (.exit 0))) (.seq (.block 1 (.dreg [(1,none,[],true),(9,none,[1],false)] c_r05_Made_r4 [1,2,3,4])) (.reg c_r05_Made_r5 [1,2,3,4])))
@[go_sem] def c_r05_Made_r7 : LL := [qf 30 0 3,ql 31 1 30,qz 32 31,qm 5 32]
@[go_sem] def c_r05_Made_r8 : LL := [qi 6 0]
@[go_sem] def c_r05_Made_r9 : LL := [qm 33 6,qf 34 1 1,ql 35 1 34,qz 36 35,qo .lss 37 33 36,qm 38 37,qg 38 true (qm 39 6),qg 38 true (qk .lss 40 39 10),qP 41 38 40,qm 42 41,qg 42 true (qm 43 5),
 qg 42 true (qk .gtr 44 43 0),qP 45 42 44]
@[go_sem] def c_r05_Made_r10 : LL := [qf 48 1 3,ql 49 1 48,qf 50 1 1,ql 51 1 50,qm 52 6,qd 53 3 51 52,⟨some 54,.iaa 3 1 (.t 53) (.k (.int .i64 (0))),none⟩,ql 55 1 54,
 ⟨some 56,.bin .rem (.t 55) (.k (.int .u8 (2))),none⟩,⟨some 57,.conv .i64 (.t 56),none⟩,qf 58 1 1,ql 59 1 58,qm 60 6,qd 61 3 59 60,
 ⟨some 62,.iaa 3 1 (.t 61) (.k (.int .i64 (1))),none⟩,ql 63 1 62,⟨some 64,.conv .i64 (.t 63),none⟩,qm 65 5,qo .rem 66 64 65,qf 67 1 1,ql 68 1 67,qm 69 6,qd 70 3 68 69,
 ⟨some 71,.iaa 3 1 (.t 70) (.k (.int .i64 (2))),none⟩,ql 72 1 71,⟨some 73,.conv .i64 (.t 72),none⟩,qm 74 5,qo .rem 75 73 74,
 qu 76 [.int .i64 (0),.int .i64 (0),.int .i64 (0)] [(0,1,.t 57),(1,1,.t 66),(2,1,.t 75)],
 ⟨some 77,.buildSl 3 24 (.agg [.int .i64 (0),.int .i64 (0),.int .i64 (0)]) 1 [(0,.t 76)],none⟩,qp 78 3 24 49 77,qf 79 1 3,qs 1 79 78]
@[go_sem] def c_r05_Made_r11 : LL := [qm 46 6,qk .add 47 46 1,qm 6 47]
def c_r05_Made_b12 : LC := (.seq (.seq (.reg c_r05_Made_r9 [1,2,3,5,6,45]) (.cond (.t 45) .skip (.exit 2))) (.seq (.block 3 (.dreg [(1,none,[],true),(29,none,[1],false)] c_r05_Made_r10 [1,2,3,5,6])) (.reg c_r05_Made_r11 [1,2,3,5,6])))
@[go_sem] def c_r05_Made_r13 : LL := [qL 80 2 3,qs 2 2 80]
@[go_sem] def c_r05_Made (F : Fn) : LC := (.seq (.reg c_r05_Made_r0 [1,2]) (.seq (.reg c_r05_Made_r1 [1,2,3]) (.seq (.seq (.reg c_r05_Made_r2 [1,2,3,4]) (.block 0 (.loop [1,2,3,4] c_r05_Made_b6))) (.seq (.reg c_r05_Made_r7 [1,2,3,5]) (.seq (.seq (.reg c_r05_Made_r8 [1,2,3,5,6]) (.block 2 (.loop [1,2,3,5,6] c_r05_Made_b12))) (.seq (.reg c_r05_Made_r13 [2]) .ret))))))
def h_r05_Made : Hints := hOf [] (c_r05_Made fun _ => 0)
def drD (x : Dr) : D := .agg [.lst 1 (u8s x.n), .lst 3 (trs x.e)]
def madeN (x : Dr) : List Int := (x.n.take 8).map fun v => v.tmod 3
def madeE (x : Dr) (m : Int) (t : E) : E := ⟨t.t.tmod 2, t.f.tmod m, t.o.tmod m⟩
def madeG (x : Dr) : G := ⟨madeN x, if (madeN x).length = 0 then [] else (x.e.take 10).map (madeE x (madeN x).length)⟩
section
variable (P : Program) (F : String → Nat)
def K_r05_Made : Prop := ∀ x : Dr, x.ok → x.n.length ≤ maxL → x.e.length ≤ maxL → FC P (F "r05.Made") [drD x] (gA (madeG x)) []
end
def shU8 : Sh := .int .u8
def shU8s : Sh := .slc 1 1 shU8
def shTr : Sh := .cat [shU8, shU8, shU8]
def shDr : Sh := .cat [shU8s, .slc 3 3 shTr]
theorem rd_u8 {x : D} (h : HasEl shU8 x) : ∃ n : Int, x = .int .u8 n ∧ Byte n := by
 simp only [shU8, HasEl] at h
 obtain ⟨n, rfl, h1, h2⟩ := h
 exact ⟨n, rfl, h1, h2⟩
theorem rd_u8l : ∀ {xs : List D}, (∀ y ∈ xs, HasEl shU8 y) → ∃ l : List Int, xs = u8s l ∧ ∀ v ∈ l, Byte v
 | [], _ => ⟨[], rfl, by simp⟩
 | x :: xs, h => by
  obtain ⟨l, rfl, hl⟩ := rd_u8l (xs := xs) fun y hy => h y (by simp [hy])
  obtain ⟨n, rfl, hn⟩ := rd_u8 (h x (by simp))
  exact ⟨n :: l, rfl, by simpa [hn] using hl⟩
theorem rd_u8s {x : D} (h : HasEl shU8s x) : ∃ l : List Int, x = .lst 1 (u8s l) ∧ (∀ v ∈ l, Byte v) ∧ l.length ≤ maxL := by
 simp only [shU8s, HasEl] at h
 obtain ⟨xs, rfl, h1, h2⟩ := h
 obtain ⟨l, rfl, hl⟩ := rd_u8l h2
 refine ⟨l, rfl, hl, ?_⟩
 rw [u8s_length] at h1
 unfold reachBytes at h1
 unfold maxL
 omega
theorem rd_tr {x : D} (h : HasEl shTr x) : ∃ e : E, x = .agg [.int .u8 e.t, .int .u8 e.f, .int .u8 e.o] ∧ Byte e.t ∧ Byte e.f ∧ Byte e.o := by
 simp only [shTr, HasEl] at h
 obtain ⟨ds, rfl, h⟩ := h
 simp only [shU8, HasShs, HasEl] at h
 obtain ⟨_, _, rfl, ⟨a, rfl, a1, a2⟩, _, _, rfl, ⟨b, rfl, b1, b2⟩, _, _, rfl, ⟨c, rfl, c1, c2⟩, rfl⟩ := h
 exact ⟨⟨a, b, c⟩, rfl, ⟨a1, a2⟩, ⟨b1, b2⟩, ⟨c1, c2⟩⟩
theorem rd_trl : ∀ {xs : List D}, (∀ y ∈ xs, HasEl shTr y) → ∃ l : List E, xs = trs l ∧ ∀ v ∈ l, Byte v.t ∧ Byte v.f ∧ Byte v.o
 | [], _ => ⟨[], rfl, by simp⟩
 | x :: xs, h => by
  obtain ⟨l, rfl, hl⟩ := rd_trl (xs := xs) fun y hy => h y (by simp [hy])
  obtain ⟨n, rfl, hn⟩ := rd_tr (h x (by simp))
  refine ⟨n :: l, rfl, fun v hv => ?_⟩
  simp only [List.mem_cons] at hv
  rcases hv with rfl | hv
  ·exact hn
  ·exact hl v hv
theorem rd_draft {x : D} (h : HasEl shDr x) : ∃ g : Dr, x = drD g ∧ g.ok ∧ g.n.length ≤ maxL ∧ g.e.length ≤ maxL := by
 simp only [shDr, HasEl] at h
 obtain ⟨ds, rfl, h⟩ := h
 have h' : ∃ a b, ds = a :: b ∧ HasEl shU8s a ∧ HasShs [.slc 3 3 shTr] b := by simpa only [shU8s, HasShs] using h
 obtain ⟨a, _, rfl, h1, h'⟩ := h'
 obtain ⟨l, rfl, hl, hl2⟩ := rd_u8s h1
 simp only [HasShs, HasEl] at h'
 obtain ⟨_, _, rfl, ⟨xs, rfl, hb, h3⟩, rfl⟩ := h'
 obtain ⟨es, rfl, he⟩ := rd_trl h3
 refine ⟨⟨l, es⟩, rfl, ⟨hl, he⟩, hl2, ?_⟩
 rw [trs_length] at hb
 unfold reachBytes at hb
 simp only [maxL]
 omega
section
variable {P : Program} {F : String → Nat} {α : Type}
theorem tmod_bd {x m : Int} (hx : 0 ≤ x) (hm : 0 < m) : 0 ≤ x.tmod m ∧ x.tmod m < m := ⟨Int.tmod_nonneg _ hx, Int.tmod_lt_of_pos _ hm⟩
theorem w_r05_Made (x : Dr) (hx : x.ok) (h1 : x.n.length ≤ maxL) (h2 : x.e.length ≤ maxL) : W P (c_r05_Made F) (Done [.c 2 true 2] [] (gA (madeG x)) []) (init [drD x]) := by
 refine W_of ?_
 obtain ⟨xn, xe⟩ := x
 obtain ⟨o1, o2⟩ := hx
 simp only at h1 h2 o1 o2
 unfold maxL at h1 h2
 simp (disch := omega) only [go_sem, ↓reduceIte, drD]
 have ml : ∀ i, ((xn.take i).map fun v => v.tmod 3).length = min i xn.length := fun i => by simp
 refine W_loop (fun i : Nat => ⟨[(1, D.pt 0 0), (2, D.pt 3 0), (3, D.pt 6 0), (4, D.int IntKind.i64 i)],
   [(0, Ent.box [D.lst 1 (u8s xn), D.lst 3 (trs xe)]), (1, Ent.arr 1 []), (2, Ent.arr 3 []), (3, Ent.box [D.sl 1 0 0, D.sl 2 0 0]), (4, Ent.arr 1 (ints ((xn.take i).map fun v => v.tmod 3))), (5, Ent.arr 3 []),
    (6, Ent.box [D.sl 4 0 i, D.sl 5 0 0])], 7⟩) (fun i => i ≤ xn.length ∧ i ≤ 8) (fun i => 8 - i) 0 ?_ ?_ ?_
 ·simp (disch := omega) only [go_sem, ↓reduceIte]
  rfl
 ·simp
 ·rintro i ⟨hi, hi8⟩
  have hml : ((xn.take i).map fun v => v.tmod 3).length = i := by rw [ml]; omega
  simp (disch := omega) only [go_sem, ↓reduceIte, c_r05_Made_b6]
  refine bran_dec ?ga ?gb
  case' ga =>
   intro c
   simp (disch := omega) only [go_sem, ↓reduceIte, c]
   refine bran_dec ?gc ?gd
   case' gc =>
    intro c2
    have ho := o1 _ (gt_mem (l := xn) (j := i) (by omega) (by omega))
    have hb := tmod_bd (m := 3) ho.1 (by omega)
    have hz : ¬ ((3 : Int) = 0) := by omega
    simp (disch := omega) only [go_sem, ↓reduceIte, hml, hz]
    exact ⟨i + 1, by rw [take_gt (by omega)]; simp, by omega, by omega⟩
   intro c2
   have h8 : i = 8 ∨ i = xn.length := by omega
   simp (disch := omega) only [go_sem, ↓reduceIte]
  case' gb =>
   intro c
   have h8 : i = 8 ∨ i = xn.length := by omega
   simp (disch := omega) only [go_sem, ↓reduceIte, c]
  all_goals
   have hmn : madeN ⟨xn, xe⟩ = (xn.take i).map fun v => v.tmod 3 := by
    simp only [madeN]
    rw [show xn.take 8 = xn.take i from List.take_eq_take_iff.2 (by omega)]
   have fin : ∀ j : Nat, (0 < i → j = 10 ∨ j = xe.length) → (i = 0 → j = 0) → j ≤ 10 → madeG ⟨xn, xe⟩ = ⟨(xn.take i).map fun v => v.tmod 3, (xe.take j).map (madeE ⟨xn, xe⟩ i)⟩ := fun j h1 h2 h3 => by
    simp only [madeG, hmn, hml]
    by_cases h0 : i = 0
    ·rw [if_pos h0, h2 h0]; simp
    ·rw [if_neg h0, show xe.take 10 = xe.take j from List.take_eq_take_iff.2 (by have := h1 (by omega); omega)]
   generalize hns : ((xn.take i).map fun v => v.tmod 3) = ns at hml fin
   clear hmn hns
   refine W_loop (fun j : Nat => ⟨[(1, D.pt 0 0), (2, D.pt 3 0), (3, D.pt 6 0), (5, D.int IntKind.i64 i), (6, D.int IntKind.i64 j)],
    [(0, Ent.box [D.lst 1 (u8s xn), D.lst 3 (trs xe)]), (1, Ent.arr 1 []), (2, Ent.arr 3 []), (3, Ent.box [D.sl 1 0 0, D.sl 2 0 0]), (4, Ent.arr 1 (ints ns)), (5, Ent.arr 3 (eds ((xe.take j).map (madeE ⟨xn, xe⟩ i)))),
     (6, Ent.box [D.sl 4 0 i, D.sl 5 0 j])], 7⟩) (fun j => j ≤ xe.length ∧ j ≤ 10 ∧ (i = 0 → j = 0)) (fun j => 10 - j) 0 ?_ ?_ ?_
   ·simp (disch := omega) only [go_sem, ↓reduceIte]
    rfl
   ·simp
   ·rintro j ⟨hj, hj10, hj0⟩
    have hel : ((xe.take j).map (madeE ⟨xn, xe⟩ i)).length = j := by simp; omega
    simp (disch := omega) only [go_sem, ↓reduceIte, c_r05_Made_b12]
    refine bran_dec (fun d => ?_) (fun d => ?_)
    ·simp (disch := omega) only [go_sem, ↓reduceIte, d]
     refine bran_dec (fun d2 => ?_) (fun d2 => ?_)
     ·simp (disch := omega) only [go_sem, ↓reduceIte, d2]
      refine bran_dec (fun d3 => ?_) (fun d3 => ?_)
      ·obtain ⟨ot, of, oo⟩ := o2 _ (gt_mem (l := xe) (j := j) (by omega) (by omega))
       have b1 := tmod_bd (x := (gt xe j).t) (m := 2) ot.1 (by omega)
       have b2 := tmod_bd (x := (gt xe j).f) (m := i) of.1 (by omega)
       have b3 := tmod_bd (x := (gt xe j).o) (m := i) oo.1 (by omega)
       have w1 : IntKind.i64.wrap (gt xe j).f = (gt xe j).f := wrap_i64 (by have := of.1; omega) (by have := of.2; omega)
       have w2 : IntKind.i64.wrap (gt xe j).o = (gt xe j).o := wrap_i64 (by have := oo.1; omega) (by have := oo.2; omega)
       have z1 : ¬ ((2 : Int) = 0) := by omega
       have z2 : ¬ ((i : Int) = 0) := by omega
       simp (disch := omega) only [go_sem, ↓reduceIte, hel, w1, w2, z1, z2, Int.reduceToNat]
       exact ⟨j + 1, by rw [take_gt (by omega)]; simp [madeE], by omega, by omega⟩
      ·simp (disch := omega) only [go_sem, ↓reduceIte, d3, hel, hml]
       rw [fin j (by omega) hj0 hj10]
       simp [gA]
     ·simp (disch := omega) only [go_sem, ↓reduceIte, d2, hel, hml]
      rw [fin j (by omega) hj0 hj10]
      simp [gA]
    ·simp (disch := omega) only [go_sem, ↓reduceIte, d, hel, hml]
     rw [fin j (by omega) hj0 hj10]
     simp [gA]
theorem madeN_len (x : Dr) : (madeN x).length ≤ 8 := by simp [madeN]; omega
theorem madeE_len (x : Dr) : (madeG x).e.length ≤ 10 := by
 simp only [madeG]
 split
 ·simp
 ·simp; omega
theorem madeG_valid {x : Dr} (hx : x.ok) : validG (madeG x) = 0 := by
 have h1 := madeN_len x
 have h2 := madeE_len x
 unfold validG
 rw [if_neg (show ¬ (40 < (madeG x).n.length ∨ 80 < (madeG x).e.length) by simp only [madeG] at h2 ⊢; omega), if_pos]
 simp only [Bool.and_eq_true, List.all_eq_true]
 refine ⟨fun v hv => ?_, fun v hv => ?_⟩
 ·simp only [madeG, madeN, List.mem_map] at hv
  obtain ⟨u, hu, rfl⟩ := hv
  have := hx.1 u (List.mem_of_mem_take hu)
  have := tmod_bd (x := u) (m := 3) this.1 (by omega)
  simp only [okN, decide_eq_true_eq]
  omega
 ·simp only [madeG] at hv
  split at hv
  ·simp at hv
  ·rename_i h0
   simp only [List.mem_map] at hv
   obtain ⟨u, hu, rfl⟩ := hv
   obtain ⟨o1, o2, o3⟩ := hx.2 u (List.mem_of_mem_take hu)
   have b1 := tmod_bd (x := u.t) (m := 2) o1.1 (by omega)
   have b2 := tmod_bd (x := u.f) (m := (madeN x).length) o2.1 (by omega)
   have b3 := tmod_bd (x := u.o) (m := (madeN x).length) o3.1 (by omega)
   exact fits_mk (by simp only [madeE]; omega) b2 b3
end
section
variable {α : Type}
theorem idM_inj {g : G} (h : validG g = 0) : injM g g (idM g) = true := by
 unfold injM
 rw [mok.2 (idM_ok h)]
 simp [distinct, idM, nums_nodup]
end
def codeL (l : List Int) : List Int := if l = [] then [0] else l
def outN (g : G) (q : List Int) (n : Nat) : Nat → List Int
 | 0 => List.replicate n 0
 | i + 1 => (outN g q n i).set (gt q i).toNat (gt g.n i)
def findE (oe : List E) (x : E) (c : List Int) (i : Nat) : Nat → Int
 | 0 => -1
 | k + 1 => if gt oe k = x ∧ (gt c (((i : Int) + k).tmod c.length)).tmod 2 = 0 then k else findE oe x c i k
def imgX (g : G) (q : List Int) (i : Nat) : E := ⟨(gt g.e i).t, gt q (gt g.e i).f, gt q (gt g.e i).o⟩
def imgE (g : G) (q c : List Int) : Nat → List E × List Int
 | 0 => ([], [])
 | i + 1 => if findE (imgE g q c i).1 (imgX g q i) c i (imgE g q c i).1.length < 0 then ((imgE g q c i).1 ++ [imgX g q i], (imgE g q c i).2 ++ [((imgE g q c i).1.length : Int)])
   else ((imgE g q c i).1, (imgE g q c i).2 ++ [findE (imgE g q c i).1 (imgX g q i) c i (imgE g q c i).1.length])
def imgP (g : G) (l : List Int) : List Int := part g (codeL l) (g.n.length - 1)
def imgQ (g : G) (l : List Int) : List Int := (quo (imgP g l) g.n.length).1
def imgC (g : G) (l : List Int) : Nat := (quo (imgP g l) g.n.length).2
def imG (g : G) (l : List Int) : G := ⟨outN g (imgQ g l) (imgC g l) g.n.length, (imgE g (imgQ g l) (codeL l) g.e.length).1⟩
def imMo (g : G) (l : List Int) : Mo := ⟨imgQ g l, (imgE g (imgQ g l) (codeL l) g.e.length).2⟩
section
theorem codeL_len (l : List Int) : 0 < (codeL l).length := by
 unfold codeL
 split
 ·simp
 ·rename_i h; exact List.length_pos_iff.2 h
theorem codeL_ok {l : List Int} (h : ∀ v ∈ l, Byte v) : ∀ v ∈ codeL l, Byte v := by
 unfold codeL
 split
 ·intro v hv; simp at hv; subst hv; unfold Byte; omega
 ·exact h
theorem key_bd {c : List Int} (hl : 0 < c.length) (hc : ∀ v ∈ c, Byte v) (i : Nat) : 0 ≤ keyI c i ∧ keyI c i ≤ i := by
 unfold keyI
 have h1 := tmod_bd (x := (i : Int)) (m := (c.length : Int)) (by omega) (by omega)
 have h2 := hc _ (gt_mem (l := c) h1.1 h1.2)
 have h3 := tmod_bd (x := gt c ((i : Int).tmod c.length)) (m := (i : Int) + 1) h2.1 (by omega)
 omega
structure PV (g : G) (p : List Int) : Prop where
 l : p.length = g.n.length
 h : ∀ i : Nat, i < g.n.length → (0 ≤ gt p i ∧ gt p i ≤ i) ∧ gt p (gt p i) = gt p i ∧ gt g.n (gt p i) = gt g.n i
theorem PV.merge {g : G} {p : List Int} (hp : PV g p) {a b : Nat} (ha : a < g.n.length) (hb : b < g.n.length) (he : gt g.n a = gt g.n b) : PV g (mergeL p a b) := by
 obtain ⟨hl, h⟩ := hp
 obtain ⟨a1, a2, a3⟩ := h a ha
 obtain ⟨b1, b2, b3⟩ := h b hb
 have hg : ∀ i : Nat, i < g.n.length → gt (mergeL p a b) i = if gt p i = max (gt p a) (gt p b) then min (gt p a) (gt p b) else gt p i := fun i hi => by
  unfold mergeL
  rw [gt_nat (by simp; omega), gt_nat (l := p) (i := i) (by omega)]
  simp
 have hlo : gt p (min (gt p a) (gt p b)) = min (gt p a) (gt p b) ∧ (0 ≤ min (gt p a) (gt p b) ∧ min (gt p a) (gt p b) < g.n.length) ∧ gt g.n (min (gt p a) (gt p b)) = gt g.n (max (gt p a) (gt p b)) := by
  by_cases c : gt p a ≤ gt p b
  ·rw [Int.min_eq_left c, Int.max_eq_right c]
   exact ⟨a2, by omega, by rw [a3, b3, he]⟩
  ·rw [Int.min_eq_right (by omega), Int.max_eq_left (by omega)]
   exact ⟨b2, by omega, by rw [a3, b3, he]⟩
 have hle : min (gt p a) (gt p b) ≤ max (gt p a) (gt p b) := by omega
 generalize min (gt p a) (gt p b) = lo at *
 generalize max (gt p a) (gt p b) = hi at *
 obtain ⟨l1, l2, l3⟩ := hlo
 obtain ⟨k, hk⟩ : ∃ k : Nat, lo = k := ⟨lo.toNat, by omega⟩
 refine ⟨by rw [merge_len, hl], fun i hi' => ?_⟩
 obtain ⟨c1, c2, c3⟩ := h i hi'
 rw [hg i hi']
 by_cases c : gt p i = hi
 ·rw [if_pos c]
  refine ⟨by omega, ?_, by rw [l3, ← c, c3]⟩
  rw [hk, hg k (by omega), ← hk, l1]
  split <;> rfl
 ·rw [if_neg c]
  refine ⟨c1, ?_, c3⟩
  obtain ⟨m, hm⟩ : ∃ m : Nat, gt p i = m := ⟨(gt p i).toNat, by omega⟩
  rw [hm, hg m (by omega), ← hm, c2, if_neg c]
theorem nums_PV (g : G) : PV g (nums 0 g.n.length) := ⟨by rw [nums_len], fun i hi => by
 rw [nums_gt hi]
 exact ⟨by omega, nums_gt hi, rfl⟩⟩
theorem part_PV {g : G} {c : List Int} (hl : 0 < c.length) (hc : ∀ v ∈ c, Byte v) : ∀ k : Nat, k ≤ g.n.length - 1 → PV g (part g c k)
 | 0, _ => nums_PV g
 | k + 1, hk => by
  have ih := part_PV (g := g) hl hc k (by omega)
  have hb := key_bd hl hc (k + 1)
  rw [part]
  split
  ·rename_i h
   obtain ⟨m, hm⟩ : ∃ m : Nat, keyI c (k + 1) = m := ⟨(keyI c (k + 1)).toNat, by omega⟩
   rw [hm] at h hb ⊢
   exact ih.merge (by omega) (by omega) h.2
  ·exact ih
structure QV (g : G) (n : Nat) (s : List Int × Nat) : Prop where
 l : s.1.length = n
 c : s.2 ≤ n
 b : ∀ i : Nat, i < n → 0 ≤ gt s.1 i ∧ gt s.1 i < s.2
 e : ∀ i j : Nat, i < n → j < n → gt s.1 i = gt s.1 j → gt g.n i = gt g.n j
theorem quo_QV {g : G} {p : List Int} (hp : PV g p) : ∀ n : Nat, n ≤ g.n.length → QV g n (quo p n)
 | 0, _ => ⟨rfl, Nat.le_refl _, fun i hi => by omega, fun i j hi => by omega⟩
 | n + 1, hn => by
  obtain ⟨h1, h2, h3, h4⟩ := quo_QV hp n (by omega)
  obtain ⟨p1, p2, p3⟩ := hp.h n (by omega)
  rw [quo]
  generalize quo p n = s at *
  obtain ⟨q, c⟩ := s
  simp only at h1 h2 h3 h4 ⊢
  split
  ·refine ⟨by simp [h1], by omega, fun i hi => ?_, fun i j hi hj he => ?_⟩
   ·by_cases x : i = n
    ·subst x
     simp only
     rw [gt_lastS h1.symm]; omega
    ·simp only
     rw [gt_appS (by omega)]
     have := h3 i (by omega)
     omega
   ·simp only at he
    by_cases x : i = n
    ·by_cases y : j = n
     ·rw [x, y]
     ·rw [x, gt_lastS h1.symm, gt_appS (by omega)] at he
      have := h3 j (by omega)
      omega
    ·by_cases y : j = n
     ·rw [y, gt_lastS h1.symm, gt_appS (by omega)] at he
      have := h3 i (by omega)
      omega
     ·rw [gt_appS (by omega), gt_appS (by omega)] at he
      exact h4 i j (by omega) (by omega) he
  ·rename_i hne
   obtain ⟨m, hm⟩ : ∃ m : Nat, gt p n = m := ⟨(gt p n).toNat, by omega⟩
   rw [hm] at p1 p3 hne ⊢
   have hmn : m < n := by omega
   refine ⟨by simp [h1], by simp only; omega, fun i hi => ?_, fun i j hi hj he => ?_⟩
   ·by_cases x : i = n
    ·subst x
     simp only
     rw [gt_lastS h1.symm]; exact h3 m hmn
    ·simp only
     rw [gt_appS (by omega)]
     exact h3 i (by omega)
   ·simp only at he
    by_cases x : i = n
    ·by_cases y : j = n
     ·rw [x, y]
     ·rw [x, gt_lastS h1.symm, gt_appS (by omega)] at he
      rw [x, ← p3]
      exact h4 m j hmn (by omega) he
    ·by_cases y : j = n
     ·rw [y, gt_lastS h1.symm, gt_appS (by omega)] at he
      rw [y, ← p3]
      exact h4 i m (by omega) hmn he
     ·rw [gt_appS (by omega), gt_appS (by omega)] at he
      exact h4 i j (by omega) (by omega) he
theorem outN_len (g : G) (q : List Int) (n : Nat) : ∀ i, (outN g q n i).length = n
 | 0 => by simp [outN]
 | i + 1 => by rw [outN, List.length_set, outN_len g q n i]
theorem outN_ok {g : G} {s : List Int × Nat} {n : Nat} (hs : QV g n s) : ∀ m : Nat, m ≤ n → ∀ i : Nat, i < m → gt (outN g s.1 s.2 m) (gt s.1 i) = gt g.n i
 | 0, _, i, hi => by omega
 | m + 1, hm, i, hi => by
  obtain ⟨b1, b2⟩ := hs.b i (by omega)
  obtain ⟨b3, b4⟩ := hs.b m (by omega)
  have hl := outN_len g s.1 s.2 m
  obtain ⟨k, hk⟩ : ∃ k : Nat, gt s.1 i = k := ⟨(gt s.1 i).toNat, by omega⟩
  rw [outN, hk, gt_setH (by omega)]
  by_cases x : (gt s.1 m).toNat = k
  ·rw [if_pos x]
   exact hs.e m i (by omega) (by omega) (by omega)
  ·rw [if_neg x, ← hk]
   refine outN_ok hs m (by omega) i ?_
   by_cases y : i = m
   ·subst y; omega
   ·omega
theorem outN_in {g : G} {q : List Int} {n : Nat} (h : ∀ x ∈ g.n, okN x = true) : ∀ m : Nat, m ≤ g.n.length → ∀ x ∈ outN g q n m, okN x = true
 | 0, _, x, hx => by
  simp only [outN, List.mem_replicate] at hx
  rw [hx.2]
  decide
 | m + 1, hm, x, hx => by
  rw [outN] at hx
  rcases List.mem_or_eq_of_mem_set hx with hx | hx
  ·exact outN_in h m (by omega) x hx
  ·rw [hx]; exact h _ (gt_mem (by omega) (by omega))
theorem find_ok {oe : List E} {x : E} {c : List Int} {i : Nat} : ∀ k : Nat, k ≤ oe.length → findE oe x c i k < 0 ∨ ((0 ≤ findE oe x c i k ∧ findE oe x c i k < oe.length) ∧ gt oe (findE oe x c i k) = x)
 | 0, _ => .inl (by simp [findE])
 | k + 1, hk => by
  rw [findE]
  split
  ·rename_i h
   exact .inr ⟨by omega, h.1⟩
  ·exact find_ok k (by omega)
structure EV (g : G) (q : List Int) (c : Nat) (n : Nat) (s : List E × List Int) : Prop where
 l : s.2.length = n
 m : s.1.length ≤ n
 f : ∀ x ∈ s.1, fitsE c x = true
 b : ∀ i : Nat, i < n → (0 ≤ gt s.2 i ∧ gt s.2 i < s.1.length) ∧ gt s.1 (gt s.2 i) = imgX g q i
theorem imgE_EV {g : G} {q c : List Int} {k : Nat} (hv : validG g = 0) (hq : ∀ i : Nat, i < g.n.length → 0 ≤ gt q i ∧ gt q i < k) : ∀ n : Nat, n ≤ g.e.length → EV g q k n (imgE g q c n)
 | 0, _ => ⟨rfl, Nat.le_refl _, fun x hx => by simp [imgE] at hx, fun i hi => by omega⟩
 | n + 1, hn => by
  obtain ⟨h1, h2, h3, h4⟩ := imgE_EV (c := c) hv hq n (by omega)
  have hf := find_ok (oe := (imgE g q c n).1) (x := imgX g q n) (c := c) (i := n) (imgE g q c n).1.length (Nat.le_refl _)
  obtain ⟨t1, t2, t3⟩ := edge_fits hv (i := n) (by omega)
  have hx : fitsE k (imgX g q n) = true := by
   obtain ⟨a, ha, ha2⟩ := gtI t2
   obtain ⟨b, hb, hb2⟩ := gtI t3
   unfold imgX
   rw [ha2, hb2]
   exact fits_mk t1 (hq a ha) (hq b hb)
  rw [imgE]
  generalize imgE g q c n = s at *
  generalize findE s.1 (imgX g q n) c n s.1.length = y at *
  generalize hxx : imgX g q n = x at *
  obtain ⟨oe, me⟩ := s
  simp only at h1 h2 h3 h4 hf ⊢
  split
  ·refine ⟨by simp [h1], by simp; omega, fun z hz => ?_, fun i hi => ?_⟩
   ·simp only [List.mem_append, List.mem_singleton] at hz
    rcases hz with hz | rfl
    ·exact h3 z hz
    ·exact hx
   ·simp only [List.length_append, List.length_singleton]
    by_cases c : i = n
    ·rw [gt_lastS (show i = me.length by omega), gt_lastS rfl]
     refine ⟨by omega, ?_⟩
     rw [c]; exact hxx.symm
    ·obtain ⟨h5, h6⟩ := h4 i (by omega)
     rw [gt_appS (show i < me.length by omega)]
     obtain ⟨a, ha, ha2⟩ := gtI h5
     rw [ha2, gt_appS ha, ← ha2]
     exact ⟨by omega, h6⟩
  ·rename_i hy
   rcases hf with hf | ⟨hf, hf2⟩
   ·exact absurd hf hy
   ·refine ⟨by simp [h1], by simp only; omega, h3, fun i hi => ?_⟩
    simp only
    by_cases c : i = n
    ·rw [gt_lastS (show i = me.length by omega)]
     refine ⟨hf, ?_⟩
     rw [hf2]
     rw [c]; exact hxx.symm
    ·rw [gt_appS (show i < me.length by omega)]
     exact h4 i (by omega)
theorem img_okM {g : G} {l : List Int} (hv : validG g = 0) (hl : ∀ v ∈ l, Byte v) : MOk g (imG g l) (imMo g l) := by
 have vs := valid_spec hv
 have hp : PV g (imgP g l) := part_PV (codeL_len l) (codeL_ok hl) _ (Nat.le_refl _)
 have hq : QV g g.n.length (quo (imgP g l) g.n.length) := quo_QV hp _ (Nat.le_refl _)
 have he : EV g (imgQ g l) (imgC g l) g.e.length (imgE g (imgQ g l) (codeL l) g.e.length) := imgE_EV hv hq.b _ (Nat.le_refl _)
 have ho := outN_ok hq _ (Nat.le_refl _)
 have hlo := outN_len g (imgQ g l) (imgC g l) g.n.length
 have hc : imgC g l ≤ g.n.length := hq.c
 have hm := he.m
 refine ⟨hv, valid_mk ?_ ?_ (fun y hy => ?_) (fun y hy => ?_), ?_, ?_, fun i hi => ?_, fun i hi => ?_⟩
 ·simp only [imG]; omega
 ·simp only [imG]; omega
 ·exact outN_in vs.2.2.1 _ (Nat.le_refl _) y hy
 ·have := he.f y hy
  simp only [imG]
  rw [hlo]
  exact this
 ·exact hq.l
 ·exact he.l
 ·simp only [imG, imMo]
  rw [hlo]
  exact ⟨hq.b i hi, ho i hi⟩
 ·simp only [imG, imMo]
  obtain ⟨h1, h2⟩ := he.b i hi
  refine ⟨h1, ?_⟩
  rw [h2]
  exact ⟨rfl, rfl, rfl⟩
theorem img_sz {g : G} {l : List Int} (hl : ∀ v ∈ l, Byte v) (hv : validG g = 0) : (imgQ g l).length = g.n.length ∧ (imG g l).n.length ≤ g.n.length ∧ (imG g l).e.length ≤ g.e.length := by
 have hp : PV g (imgP g l) := part_PV (codeL_len l) (codeL_ok hl) _ (Nat.le_refl _)
 have hq : QV g g.n.length (quo (imgP g l) g.n.length) := quo_QV hp _ (Nat.le_refl _)
 have he : EV g (imgQ g l) (imgC g l) g.e.length (imgE g (imgQ g l) (codeL l) g.e.length) := imgE_EV hv hq.b _ (Nat.le_refl _)
 refine ⟨hq.l, ?_, he.m⟩
 simp only [imG]
 rw [outN_len]
 exact hq.c
end
attribute [local irreducible] W
@[go_sem] def c_r06_numbers_r0 : LL := [qn 2 1]
@[go_sem] def c_r06_numbers_r1 : LL := [⟨some 5,.buildSl 1 8 (.int .i64 (0)) 0 [],none⟩,qm 3 5]
@[go_sem] def c_r06_numbers_r2 : LL := [qi 4 0]
@[go_sem] def c_r06_numbers_r3 : LL := [qm 6 4,qm 7 0,qz 8 7,qo .lss 9 6 8]
@[go_sem] def c_r06_numbers_r4 : LL := [qm 12 3,qm 13 0,qm 14 4,qd 15 1 13 14,ql 16 1 15,⟨some 17,.conv .i64 (.t 16),none⟩,⟨some 18,.buildSl 1 8 (.int .i64 (0)) 1 [(0,.t 17)],none⟩,qp 19 1 8 12 18,qm 3 19]
@[go_sem] def c_r06_numbers_r5 : LL := [qm 10 4,qk .add 11 10 1,qm 4 11]
def c_r06_numbers_b6 : LC := (.seq (.seq (.reg c_r06_numbers_r3 [0,3,4,9]) (.cond (.t 9) .skip (.exit 0))) (.seq (.block 1 (.reg c_r06_numbers_r4 [0,3,4])) (.reg c_r06_numbers_r5 [0,3,4])))
@[go_sem] def c_r06_numbers_r7 : LL := [qm 20 3,qz 21 20,qk .eql 22 21 0]
@[go_sem] def c_r06_numbers_r8 : LL := [⟨some 23,.buildSl 1 8 (.int .i64 (0)) 1 [(0,.k (.int .i64 (0)))],none⟩,qm 3 23]
@[go_sem] def c_r06_numbers_r9 : LL := [qm 24 3,qm 2 24]
@[go_sem] def c_r06_numbers (F : Fn) : LC := (.seq (.reg c_r06_numbers_r0 [0]) (.seq (.reg c_r06_numbers_r1 [0,3]) (.seq (.seq (.reg c_r06_numbers_r2 [0,3,4]) (.block 0 (.loop [0,3,4] c_r06_numbers_b6))) (.seq (.seq (.reg c_r06_numbers_r7 [3,22]) (.cond (.t 22) (.reg c_r06_numbers_r8 [3]) .skip)) (.seq (.reg c_r06_numbers_r9 [2]) .ret)))))
def h_r06_numbers : Hints := hOf [] (c_r06_numbers fun _ => 0)
@[go_sem] def c_r02_Merge_r0 : LL := [qn 6 1]
@[go_sem] def c_r02_Merge_r1 : LL := [qm 12 0,qm 13 1,qd 14 1 12 13,ql 15 1 14,qm 16 0,qm 17 2,qd 18 1 16 17,ql 19 1 18,⟨some 20,.mn [.t 15,.t 19],none⟩,qm 21 0,qm 22 1,qd 23 1 21 22,ql 24 1 23,qm 25 0,qm 26 2,
 qd 27 1 25 26,ql 28 1 27,⟨some 29,.mx [.t 24,.t 28],none⟩,qm 7 20,qm 8 29]
@[go_sem] def c_r02_Merge_r2 : LL := [qn 9 1]
@[go_sem] def c_r02_Merge_r3 : LL := [qi 10 0]
@[go_sem] def c_r02_Merge_r4 : LL := [qm 30 10,qm 31 0,qz 32 31,qo .lss 33 30 32]
@[go_sem] def c_r02_Merge_r5 : LL := [qm 36 0,qm 37 10,qd 38 1 36 37,ql 39 1 38,qm 11 39]
@[go_sem] def c_r02_Merge_r6 : LL := [qm 40 11,qm 41 8,qo .eql 42 40 41]
@[go_sem] def c_r02_Merge_r7 : LL := [qm 43 7,qm 11 43]
@[go_sem] def c_r02_Merge_r8 : LL := [qm 44 9,qm 45 11,⟨some 46,.buildSl 1 8 (.int .i64 (0)) 1 [(0,.t 45)],none⟩,qp 47 1 8 44 46,qm 9 47]
@[go_sem] def c_r02_Merge_r9 : LL := [qm 34 10,qk .add 35 34 1,qm 10 35]
def c_r02_Merge_b10 : LC := (.seq (.seq (.reg c_r02_Merge_r4 [0,7,8,9,10,33]) (.cond (.t 33) .skip (.exit 0))) (.seq (.block 1 (.seq (.reg c_r02_Merge_r5 [0,7,8,9,10,11]) (.seq (.seq (.reg c_r02_Merge_r6 [0,7,8,9,10,11,42]) (.cond (.t 42) (.reg c_r02_Merge_r7 [0,7,8,9,10,11]) .skip)) (.reg c_r02_Merge_r8 [0,7,8,9,10])))) (.reg c_r02_Merge_r9 [0,7,8,9,10])))
@[go_sem] def c_r02_Merge_r11 : LL := [qm 48 9,qm 6 48]
@[go_sem] def c_r02_Merge (F : Fn) : LC := (.seq (.reg c_r02_Merge_r0 [0,1,2]) (.seq (.dreg [] c_r02_Merge_r1 [0,7,8]) (.seq (.reg c_r02_Merge_r2 [0,7,8,9]) (.seq (.seq (.reg c_r02_Merge_r3 [0,7,8,9,10]) (.block 0 (.loop [0,7,8,9,10] c_r02_Merge_b10))) (.seq (.reg c_r02_Merge_r11 [6]) .ret)))))
def h_r02_Merge : Hints := hn [] [(0,[0,1,2]),(1,[0,7,8]),(2,[0,7,8,9]),(3,[0,7,8,9,10]),(4,[0,7,8,9,10,33]),(5,[0,7,8,9,10]),(6,[0,7,8,9,10,11]),(7,[0,7,8,9,10,11,42]),(8,[0,7,8,9,10,11]),(9,[0,7,8,9,10]),(10,[6])] [(4,[0,7,8,9,10])]
@[go_sem] def c_r02_Valid_r0 : LL := [qb 2 false]
@[go_sem] def c_r02_Valid_r1 : LL := [qm 4 0,qz 5 4,qk .gtr 6 5 80]
@[go_sem] def c_r02_Valid_r2 : LL := [qb 2 false]
@[go_sem] def c_r02_Valid_r3 : LL := [qi 3 0]
@[go_sem] def c_r02_Valid_r4 : LL := [qm 7 3,qm 8 0,qz 9 8,qo .lss 10 7 9]
@[go_sem] def c_r02_Valid_r5 : LL := [qm 13 0,qm 14 3,qd 15 1 13 14,ql 16 1 15,qk .lss 17 16 0,qm 18 17,qg 18 false (qm 19 0),qg 18 false (qm 20 3),qg 18 false (qd 21 1 19 20),qg 18 false (ql 22 1 21),
 qg 18 false (qm 23 3),qg 18 false (qo .gtr 24 22 23),qQ 25 18 24,qm 26 25,qg 26 false (qm 27 0),qg 26 false (qm 28 0),qg 26 false (qm 29 3),qg 26 false (qd 30 1 28 29),
 qg 26 false (ql 31 1 30),qg 26 false (qd 32 1 27 31),qg 26 false (ql 33 1 32),qg 26 false (qm 34 0),qg 26 false (qm 35 3),qg 26 false (qd 36 1 34 35),qg 26 false (ql 37 1 36),
 qg 26 false (qo .neq 38 33 37),qQ 39 26 38]
@[go_sem] def c_r02_Valid_r6 : LL := [qb 2 false]
@[go_sem] def c_r02_Valid_r7 : LL := [qm 11 3,qk .add 12 11 1,qm 3 12]
def c_r02_Valid_b8 : LC := (.seq (.seq (.reg c_r02_Valid_r4 [0,3,10]) (.cond (.t 10) .skip (.exit 0))) (.seq (.block 1 (.seq (.dreg [] c_r02_Valid_r5 [0,3,39]) (.cond (.t 39) (.seq (.reg c_r02_Valid_r6 [2]) .ret) .skip))) (.reg c_r02_Valid_r7 [0,3])))
@[go_sem] def c_r02_Valid_r9 : LL := [qb 2 true]
@[go_sem] def c_r02_Valid (F : Fn) : LC := (.seq (.reg c_r02_Valid_r0 [0]) (.seq (.seq (.reg c_r02_Valid_r1 [0,6]) (.cond (.t 6) (.seq (.reg c_r02_Valid_r2 [2]) .ret) .skip)) (.seq (.seq (.reg c_r02_Valid_r3 [0,3]) (.block 0 (.loop [0,3] c_r02_Valid_b8))) (.seq (.reg c_r02_Valid_r9 [2]) .ret))))
def h_r02_Valid : Hints := hn [] [(0,[0]),(1,[0,6]),(2,[2]),(3,[0,3]),(4,[0,3,10]),(5,[0,3]),(6,[0,3,39]),(7,[2]),(8,[2])] [(4,[0,3])]
@[go_sem] def c_r02_one_r0 : LL := [qi 2 0]
@[go_sem] def c_r02_one_r1 : LL := [qm 3 0,qz 4 3,qk .gtr 5 4 80]
@[go_sem] def c_r02_one_r2 : LL := [qi 2 3]
@[go_sem] def c_r02_one_r3 (F : Fn) : LL := [qm 6 0,qc 7 (F "r02.Valid") [.t 6],qv 8 7]
@[go_sem] def c_r02_one_r4 : LL := [qi 2 1]
@[go_sem] def c_r02_one_r5 : LL := [qi 2 0]
@[go_sem] def c_r02_one (F : Fn) : LC := (.seq (.reg c_r02_one_r0 [0]) (.seq (.seq (.reg c_r02_one_r1 [0,5]) (.cond (.t 5) (.seq (.reg c_r02_one_r2 [2]) .ret) .skip)) (.seq (.seq (.reg (c_r02_one_r3 F) [8]) (.cond (.t 8) (.seq (.reg c_r02_one_r4 [2]) .ret) .skip)) (.seq (.reg c_r02_one_r5 [2]) .ret))))
def h_r02_one : Hints := hOf [] (c_r02_one fun _ => 0)
@[go_sem] def c_r02_Quotient_r0 : LL := [qn 2 1,qi 3 0,qi 4 0]
@[go_sem] def c_r02_Quotient_r1 (F : Fn) : LL := [qm 9 0,qc 10 (F "r02.one") [.t 9],qm 5 10]
@[go_sem] def c_r02_Quotient_r2 : LL := [qm 11 5,qk .neq 12 11 0]
@[go_sem] def c_r02_Quotient_r3 : LL := [qm 13 5,qn 2 1,qi 3 0,qm 4 13]
@[go_sem] def c_r02_Quotient_r4 : LL := [qn 6 1]
@[go_sem] def c_r02_Quotient_r5 : LL := [qi 7 0]
@[go_sem] def c_r02_Quotient_r6 : LL := [qi 8 0]
@[go_sem] def c_r02_Quotient_r7 : LL := [qm 14 8,qm 15 0,qz 16 15,qo .lss 17 14 16]
@[go_sem] def c_r02_Quotient_r8 : LL := [qm 20 0,qm 21 8,qd 22 1 20 21,ql 23 1 22,qm 24 8,qo .eql 25 23 24]
@[go_sem] def c_r02_Quotient_r9 : LL := [qm 26 6,qm 27 7,⟨some 28,.buildSl 1 8 (.int .i64 (0)) 1 [(0,.t 27)],none⟩,qp 29 1 8 26 28,qm 6 29]
@[go_sem] def c_r02_Quotient_r10 : LL := [qm 30 7,qk .add 31 30 1,qm 7 31]
@[go_sem] def c_r02_Quotient_r11 : LL := [qm 32 6,qm 33 6,qm 34 0,qm 35 8,qd 36 1 34 35,ql 37 1 36,qd 38 1 33 37,ql 39 1 38,⟨some 40,.buildSl 1 8 (.int .i64 (0)) 1 [(0,.t 39)],none⟩,qp 41 1 8 32 40,qm 6 41]
@[go_sem] def c_r02_Quotient_r12 : LL := [qm 18 8,qk .add 19 18 1,qm 8 19]
def c_r02_Quotient_b13 : LC := (.seq (.seq (.reg c_r02_Quotient_r7 [0,6,7,8,17]) (.cond (.t 17) .skip (.exit 0))) (.seq (.block 1 (.seq (.reg c_r02_Quotient_r8 [0,6,7,8,25]) (.cond (.t 25) (.seq (.reg c_r02_Quotient_r9 [0,6,7,8]) (.reg c_r02_Quotient_r10 [0,6,7,8])) (.reg c_r02_Quotient_r11 [0,6,7,8])))) (.reg c_r02_Quotient_r12 [0,6,7,8])))
@[go_sem] def c_r02_Quotient_r14 : LL := [qm 42 6,qm 43 7,qm 2 42,qm 3 43,qi 4 0]
@[go_sem] def c_r02_Quotient (F : Fn) : LC := (.seq (.reg c_r02_Quotient_r0 [0]) (.seq (.seq (.reg (c_r02_Quotient_r1 F) [0,5]) (.seq (.reg c_r02_Quotient_r2 [0,5,12]) (.cond (.t 12) (.seq (.reg c_r02_Quotient_r3 [2,3,4]) .ret) .skip))) (.seq (.reg c_r02_Quotient_r4 [0,6]) (.seq (.reg c_r02_Quotient_r5 [0,6,7]) (.seq (.seq (.reg c_r02_Quotient_r6 [0,6,7,8]) (.block 0 (.loop [0,6,7,8] c_r02_Quotient_b13))) (.seq (.reg c_r02_Quotient_r14 [2,3,4]) .ret))))))
def h_r02_Quotient : Hints := hn [] [(0,[0]),(1,[0,5]),(2,[0,5,12]),(3,[2,3,4]),(4,[0,6]),(5,[0,6,7]),(6,[0,6,7,8]),(7,[0,6,7,8,17]),(8,[0,6,7,8]),(9,[0,6,7,8,25]),(10,[0,6,7,8]),(11,[0,6,7,8]),(12,[0,6,7,8]),(13,[2,3,4])] [(7,[0,6,7,8])]
structure Pv (p : List Int) : Prop where
 l : p.length ≤ 80
 h : ∀ i : Nat, i < p.length → (0 ≤ gt p i ∧ gt p i ≤ i) ∧ gt p (gt p i) = gt p i
section
variable (P : Program) (F : String → Nat)
def K_r06_numbers : Prop := ∀ l : List Int, l.length ≤ 2000000 → (∀ v ∈ l, Byte v) → FC P (F "r06.numbers") [.lst 1 (u8s l)] (.arr 1 (ints (codeL l))) []
def K_r02_Merge : Prop := ∀ (p : List Int) (a b : Nat), p.length ≤ 1000 → a < p.length → b < p.length → FC P (F "r02.Merge") [.lst 1 (ints p), .int .i64 a, .int .i64 b] (.arr 1 (ints (mergeL p a b))) []
def K_r02_Valid : Prop := ∀ p : List Int, Pv p → FC P (F "r02.Valid") [.lst 1 (ints p)] (.bool true) []
def K_r02_one : Prop := ∀ p : List Int, Pv p → FC P (F "r02.one") [.lst 1 (ints p)] (.int .i64 0) []
def K_r02_Quotient : Prop := ∀ p : List Int, Pv p → FC P (F "r02.Quotient") [.lst 1 (ints p)] (.tup [.arr 1 (ints (quo p p.length).1), .int .i64 (quo p p.length).2, .int .i64 0]) []
end
section
variable {P : Program} {F : String → Nat} {α : Type}
theorem w_r06_numbers (l : List Int) (hl : l.length ≤ 2000000) (hb : ∀ v ∈ l, Byte v) : W P (c_r06_numbers F) (Done [.t 2] [] (.arr 1 (ints (codeL l))) []) (init [.lst 1 (u8s l)]) := by
 refine W_of ?_
 simp (disch := omega) only [go_sem, ↓reduceIte]
 refine W_loop (fun i : Nat => ⟨[(0, .lst 1 (u8s l)), (3, .sl 0 0 i), (4, .int .i64 i)], [(0, .arr 1 (ints (l.take i)))], 1⟩) (fun i => i ≤ l.length) (fun i => l.length - i) 0 ?_ ?_ ?_
 ·simp (disch := omega) only [go_sem, ↓reduceIte, ints_nil]
  rfl
 ·simp
 ·intro i hi
  have e1 : (l.take i).length = i := by simp; omega
  simp (disch := omega) only [go_sem, ↓reduceIte, c_r06_numbers_b6]
  refine bran_dec (fun c => ?_) (fun c => ?_)
  ·have hv := hb _ (gt_mem (l := l) (j := i) (by omega) (by omega))
   have w1 : IntKind.i64.wrap (gt l i) = gt l i := wrap_i64 (by have := hv.1; omega) (by have := hv.2; omega)
   simp (disch := omega) only [go_sem, ↓reduceIte, e1, w1]
   exact ⟨i + 1, by rw [take_gt (by omega)]; simp, by omega, by omega⟩
  ·obtain rfl : i = l.length := by omega
   unfold codeL
   by_cases h0 : l = []
   ·subst h0
    simp (disch := omega) only [go_sem, ↓reduceIte]
    refine bran_dec (fun _ => ?_) (fun h => absurd rfl h)
    simp (disch := omega) only [go_sem, ↓reduceIte]
    rfl
   ·have h1 := List.length_pos_iff.2 h0
    rw [if_neg h0]
    have g0 : decide ((l.length : Int) = 0) = false := decide_eq_false (by omega)
    simp (disch := omega) only [go_sem, ↓reduceIte, e1, g0]
    try simp
theorem w_r02_Merge (p : List Int) (a b : Nat) (hl : p.length ≤ 1000) (ha : a < p.length) (hb : b < p.length) : W P (c_r02_Merge F) (Done [.t 6] [] (.arr 1 (ints (mergeL p a b))) []) (init [.lst 1 (ints p), .int .i64 a, .int .i64 b]) := by
 refine W_of ?_
 have ht : ∀ i : Nat, i < p.length → mergeL (p.take (i + 1)) (0 : Int) 0 = mergeL (p.take (i + 1)) 0 0 := fun i hi => rfl
 have hE : mergeL p a b = p.map fun k => if k = max (gt p a) (gt p b) then min (gt p a) (gt p b) else k := rfl
 have hlo : min (gt p a) (gt p b) = if gt p b < gt p a then gt p b else gt p a := by rw [Int.min_def]; split <;> split <;> omega
 have hhi : max (gt p a) (gt p b) = if gt p a < gt p b then gt p b else gt p a := by rw [Int.max_def]; split <;> split <;> omega
 rw [hE, hlo, hhi]
 clear hE ht hlo hhi
 simp (disch := omega) only [go_sem, ↓reduceIte]
 generalize (if gt p (b : Int) < gt p (a : Int) then gt p (b : Int) else gt p (a : Int)) = lo
 generalize (if gt p (a : Int) < gt p (b : Int) then gt p (b : Int) else gt p (a : Int)) = hi
 refine W_loop (fun i : Nat => ⟨[(0, .lst 1 (ints p)), (7, .int .i64 lo), (8, .int .i64 hi), (9, .sl 0 0 i), (10, .int .i64 i)], [(0, .arr 1 (ints ((p.take i).map fun k => if k = hi then lo else k)))], 1⟩) (fun i => i ≤ p.length) (fun i => p.length - i) 0 ?_ ?_ ?_
 ·simp (disch := omega) only [go_sem, ↓reduceIte, ints_nil]
  rfl
 ·simp
 ·intro i hi'
  have e1 : ((p.take i).map fun k => if k = hi then lo else k).length = i := by simp; omega
  simp (disch := omega) only [go_sem, ↓reduceIte, c_r02_Merge_b10]
  refine bran_dec (fun c => ?_) (fun c => ?_)
  ·simp (disch := omega) only [go_sem, ↓reduceIte]
   refine bran_dec (fun d => ?_) (fun d => ?_)
   ·simp (disch := omega) only [go_sem, ↓reduceIte, e1]
    exact ⟨i + 1, by rw [take_gt (by omega)]; simp [d], by omega, by omega⟩
   ·simp (disch := omega) only [go_sem, ↓reduceIte, e1]
    exact ⟨i + 1, by rw [take_gt (by omega)]; simp [d], by omega, by omega⟩
  ·obtain rfl : i = p.length := by omega
   rw [List.take_length] at e1
   simp (disch := omega) only [go_sem, ↓reduceIte, e1]
theorem w_r02_Valid (p : List Int) (hp : Pv p) : W P (c_r02_Valid F) (Done [.t 2] [] (.bool true) []) (init [.lst 1 (ints p)]) := by
 refine W_of ?_
 obtain ⟨hl, h⟩ := hp
 have g0 : decide ((80 : Int) < p.length) = false := decide_eq_false (by omega)
 simp (disch := omega) only [go_sem, ↓reduceIte, g0]
 refine W_loop (fun i : Nat => ⟨[(0, .lst 1 (ints p)), (3, .int .i64 i)], [], 0⟩) (fun i => i ≤ p.length) (fun i => p.length - i) 0 ?_ ?_ ?_
 ·simp (disch := omega) only [go_sem, ↓reduceIte]
  rfl
 ·simp
 ·intro i hi
  by_cases c : i < p.length
  ·obtain ⟨⟨h1, h2⟩, h3⟩ := h i c
   have g1 : decide ((i : Int) < p.length) = true := decide_eq_true (by omega)
   have g2 : decide (gt p i < 0) = false := decide_eq_false (by omega)
   have g3 : decide ((i : Int) < gt p i) = false := decide_eq_false (by omega)
   have g4 : decide (gt p (gt p i) = gt p i) = true := decide_eq_true h3
   simp (disch := omega) only [go_sem, ↓reduceIte, c_r02_Valid_b8, g1, g2, g3, g4]
   exact ⟨i + 1, by simp, by omega, by omega⟩
  ·have g1 : decide ((i : Int) < p.length) = false := decide_eq_false (by omega)
   simp (disch := omega) only [go_sem, ↓reduceIte, c_r02_Valid_b8, g1]
theorem w_r02_one (hv : K_r02_Valid P F) (p : List Int) (hp : Pv p) : W P (c_r02_one F) (Done [.t 2] [] (.int .i64 0) []) (init [.lst 1 (ints p)]) := by
 refine W_of ?_
 have r := hv p hp
 obtain ⟨hl, h⟩ := hp
 have g0 : decide ((80 : Int) < p.length) = false := decide_eq_false (by omega)
 simp (disch := omega) only [go_sem, ↓reduceIte, g0]
 refine call_by r ?_
 simp (disch := omega) only [go_sem, ↓reduceIte]
theorem w_r02_Quotient (ho : K_r02_one P F) (p : List Int) (hp : Pv p) : W P (c_r02_Quotient F) (Done [.t 2, .t 3, .t 4] [] (.tup [.arr 1 (ints (quo p p.length).1), .int .i64 (quo p p.length).2, .int .i64 0]) []) (init [.lst 1 (ints p)]) := by
 refine W_of ?_
 have r := ho p hp
 obtain ⟨hl, h⟩ := hp
 have ql : ∀ i : Nat, (quo p i).1.length = i ∧ (quo p i).2 ≤ i := fun i => by
  induction i with
  | zero => simp [quo]
  | succ i ih =>
   rw [quo]
   split <;> simp [ih.1] <;> omega
 simp (disch := omega) only [go_sem, ↓reduceIte]
 refine call_by r ?_
 simp (disch := omega) only [go_sem, ↓reduceIte]
 refine W_loop (fun i : Nat => ⟨[(0, .lst 1 (ints p)), (6, .sl 0 0 i), (7, .int .i64 (quo p i).2), (8, .int .i64 i)], [(0, .arr 1 (ints (quo p i).1))], 1⟩) (fun i => i ≤ p.length) (fun i => p.length - i) 0 ?_ ?_ ?_
 ·simp (disch := omega) only [go_sem, ↓reduceIte, ints_nil, quo]
  rfl
 ·simp
 ·intro i hi
  obtain ⟨e1, e2⟩ := ql i
  have hs : quo p (i + 1) = if gt p i = i then ((quo p i).1 ++ [((quo p i).2 : Int)], (quo p i).2 + 1) else ((quo p i).1 ++ [gt (quo p i).1 (gt p i)], (quo p i).2) := rfl
  simp (disch := omega) only [go_sem, ↓reduceIte, c_r02_Quotient_b13]
  refine bran_dec (fun c => ?_) (fun c => ?_)
  ·obtain ⟨⟨h1, h2⟩, h3⟩ := h i (by omega)
   simp (disch := omega) only [go_sem, ↓reduceIte]
   refine bran_dec (fun d => ?_) (fun d => ?_)
   ·rw [if_pos d] at hs
    simp (disch := omega) only [go_sem, ↓reduceIte, e1]
    exact ⟨i + 1, by simp [hs], by omega, by omega⟩
   ·rw [if_neg d] at hs
    simp (disch := omega) only [go_sem, ↓reduceIte, e1]
    exact ⟨i + 1, by simp [hs], by omega, by omega⟩
  ·obtain rfl : i = p.length := by omega
   simp (disch := omega) only [go_sem, ↓reduceIte, e1]
end
def closeP (g : G) (ns es : List Int) : Mo := ⟨sel (fun k : Nat => decide ((k : Int) ∈ ns) || decide ((k : Int) ∈ endsL g es)) g.n.length, sel (fun k : Nat => decide ((k : Int) ∈ es)) g.e.length⟩
section
theorem gt_setB {α : Type} [Inhabited α] {l : List α} {k i : Nat} {v : α} (hi : i < l.length) : gt (l.set k v) i = if k = i then v else gt l i := by
 rw [gt_nat (by simpa using hi), gt_nat hi, List.getElem_set]
theorem closeP_ok {g : G} {ns es : List Int} (hv : validG g = 0) : PK g (closeP g ns es) := by
 refine ⟨hv, sel_asc _ _, sel_asc _ _, fun x hx => ?_⟩
 obtain ⟨k, hk, hk2, rfl⟩ := sel_mem.1 hx
 simp only [decide_eq_true_eq] at hk2
 obtain ⟨_, t2, t3⟩ := edge_fits hv (i := k) (by omega)
 obtain ⟨a, ha, ha2⟩ := gtI t2
 obtain ⟨b, hb, hb2⟩ := gtI t3
 simp only [closeP]
 rw [ha2, hb2, sel_memN, sel_memN]
 refine ⟨⟨ha, ?_⟩, hb, ?_⟩
 ·simp only [Bool.or_eq_true, decide_eq_true_eq]
  exact .inr (ends_mem.2 ⟨k, hk2, .inl ha2⟩)
 ·simp only [Bool.or_eq_true, decide_eq_true_eq]
  exact .inr (ends_mem.2 ⟨k, hk2, .inr hb2⟩)
theorem mo_extP {x y : Mo} (h1 : x.n = y.n) (h2 : x.e = y.e) : x = y := by cases x; cases y; simp only at h1 h2; rw [h1, h2]
end
@[go_sem] def c_r07_has_r0 : LL := [qb 4 false]
@[go_sem] def c_r07_has_r1 : LL := [qi 5 0]
@[go_sem] def c_r07_has_r2 : LL := [qm 6 5,qm 7 0,qz 8 7,qo .lss 9 6 8]
@[go_sem] def c_r07_has_r3 : LL := [qm 12 0,qm 13 5,qd 14 1 12 13,ql 15 1 14,qm 16 1,qo .eql 17 15 16]
@[go_sem] def c_r07_has_r4 : LL := [qb 4 true]
@[go_sem] def c_r07_has_r5 : LL := [qm 10 5,qk .add 11 10 1,qm 5 11]
def c_r07_has_b6 : LC := (.seq (.seq (.reg c_r07_has_r2 [0,1,5,9]) (.cond (.t 9) .skip (.exit 0))) (.seq (.block 1 (.seq (.reg c_r07_has_r3 [0,1,5,17]) (.cond (.t 17) (.seq (.reg c_r07_has_r4 [4]) .ret) .skip))) (.reg c_r07_has_r5 [0,1,5])))
@[go_sem] def c_r07_has_r7 : LL := [qb 4 false]
@[go_sem] def c_r07_has (F : Fn) : LC := (.seq (.reg c_r07_has_r0 [0,1]) (.seq (.seq (.reg c_r07_has_r1 [0,1,5]) (.block 0 (.loop [0,1,5] c_r07_has_b6))) (.seq (.reg c_r07_has_r7 [4]) .ret)))
def h_r07_has : Hints := hn [] [(0,[0,1]),(1,[0,1,5]),(2,[0,1,5,9]),(3,[0,1,5]),(4,[0,1,5,17]),(5,[4]),(6,[4])] [(2,[0,1,5])]
@[go_sem] def c_r07_ascending_r0 : LL := [qi 4 0]
@[go_sem] def c_r07_ascending_r1 : LL := [qi 5 0]
@[go_sem] def c_r07_ascending_r2 : LL := [qm 6 5,qm 7 0,qz 8 7,qo .lss 9 6 8]
@[go_sem] def c_r07_ascending_r3 : LL := [qm 12 0,qm 13 5,qd 14 1 12 13,ql 15 1 14,qk .lss 16 15 0,qm 17 16,qg 17 false (qm 18 0),qg 17 false (qm 19 5),qg 17 false (qd 20 1 18 19),qg 17 false (ql 21 1 20),
 qg 17 false (qm 22 1),qg 17 false (qo .geq 23 21 22),qQ 24 17 23]
@[go_sem] def c_r07_ascending_r4 : LL := [qi 4 6]
@[go_sem] def c_r07_ascending_r5 : LL := [qm 25 5,qk .gtr 26 25 0,qm 27 26,qg 27 true (qm 28 0),qg 27 true (qm 29 5),qg 27 true (qd 30 1 28 29),qg 27 true (ql 31 1 30),qg 27 true (qm 32 0),qg 27 true (qm 33 5),
 qg 27 true (qk .sub 34 33 1),qg 27 true (qd 35 1 32 34),qg 27 true (ql 36 1 35),qg 27 true (qo .leq 37 31 36),qP 38 27 37]
@[go_sem] def c_r07_ascending_r6 : LL := [qi 4 12]
@[go_sem] def c_r07_ascending_r7 : LL := [qm 10 5,qk .add 11 10 1,qm 5 11]
def c_r07_ascending_b8 : LC := (.seq (.seq (.reg c_r07_ascending_r2 [0,1,5,9]) (.cond (.t 9) .skip (.exit 0))) (.seq (.block 1 (.seq (.seq (.reg c_r07_ascending_r3 [0,1,5,24]) (.cond (.t 24) (.seq (.reg c_r07_ascending_r4 [4]) .ret) .skip)) (.seq (.dreg [] c_r07_ascending_r5 [0,1,5,38]) (.cond (.t 38) (.seq (.reg c_r07_ascending_r6 [4]) .ret) .skip)))) (.reg c_r07_ascending_r7 [0,1,5])))
@[go_sem] def c_r07_ascending_r9 : LL := [qi 4 0]
@[go_sem] def c_r07_ascending (F : Fn) : LC := (.seq (.reg c_r07_ascending_r0 [0,1]) (.seq (.seq (.reg c_r07_ascending_r1 [0,1,5]) (.block 0 (.loop [0,1,5] c_r07_ascending_b8))) (.seq (.reg c_r07_ascending_r9 [4]) .ret)))
def h_r07_ascending : Hints := hn [] [(0,[0,1]),(1,[0,1,5]),(2,[0,1,5,9]),(3,[0,1,5]),(4,[0,1,5,24]),(5,[4]),(6,[0,1,5,38]),(7,[4]),(8,[4])] [(2,[0,1,5])]
@[go_sem] def c_r07_Right_r0 : LL := [qB 2 0,qB 3 1,qi 4 0]
@[go_sem] def c_r07_Right_r1 (F : Fn) : LL := [qf 9 0 3,ql 10 1 9,qf 11 0 2,ql 12 1 11,qz 13 12,qc 14 (F "r07.ascending") [.t 10,.t 13],qm 5 14]
@[go_sem] def c_r07_Right_r2 : LL := [qm 15 5,qk .neq 16 15 0]
@[go_sem] def c_r07_Right_r3 : LL := [qm 17 5,qm 4 17]
@[go_sem] def c_r07_Right_r4 (F : Fn) : LL := [qf 18 1 3,ql 19 1 18,qf 20 1 2,ql 21 1 20,qz 22 21,qc 23 (F "r07.ascending") [.t 19,.t 22],qm 6 23]
@[go_sem] def c_r07_Right_r5 : LL := [qm 24 6,qk .neq 25 24 0]
@[go_sem] def c_r07_Right_r6 : LL := [qm 26 6,qm 4 26]
@[go_sem] def c_r07_Right_r7 : LL := [qi 7 0]
@[go_sem] def c_r07_Right_r8 : LL := [qm 27 7,qf 28 1 3,ql 29 1 28,qz 30 29,qo .lss 31 27 30]
@[go_sem] def c_r07_Right_r9 : LL := [qf 34 1 2,ql 35 1 34,qf 36 1 3,ql 37 1 36,qm 38 7,qd 39 1 37 38,ql 40 1 39,qd 41 3 35 40,qL 42 3 41,qa 8 [.int .i64 (0),.int .i64 (0),.int .i64 (0)],qs 3 8 42]
@[go_sem] def c_r07_Right_r10 (F : Fn) : LL := [qf 43 0 3,ql 44 1 43,qf 45 1 8,ql 46 1 45,qc 47 (F "r07.has") [.t 44,.t 46],qv 48 47,qm 49 48,qg 49 false (qf 50 0 3),qg 49 false (ql 51 1 50),qg 49 false (qf 52 2 8),
 qg 49 false (ql 53 1 52),qg 49 false (qc 54 (F "r07.has") [.t 51,.t 53]),qg 49 false (qv 55 54),qQ 56 49 55]
@[go_sem] def c_r07_Right_r11 : LL := [qi 4 14]
@[go_sem] def c_r07_Right_r12 : LL := [qm 32 7,qk .add 33 32 1,qm 7 33]
def c_r07_Right_b13 (F : Fn) : LC := (.seq (.seq (.reg c_r07_Right_r8 [2,3,7,31]) (.cond (.t 31) .skip (.exit 0))) (.seq (.block 1 (.seq (.dreg [] c_r07_Right_r9 [2,3,7,8]) (.seq (.reg (c_r07_Right_r10 F) [2,3,7,56]) (.cond (.t 56) (.seq (.reg c_r07_Right_r11 [4]) .ret) .skip)))) (.reg c_r07_Right_r12 [2,3,7])))
@[go_sem] def c_r07_Right_r14 : LL := [qi 4 0]
@[go_sem] def c_r07_Right (F : Fn) : LC := (.seq (.reg c_r07_Right_r0 [2,3]) (.seq (.seq (.reg (c_r07_Right_r1 F) [2,3,5]) (.seq (.reg c_r07_Right_r2 [2,3,5,16]) (.cond (.t 16) (.seq (.reg c_r07_Right_r3 [4]) .ret) .skip))) (.seq (.seq (.reg (c_r07_Right_r4 F) [2,3,6]) (.seq (.reg c_r07_Right_r5 [2,3,6,25]) (.cond (.t 25) (.seq (.reg c_r07_Right_r6 [4]) .ret) .skip))) (.seq (.seq (.reg c_r07_Right_r7 [2,3,7]) (.block 0 (.loop [2,3,7] (c_r07_Right_b13 F)))) (.seq (.reg c_r07_Right_r14 [4]) .ret)))))
def h_r07_Right : Hints := hn [] [(0,[2,3]),(1,[2,3,5]),(2,[2,3,5,16]),(3,[4]),(4,[2,3,6]),(5,[2,3,6,25]),(6,[4]),(7,[2,3,7]),(8,[2,3,7,31]),(9,[2,3,7]),(10,[2,3,7,8]),(11,[2,3,7,56]),(12,[4]),(13,[4])] [(8,[2,3,7])]
section
variable (P : Program) (F : String → Nat)
def K_r07_has : Prop := ∀ (l : List Int) (n : Int), l.length ≤ maxL → FC P (F "r07.has") [.lst 1 (ints l), .int .i64 n] (.bool (decide (n ∈ l))) []
def K_r07_ascending : Prop := ∀ (l : List Int) (n : Int), l.length ≤ maxL → 0 ≤ n → n ≤ 1000000 → FC P (F "r07.ascending") [.lst 1 (ints l), .int .i64 n] (.int .i64 (ascG n none l)) []
def K_r07_Right : Prop := ∀ (g : G) (p : Mo), validG g = 0 → p.n.length ≤ maxL → p.e.length ≤ maxL → FC P (F "r07.Right") [gD g, mD p] (.int .i64 (rightP g p)) []
end
section
variable {P : Program} {F : String → Nat} {α : Type}
theorem mem_take {l : List Int} {n : Int} {i : Nat} (h : i < l.length) : n ∈ l.take (i + 1) ↔ n ∈ l.take i ∨ gt l i = n := by
 rw [take_gt h]; simp [eq_comm]
theorem w_r07_has (l : List Int) (n : Int) (hl : l.length ≤ maxL) : W P (c_r07_has F) (Done [.t 4] [] (.bool (decide (n ∈ l))) []) (init [.lst 1 (ints l), .int .i64 n]) := by
 refine W_of ?_
 unfold maxL at hl
 simp (disch := omega) only [go_sem, ↓reduceIte]
 refine W_loop (fun i : Nat => ⟨[(0, .lst 1 (ints l)), (1, .int .i64 n), (5, .int .i64 i)], [], 0⟩) (fun i => i ≤ l.length ∧ n ∉ l.take i) (fun i => l.length - i) 0 ?_ ?_ ?_
 ·simp (disch := omega) only [go_sem, ↓reduceIte]
  rfl
 ·simp
 ·rintro i ⟨hi, hn⟩
  simp (disch := omega) only [go_sem, ↓reduceIte, c_r07_has_b6]
  refine bran_dec (fun c => ?_) (fun c => ?_)
  ·have hm := mem_take (n := n) (l := l) (i := i) (by omega)
   simp (disch := omega) only [go_sem, ↓reduceIte]
   refine bran_dec (fun d => ?_) (fun d => ?_)
   ·have : n ∈ l := by rw [← d]; exact gt_mem (by omega) (by omega)
    simp (disch := omega) only [go_sem, ↓reduceIte]
    simp [this]
   ·simp (disch := omega) only [go_sem, ↓reduceIte]
    exact ⟨i + 1, by simp, ⟨by omega, fun h => by rcases hm.1 h with h | h; exact hn h; exact d h⟩, by omega⟩
  ·obtain rfl : i = l.length := by omega
   rw [List.take_length] at hn
   simp (disch := omega) only [go_sem, ↓reduceIte]
   simp [hn]
theorem w_r07_ascending (l : List Int) (n : Int) (hl : l.length ≤ maxL) (h0 : 0 ≤ n) (h1 : n ≤ 1000000) : W P (c_r07_ascending F) (Done [.t 4] [] (.int .i64 (ascG n none l)) []) (init [.lst 1 (ints l), .int .i64 n]) := by
 refine W_of ?_
 unfold maxL at hl
 simp (disch := omega) only [go_sem, ↓reduceIte]
 refine W_loop (fun i : Nat => ⟨[(0, .lst 1 (ints l)), (1, .int .i64 n), (5, .int .i64 i)], [], 0⟩) (fun i => i ≤ l.length ∧ ascG n none l = ascG n (prevO l i) (l.drop i)) (fun i => l.length - i) 0 ?_ ?_ ?_
 ·simp (disch := omega) only [go_sem, ↓reduceIte]
  rfl
 ·simp [prevO]
 ·intro i hi
  simp (disch := omega) only [go_sem, ↓reduceIte, c_r07_ascending_b8]
  refine bran_dec (fun a => ?_) (fun a => ?_)
  ·have hs := asc_step n l i (by omega)
   simp (disch := omega) only [go_sem, ↓reduceIte]
   refine bran_dec (fun b => ?_) (fun b => ?_)
   ·simp (disch := omega) only [go_sem, ↓reduceIte, b]
    rw [hi.2, hs, if_neg (by omega)]
   ·simp (disch := omega) only [go_sem, ↓reduceIte, b]
    refine bran_dec (fun b2 => ?_) (fun b2 => ?_)
    ·simp (disch := omega) only [go_sem, ↓reduceIte]
     rw [hi.2, hs, if_neg (by omega)]
    ·rw [if_pos (by omega)] at hs
     simp (disch := omega) only [go_sem, ↓reduceIte]
     refine bran_dec (fun c => ?_) (fun c => ?_)
     ·simp (disch := omega) only [go_sem, ↓reduceIte, c]
      refine bran_dec (fun d => ?_) (fun d => ?_)
      ·simp (disch := omega) only [go_sem, ↓reduceIte]
       rw [hi.2, hs, if_pos ⟨by omega, d⟩]
      ·simp (disch := omega) only [go_sem, ↓reduceIte]
       exact ⟨i + 1, by simp, ⟨by omega, by rw [hi.2, hs, if_neg (fun e => d e.2)]⟩, by omega⟩
     ·simp (disch := omega) only [go_sem, ↓reduceIte, c]
      exact ⟨i + 1, by simp, ⟨by omega, by rw [hi.2, hs, if_neg (fun e => by omega)]⟩, by omega⟩
  ·simp (disch := omega) only [go_sem, ↓reduceIte]
   rw [hi.2, List.drop_of_length_le (by omega)]
   rfl
theorem w_r07_Right (hl : K_r07_ascending P F) (hh : K_r07_has P F) (g : G) (p : Mo) (hv : validG g = 0) (h1 : p.n.length ≤ maxL) (h2 : p.e.length ≤ maxL) : W P (c_r07_Right F) (Done [.t 4] [] (.int .i64 (rightP g p)) []) (init [gD g, mD p]) := by
 refine W_of ?_
 have vs := valid_spec hv
 have r1 := hl p.n g.n.length h1 (by omega) (by omega)
 have r2 := hl p.e g.e.length h2 (by omega) (by omega)
 have hR : rightP g p = if ascG g.n.length none p.n ≠ 0 then ascG g.n.length none p.n else if ascG g.e.length none p.e ≠ 0 then ascG g.e.length none p.e else if dangP g p = true then 14 else 0 := rfl
 rw [hR]
 by_cases c1 : ascG g.n.length none p.n = 0
 case neg =>
  rw [if_pos c1]
  generalize ascG g.n.length none p.n = v at *
  simp only [gD, mD] at *
  simp (disch := omega) only [go_sem, ↓reduceIte]
  refine call_by r1 ?_
  simp (disch := omega) only [go_sem, ↓reduceIte, c1]
 rw [if_neg (by simp [c1])]
 by_cases c2 : ascG g.e.length none p.e = 0
 case neg =>
  rw [if_pos c2]
  rw [c1] at r1
  generalize ascG g.e.length none p.e = v at *
  simp only [gD, mD] at *
  simp (disch := omega) only [go_sem, ↓reduceIte]
  refine call_by r1 ?_
  simp (disch := omega) only [go_sem, ↓reduceIte]
  refine call_by r2 ?_
  simp (disch := omega) only [go_sem, ↓reduceIte, c2]
 rw [if_neg (by simp [c2])]
 have a1 := ascG_iff.1 c1
 have a2 := ascG_iff.1 c2
 have q1 := asc_len a1
 have q2 := asc_len a2
 rw [c1] at r1
 rw [c2] at r2
 have hD : dangP g p = p.e.any fun x => !(decide ((gt g.e x).f ∈ p.n) && decide ((gt g.e x).o ∈ p.n)) := rfl
 have hx := fun x => hh p.n x (by unfold maxL; omega)
 clear hR c1 c2
 obtain ⟨gn, ge⟩ := g
 obtain ⟨pn, pe⟩ := p
 simp only [gD, mD] at *
 simp (disch := omega) only [go_sem, ↓reduceIte]
 refine call_by r1 ?_
 simp (disch := omega) only [go_sem, ↓reduceIte]
 refine call_by r2 ?_
 simp (disch := omega) only [go_sem, ↓reduceIte]
 refine W_loop (fun i : Nat => ⟨[(2, .pt 0 0), (3, .pt 1 0), (7, .int .i64 i)], [(0, .box [.lst 1 (ints gn), .lst 3 (eds ge)]), (1, .box [.lst 1 (ints pn), .lst 1 (ints pe)])], 2⟩) (fun i => i ≤ pe.length ∧ ∀ k : Nat, k < i → (gt ge (gt pe k)).f ∈ pn ∧ (gt ge (gt pe k)).o ∈ pn) (fun i => pe.length - i) 0 ?_ ?_ ?_
 ·simp (disch := omega) only [go_sem, ↓reduceIte]
  rfl
 ·exact ⟨by omega, fun k hk => by omega⟩
 ·rintro i ⟨hi, hk⟩
  by_cases c : i < pe.length
  ·have g1 : decide ((i : Int) < pe.length) = true := decide_eq_true (by omega)
   have hb := a2.b _ (gt_mem (l := pe) (j := i) (by omega) (by omega))
   have x1 := hx (gt ge (gt pe i)).f
   have x2 := hx (gt ge (gt pe i)).o
   by_cases d1 : (gt ge (gt pe i)).f ∈ pn
   ·rw [decide_eq_true d1] at x1
    by_cases d2 : (gt ge (gt pe i)).o ∈ pn
    ·rw [decide_eq_true d2] at x2
     simp (disch := omega) only [go_sem, ↓reduceIte, c_r07_Right_b13, g1]
     refine call_by x1 ?_
     simp (disch := omega) only [go_sem, ↓reduceIte]
     refine call_by x2 ?_
     simp (disch := omega) only [go_sem, ↓reduceIte]
     refine ⟨i + 1, by simp, ⟨by omega, fun k h => ?_⟩, by omega⟩
     by_cases e : k = i
     ·subst e; exact ⟨d1, d2⟩
     ·exact hk k (by omega)
    ·rw [decide_eq_false d2] at x2
     have hdt : dangP ⟨gn, ge⟩ ⟨pn, pe⟩ = true := by
      rw [hD, List.any_eq_true]
      exact ⟨_, gt_mem (l := pe) (j := i) (by omega) (by omega), by simp [d2]⟩
     rw [hdt]
     simp (disch := omega) only [go_sem, ↓reduceIte, c_r07_Right_b13, g1]
     refine call_by x1 ?_
     simp (disch := omega) only [go_sem, ↓reduceIte]
     refine call_by x2 ?_
     simp (disch := omega) only [go_sem, ↓reduceIte]
     try rfl
   ·rw [decide_eq_false d1] at x1
    have hdt : dangP ⟨gn, ge⟩ ⟨pn, pe⟩ = true := by
     rw [hD, List.any_eq_true]
     exact ⟨_, gt_mem (l := pe) (j := i) (by omega) (by omega), by simp [d1]⟩
    rw [hdt]
    simp (disch := omega) only [go_sem, ↓reduceIte, c_r07_Right_b13, g1]
    refine call_by x1 ?_
    simp (disch := omega) only [go_sem, ↓reduceIte]
    try rfl
  ·have g1 : decide ((i : Int) < pe.length) = false := decide_eq_false (by omega)
   obtain rfl : i = pe.length := by omega
   have hdt : dangP ⟨gn, ge⟩ ⟨pn, pe⟩ = false := by
    rw [hD, List.any_eq_false]
    intro x hx
    obtain ⟨k, k1, k2⟩ := mem_gt hx
    have := hk k k1
    rw [k2] at this
    simp [this]
   rw [hdt]
   simp (disch := omega) only [go_sem, ↓reduceIte, c_r07_Right_b13, g1]
   try rfl
end
@[go_sem] def c_r07_marked_r0 : LL := [qn 2 1]
@[go_sem] def c_r07_marked_r1 : LL := [qn 3 1]
@[go_sem] def c_r07_marked_r2 : LL := [qi 4 0]
@[go_sem] def c_r07_marked_r3 : LL := [qm 5 4,qm 6 0,qz 7 6,qo .lss 8 5 7]
@[go_sem] def c_r07_marked_r4 : LL := [qm 11 0,qm 12 4,qd 13 1 11 12,ql 14 1 13]
@[go_sem] def c_r07_marked_r5 : LL := [qm 15 3,qm 16 4,⟨some 17,.buildSl 1 8 (.int .i64 (0)) 1 [(0,.t 16)],none⟩,qp 18 1 8 15 17,qm 3 18]
@[go_sem] def c_r07_marked_r6 : LL := [qm 9 4,qk .add 10 9 1,qm 4 10]
def c_r07_marked_b7 : LC := (.seq (.seq (.reg c_r07_marked_r3 [0,3,4,8]) (.cond (.t 8) .skip (.exit 0))) (.seq (.block 1 (.seq (.reg c_r07_marked_r4 [0,3,4,14]) (.cond (.t 14) (.reg c_r07_marked_r5 [0,3,4]) .skip))) (.reg c_r07_marked_r6 [0,3,4])))
@[go_sem] def c_r07_marked_r8 : LL := [qm 19 3,qm 2 19]
@[go_sem] def c_r07_marked (F : Fn) : LC := (.seq (.reg c_r07_marked_r0 [0]) (.seq (.reg c_r07_marked_r1 [0,3]) (.seq (.seq (.reg c_r07_marked_r2 [0,3,4]) (.block 0 (.loop [0,3,4] c_r07_marked_b7))) (.seq (.reg c_r07_marked_r8 [2]) .ret))))
def h_r07_marked : Hints := hn [] [(0,[0]),(1,[0,3]),(2,[0,3,4]),(3,[0,3,4,8]),(4,[0,3,4]),(5,[0,3,4,14]),(6,[0,3,4]),(7,[2])] [(3,[0,3,4])]
@[go_sem] def c_r07_Least_r0 : LL := [qB 3 0,qa 6 [.nl 1,.nl 1]]
@[go_sem] def c_r07_Least_r1 : LL := [⟨some 9,.buildSl 1 1 (.bool false) 0 [],none⟩,qm 10 1,qp 11 1 1 9 10,qm 7 11]
@[go_sem] def c_r07_Least_r2 : LL := [qi 8 0]
@[go_sem] def c_r07_Least_r3 : LL := [qm 12 8,qm 13 2,qz 14 13,qo .lss 15 12 14]
@[go_sem] def c_r07_Least_r4 : LL := [qm 18 2,qm 19 8,qd 20 1 18 19,ql 21 1 20]
@[go_sem] def c_r07_Least_r5 : LL := [qm 22 7,qf 23 1 3,ql 24 1 23,qm 25 8,qd 26 3 24 25,qf 27 1 26,ql 28 1 27,qm 29 7,qf 30 1 3,ql 31 1 30,qm 32 8,qd 33 3 31 32,qf 34 2 33,ql 35 1 34,qd 36 1 22 28,
 ⟨none,.store 1 (.t 36) (.k (.bool true)),none⟩,qd 37 1 29 35,⟨none,.store 1 (.t 37) (.k (.bool true)),none⟩]
@[go_sem] def c_r07_Least_r6 : LL := [qm 16 8,qk .add 17 16 1,qm 8 17]
def c_r07_Least_b7 : LC := (.seq (.seq (.reg c_r07_Least_r3 [2,3,6,7,8,15]) (.cond (.t 15) .skip (.exit 0))) (.seq (.block 1 (.seq (.reg c_r07_Least_r4 [2,3,6,7,8,21]) (.cond (.t 21) (.dreg [] c_r07_Least_r5 [2,3,6,7,8]) .skip))) (.reg c_r07_Least_r6 [2,3,6,7,8])))
@[go_sem] def c_r07_Least_r8 (F : Fn) : LL := [qm 38 7,qc 39 (F "r07.marked") [.t 38],qm 40 2,qc 41 (F "r07.marked") [.t 40],qu 42 [.nl 1,.nl 1] [(0,1,.t 39),(1,1,.t 41)],qs 2 6 42]
@[go_sem] def c_r07_Least (F : Fn) : LC := (.seq (.reg c_r07_Least_r0 [1,2,3,6]) (.seq (.reg c_r07_Least_r1 [2,3,6,7]) (.seq (.seq (.reg c_r07_Least_r2 [2,3,6,7,8]) (.block 0 (.loop [2,3,6,7,8] c_r07_Least_b7))) (.seq (.reg (c_r07_Least_r8 F) [6]) .ret))))
def h_r07_Least : Hints := hn [] [(0,[1,2,3,6]),(1,[2,3,6,7]),(2,[2,3,6,7,8]),(3,[2,3,6,7,8,15]),(4,[2,3,6,7,8]),(5,[2,3,6,7,8,21]),(6,[2,3,6,7,8]),(7,[6])] [(3,[2,3,6,7,8])]
def markL (b : List Bool) : List Int := sel (fun k : Nat => gt b k) b.length
def leastP (g : G) (bn be : List Bool) : Mo := ⟨sel (fun k : Nat => gt bn k || decide ((k : Int) ∈ endsL g (markL be))) bn.length, markL be⟩
section
variable (P : Program) (F : String → Nat)
def K_r07_marked : Prop := ∀ b : List Bool, b.length ≤ 1000 → FC P (F "r07.marked") [.lst 1 (bls b)] (.arr 1 (ints (markL b))) []
def K_r07_Least : Prop := ∀ (g : G) (bn be : List Bool), validG g = 0 → bn.length = g.n.length → be.length = g.e.length → FC P (F "r07.Least") [gD g, .lst 1 (bls bn), .lst 1 (bls be)] (mA (leastP g bn be)) []
end
section
variable {P : Program} {F : String → Nat} {α : Type}
theorem w_r07_marked (b : List Bool) (hb : b.length ≤ 1000) : W P (c_r07_marked F) (Done [.t 2] [] (.arr 1 (ints (markL b))) []) (init [.lst 1 (bls b)]) := by
 refine W_of ?_
 have hM : markL b = sel (fun k : Nat => gt b k) b.length := rfl
 have sl := sel_len (fun k : Nat => gt b k)
 have ss := sel_succ (fun k : Nat => gt b k)
 have s0 := sel_zero (fun k : Nat => gt b k)
 rw [hM]
 clear hM
 generalize hS : sel (fun k : Nat => gt b k) = S at *
 simp (disch := omega) only [go_sem, ↓reduceIte]
 refine W_loop (fun i : Nat => ⟨[(0, .lst 1 (bls b)), (3, .sl 0 0 (S i).length), (4, .int .i64 i)], [(0, .arr 1 (ints (S i)))], 1⟩) (fun i => i ≤ b.length) (fun i => b.length - i) 0 ?_ ?_ ?_
 ·simp (disch := omega) only [go_sem, ↓reduceIte, s0, ints_nil]
  rfl
 ·simp
 ·intro i hi
  have sli := sl i
  by_cases c : i < b.length
  ·have g1 : decide ((i : Int) < b.length) = true := decide_eq_true (by omega)
   have hs := ss i
   generalize hb' : gt b i = t at *
   cases t
   ·simp (disch := omega) only [go_sem, ↓reduceIte, c_r07_marked_b7, g1, hb']
    exact ⟨i + 1, by simp [hs], by omega, by omega⟩
   ·simp (disch := omega) only [go_sem, ↓reduceIte, c_r07_marked_b7, g1, hb']
    exact ⟨i + 1, by simp [hs], by omega, by omega⟩
  ·have g1 : decide ((i : Int) < b.length) = false := decide_eq_false (by omega)
   obtain rfl : i = b.length := by omega
   simp (disch := omega) only [go_sem, ↓reduceIte, c_r07_marked_b7, g1]
theorem markL_x {b : List Bool} {x : Int} : x ∈ markL b ↔ ∃ k : Nat, k < b.length ∧ gt b k = true ∧ x = k := sel_mem
theorem markL_mem {b : List Bool} {k : Nat} : (k : Int) ∈ markL b ↔ k < b.length ∧ gt b k = true := sel_memN
set_option maxHeartbeats 1000000 in
theorem w_r07_Least (hm : K_r07_marked P F) (g : G) (bn be : List Bool) (hv : validG g = 0) (h1 : bn.length = g.n.length) (h2 : be.length = g.e.length) : W P (c_r07_Least F) (Done [.c 6 true 2] [] (mA (leastP g bn be)) []) (init [gD g, .lst 1 (bls bn), .lst 1 (bls be)]) := by
 refine W_of ?_
 have vs := valid_spec hv
 have hef : ∀ i : Nat, i < g.e.length → (0 ≤ (gt g.e i).f ∧ (gt g.e i).f < g.n.length) ∧ (0 ≤ (gt g.e i).o ∧ (gt g.e i).o < g.n.length) := fun i hi => (edge_fits hv (i := i) (by omega)).2
 have hL : leastP g bn be = ⟨sel (fun k : Nat => gt bn k || decide ((k : Int) ∈ endsL g (markL be))) bn.length, markL be⟩ := rfl
 have r2 := hm be (by omega)
 have hm1 := fun z : List Bool => hm z
 have ends : ∀ (i : Nat) (x : Int), x ∈ endsL g ((markL be).filter fun e => decide (e < ((i + 1 : Nat) : Int))) ↔ x ∈ endsL g ((markL be).filter fun e => decide (e < (i : Int))) ∨ (i < be.length ∧ gt be i = true ∧ ((gt g.e i).f = x ∨ (gt g.e i).o = x)) := fun i x => by
  rw [ends_mem, ends_mem]
  constructor
  ·rintro ⟨e, he, hx⟩
   rw [List.mem_filter] at he
   obtain ⟨he, hlt⟩ := he
   obtain ⟨k, hk, hk2, rfl⟩ := sel_mem.1 he
   by_cases c : k = i
   ·subst c; exact .inr ⟨hk, hk2, hx⟩
   ·refine .inl ⟨k, List.mem_filter.2 ⟨he, ?_⟩, hx⟩
    simp at hlt ⊢
    omega
  ·rintro (⟨e, he, hx⟩ | ⟨h3, h4, hx⟩)
   ·rw [List.mem_filter] at he
    refine ⟨e, List.mem_filter.2 ⟨he.1, ?_⟩, hx⟩
    have := he.2
    simp at this ⊢
    omega
   ·exact ⟨i, List.mem_filter.2 ⟨markL_mem.2 ⟨h3, h4⟩, by simp; omega⟩, hx⟩
 have endsZ : ∀ x : Int, ¬ x ∈ endsL g ((markL be).filter fun e => decide (e < ((0 : Nat) : Int))) := fun x h => by
  obtain ⟨e, he, _⟩ := ends_mem.1 h
  rw [List.mem_filter] at he
  obtain ⟨k, _, _, rfl⟩ := sel_mem.1 he.1
  have := he.2
  simp at this
  omega
 have endsF : (markL be).filter (fun e => decide (e < (be.length : Int))) = markL be := List.filter_eq_self.2 fun e he => by
  obtain ⟨k, hk, _, rfl⟩ := sel_mem.1 he
  simpa using hk
 rw [hL]
 clear hL
 obtain ⟨gn, ge⟩ := g
 simp only [gD] at *
 simp (config := { maxSteps := 1000000 }) (disch := first | omega | (simp only [go_sem]; omega)) only [go_sem, ↓reduceIte]
 refine W_loop (fun s : Nat × List Bool => ⟨[(2, .lst 1 (bls be)), (3, .pt 0 0), (6, .pt 3 0), (7, .sl 4 0 gn.length), (8, .int .i64 s.1)], [(0, .box [.lst 1 (ints gn), .lst 3 (eds ge)]), (1, .arr 1 []), (2, .arr 1 []), (3, .box [.sl 1 0 0, .sl 2 0 0]), (4, .arr 1 (bls s.2))], 5⟩)
  (fun s => s.1 ≤ be.length ∧ s.2.length = gn.length ∧ ∀ k : Nat, k < gn.length → gt s.2 k = (gt bn k || decide ((k : Int) ∈ endsL ⟨gn, ge⟩ ((markL be).filter fun e => decide (e < (s.1 : Int)))))) (fun s => be.length - s.1) (0, bn) ?_ ?_ ?_
 ·simp (config := { maxSteps := 1000000 }) (disch := first | omega | (simp only [go_sem]; omega)) only [go_sem, ↓reduceIte, h1]
  rfl
 ·exact ⟨by simp, h1, fun k hk => by rw [decide_eq_false (endsZ k)]; simp⟩
 ·rintro ⟨i, z⟩ ⟨i1, i2, i3⟩
  simp only at i1 i2 i3
  by_cases c : i < be.length
  ·have g1 : decide ((i : Int) < be.length) = true := decide_eq_true (by omega)
   obtain ⟨⟨f1, f2⟩, o1, o2⟩ := hef i (by omega)
   generalize hb' : gt be i = t at *
   cases t
   ·simp (config := { maxSteps := 1000000 }) (disch := first | omega | (simp only [go_sem]; omega)) only [go_sem, ↓reduceIte, c_r07_Least_b7, g1, hb']
    refine ⟨(i + 1, z), by simp, ⟨by simp only; omega, i2, fun k hk => ?_⟩, by simp only; omega⟩
    rw [i3 k hk]
    have := ends i k
    rw [hb'] at this
    have this' : (k : Int) ∈ endsL ⟨gn, ge⟩ ((markL be).filter fun e => decide (e < ((i + 1 : Nat) : Int))) ↔ (k : Int) ∈ endsL ⟨gn, ge⟩ ((markL be).filter fun e => decide (e < (i : Int))) := by rw [this]; simp
    simp only
    rw [decide_eq_decide.2 this']
   ·simp (config := { maxSteps := 1000000 }) (disch := first | omega | (simp only [go_sem]; omega)) only [go_sem, ↓reduceIte, c_r07_Least_b7, g1, hb', i2]
    refine ⟨(i + 1, (z.set (gt ge i).f.toNat true).set (gt ge i).o.toNat true), by simp, ⟨by simp only; omega, by simp [i2], fun k hk => ?_⟩, by simp only; omega⟩
    have := ends i k
    rw [hb'] at this
    have this' : (k : Int) ∈ endsL ⟨gn, ge⟩ ((markL be).filter fun e => decide (e < ((i + 1 : Nat) : Int))) ↔ (k : Int) ∈ endsL ⟨gn, ge⟩ ((markL be).filter fun e => decide (e < (i : Int))) ∨ ((gt ge i).f = (k : Int) ∨ (gt ge i).o = (k : Int)) := by rw [this]; simp [c]
    have hdec : decide ((k : Int) ∈ endsL ⟨gn, ge⟩ ((markL be).filter fun e => decide (e < ((i + 1 : Nat) : Int)))) = (decide ((k : Int) ∈ endsL ⟨gn, ge⟩ ((markL be).filter fun e => decide (e < (i : Int)))) || (decide ((gt ge i).f = (k : Int)) || decide ((gt ge i).o = (k : Int)))) := by
     rw [Bool.eq_iff_iff]
     simp only [decide_eq_true_eq, Bool.or_eq_true]
     exact this'
    simp only
    rw [gt_setB (by simp; omega), gt_setB (by omega), i3 k hk, hdec]
    by_cases e1 : (gt ge i).o.toNat = k
    ·have : (gt ge i).o = (k : Int) := by omega
     simp [e1, this, c]
    ·by_cases e2 : (gt ge i).f.toNat = k
     ·have : (gt ge i).f = (k : Int) := by omega
      simp [e1, e2, this, c]
     ·have q1 : ¬ (gt ge i).o = (k : Int) := by omega
      have q2 : ¬ (gt ge i).f = (k : Int) := by omega
      simp [e1, e2, q1, q2]
  ·have g1 : decide ((i : Int) < be.length) = false := decide_eq_false (by omega)
   obtain rfl : i = be.length := by omega
   rw [endsF] at i3
   have hz : markL z = sel (fun k : Nat => gt bn k || decide ((k : Int) ∈ endsL ⟨gn, ge⟩ (markL be))) bn.length := by
    refine asc_ext (sel_pair _ _) (sel_pair _ _) fun x => ?_
    rw [markL_x, sel_mem]
    constructor
    ·rintro ⟨k, k1, k2, rfl⟩; exact ⟨k, by omega, by rw [← i3 k (by omega)]; exact k2, rfl⟩
    ·rintro ⟨k, k1, k2, rfl⟩; exact ⟨k, by omega, by rw [i3 k (by omega)]; exact k2, rfl⟩
   have r1 := hm1 z (by omega)
   rw [hz] at r1
   generalize sel (fun k : Nat => gt bn k || decide ((k : Int) ∈ endsL ⟨gn, ge⟩ (markL be))) bn.length = w1 at *
   simp (config := { maxSteps := 1000000 }) (disch := first | omega | (simp only [go_sem]; omega)) only [go_sem, ↓reduceIte, c_r07_Least_b7, g1, i2]
   refine call_by r1 ?_
   simp (config := { maxSteps := 1000000 }) (disch := first | omega | (simp only [go_sem]; omega)) only [go_sem, ↓reduceIte]
   refine call_by r2 ?_
   simp (config := { maxSteps := 1000000 }) (disch := first | omega | (simp only [go_sem]; omega)) only [go_sem, ↓reduceIte]
   try rfl
theorem close_least {g : G} {ns es : List Int} {bn be : List Bool} (h1 : bn.length = g.n.length) (h2 : be.length = g.e.length) (h3 : ∀ k : Nat, k < g.n.length → gt bn k = decide ((k : Int) ∈ ns)) (h4 : ∀ k : Nat, k < g.e.length → gt be k = decide ((k : Int) ∈ es)) (h5 : ∀ x ∈ es, 0 ≤ x ∧ x < g.e.length) : leastP g bn be = closeP g ns es := by
 have hM : markL be = sel (fun k : Nat => decide ((k : Int) ∈ es)) g.e.length := asc_ext (sel_pair _ _) (sel_pair _ _) fun x => by
  rw [markL_x, sel_mem]
  constructor
  ·rintro ⟨k, k1, k2, rfl⟩; exact ⟨k, by omega, by rw [← h4 k (by omega)]; exact k2, rfl⟩
  ·rintro ⟨k, k1, k2, rfl⟩; exact ⟨k, by omega, by rw [h4 k (by omega)]; exact k2, rfl⟩
 have hE : ∀ x, x ∈ endsL g (markL be) ↔ x ∈ endsL g es := fun x => by
  rw [ends_mem, ends_mem, hM]
  constructor
  ·rintro ⟨e, he, hx⟩
   obtain ⟨k, _, k2, rfl⟩ := sel_mem.1 he
   exact ⟨k, by simpa using k2, hx⟩
  ·rintro ⟨e, he, hx⟩
   obtain ⟨k, hk, rfl⟩ := gtI (h5 e he)
   exact ⟨k, sel_memN.2 ⟨hk, by simpa using he⟩, hx⟩
 refine mo_extP (asc_ext (sel_pair _ _) (sel_pair _ _) fun x => ?_) hM
 rw [show (leastP g bn be).n = sel (fun k : Nat => gt bn k || decide ((k : Int) ∈ endsL g (markL be))) bn.length from rfl, show (closeP g ns es).n = sel (fun k : Nat => decide ((k : Int) ∈ ns) || decide ((k : Int) ∈ endsL g es)) g.n.length from rfl, sel_mem, sel_mem]
 constructor
 ·rintro ⟨k, k1, k2, rfl⟩
  refine ⟨k, by omega, ?_, rfl⟩
  rw [h3 k (by omega), decide_eq_decide.2 (hE k)] at k2
  exact k2
 ·rintro ⟨k, k1, k2, rfl⟩
  refine ⟨k, by omega, ?_, rfl⟩
  rw [h3 k (by omega), decide_eq_decide.2 (hE k)]
  exact k2
end
@[go_sem] def c_r06_Image_r0 : LL := [qB 2 0,qa 4 [.nl 1,.nl 3],qa 5 [.nl 1,.nl 1]]
@[go_sem] def c_r06_Image_r1 (F : Fn) : LL := [qm 20 1,qc 21 (F "r06.numbers") [.t 20],qm 6 21]
@[go_sem] def c_r06_Image_r2 (F : Fn) : LL := [qf 22 0 2,ql 23 1 22,qz 24 23,qc 25 (F "r02.Finest") [.t 24],qm 7 25]
@[go_sem] def c_r06_Image_r3 : LL := [qi 8 1]
@[go_sem] def c_r06_Image_r4 : LL := [qm 26 8,qf 27 0 2,ql 28 1 27,qz 29 28,qo .lss 30 26 29]
@[go_sem] def c_r06_Image_r5 : LL := [qm 33 6,qm 34 8,qm 35 6,qz 36 35,qo .rem 37 34 36,qd 38 1 33 37,ql 39 1 38,qm 40 8,qk .add 41 40 1,qo .rem 42 39 41,qm 9 42]
@[go_sem] def c_r06_Image_r6 : LL := [qm 43 9,qm 44 8,qo .lss 45 43 44,qm 46 45,qg 46 true (qf 47 0 2),qg 46 true (ql 48 1 47),qg 46 true (qm 49 9),qg 46 true (qd 50 1 48 49),qg 46 true (ql 51 1 50),
 qg 46 true (qf 52 0 2),qg 46 true (ql 53 1 52),qg 46 true (qm 54 8),qg 46 true (qd 55 1 53 54),qg 46 true (ql 56 1 55),qg 46 true (qo .eql 57 51 56),qP 58 46 57]
@[go_sem] def c_r06_Image_r7 (F : Fn) : LL := [qm 59 7,qm 60 9,qm 61 8,qc 62 (F "r02.Merge") [.t 59,.t 60,.t 61],qm 7 62]
@[go_sem] def c_r06_Image_r8 : LL := [qm 31 8,qk .add 32 31 1,qm 8 32]
def c_r06_Image_b9 (F : Fn) : LC := (.seq (.seq (.reg c_r06_Image_r4 [2,4,5,6,7,8,30]) (.cond (.t 30) .skip (.exit 0))) (.seq (.block 1 (.seq (.reg c_r06_Image_r5 [2,4,5,6,7,8,9]) (.seq (.dreg [] c_r06_Image_r6 [2,4,5,6,7,8,9,58]) (.cond (.t 58) (.reg (c_r06_Image_r7 F) [2,4,5,6,7,8]) .skip)))) (.reg c_r06_Image_r8 [2,4,5,6,7,8])))
@[go_sem] def c_r06_Image_r10 (F : Fn) : LL := [qm 64 7,qc 65 (F "r02.Quotient") [.t 64],qm 63 65,qx 66 63 0,qx 67 63 1,qx 68 63 2,qm 10 66,qm 11 67,qm 12 68]
@[go_sem] def c_r06_Image_r11 : LL := [qm 69 11,⟨some 70,.makeSl 1 8 (.int .i64 (0)) (.t 69),none⟩,qu 71 [.nl 1,.nl 3] [(0,1,.t 70)],qa 13 [.nl 1,.nl 3],qs 2 13 71]
@[go_sem] def c_r06_Image_r12 : LL := [qm 72 10,qu 73 [.nl 1,.nl 1] [(0,1,.t 72)],qa 14 [.nl 1,.nl 1],qs 2 14 73]
@[go_sem] def c_r06_Image_r13 : LL := [qi 15 0]
@[go_sem] def c_r06_Image_r14 : LL := [qm 74 15,qf 75 0 2,ql 76 1 75,qz 77 76,qo .lss 78 74 77]
@[go_sem] def c_r06_Image_r15 : LL := [qf 81 0 13,ql 82 1 81,qm 83 10,qm 84 15,qd 85 1 83 84,ql 86 1 85,qf 87 0 2,ql 88 1 87,qm 89 15,qd 90 1 88 89,ql 91 1 90,qd 92 1 82 86,qs 1 92 91]
@[go_sem] def c_r06_Image_r16 : LL := [qm 79 15,qk .add 80 79 1,qm 15 80]
def c_r06_Image_b17 : LC := (.seq (.seq (.reg c_r06_Image_r14 [2,4,5,6,10,13,14,15,78]) (.cond (.t 78) .skip (.exit 2))) (.seq (.block 3 (.dreg [] c_r06_Image_r15 [2,4,5,6,10,13,14,15])) (.reg c_r06_Image_r16 [2,4,5,6,10,13,14,15])))
@[go_sem] def c_r06_Image_r18 : LL := [qi 16 0]
@[go_sem] def c_r06_Image_r19 : LL := [qm 93 16,qf 94 1 2,ql 95 1 94,qz 96 95,qo .lss 97 93 96]
@[go_sem] def c_r06_Image_r20 : LL := [qf 100 1 2,ql 101 1 100,qm 102 16,qd 103 3 101 102,qf 104 0 103,ql 105 1 104,qm 106 10,qf 107 1 2,ql 108 1 107,qm 109 16,qd 110 3 108 109,qf 111 1 110,ql 112 1 111,qd 113 1 106 112,
 ql 114 1 113,qm 115 10,qf 116 1 2,ql 117 1 116,qm 118 16,qd 119 3 117 118,qf 120 2 119,ql 121 1 120,qd 122 1 115 121,ql 123 1 122,
 qu 124 [.int .i64 (0),.int .i64 (0),.int .i64 (0)] [(0,1,.t 105),(1,1,.t 114),(2,1,.t 123)],qa 17 [.int .i64 (0),.int .i64 (0),.int .i64 (0)],qs 3 17 124]
@[go_sem] def c_r06_Image_r21 : LL := [qi 18 (-1)]
@[go_sem] def c_r06_Image_r22 : LL := [qi 19 0]
@[go_sem] def c_r06_Image_r23 : LL := [qm 125 19,qf 126 1 13,ql 127 1 126,qz 128 127,qo .lss 129 125 128]
@[go_sem] def c_r06_Image_r24 : LL := [qf 132 1 13,ql 133 1 132,qm 134 19,qd 135 3 133 134,qL 136 3 135,qL 137 3 17,⟨some 138,.eqA 3 false (.t 136) (.t 137),none⟩,qm 139 138,qg 139 true (qm 140 6),
 qg 139 true (qm 141 16),qg 139 true (qm 142 19),qg 139 true (qo .add 143 141 142),qg 139 true (qm 144 6),qg 139 true (qz 145 144),qg 139 true (qo .rem 146 143 145),
 qg 139 true (qd 147 1 140 146),qg 139 true (ql 148 1 147),qg 139 true (qk .rem 149 148 2),qg 139 true (qk .eql 150 149 0),qP 151 139 150]
@[go_sem] def c_r06_Image_r25 : LL := [qm 152 19,qm 18 152]
@[go_sem] def c_r06_Image_r26 : LL := [qm 130 19,qk .add 131 130 1,qm 19 131]
def c_r06_Image_b27 : LC := (.seq (.seq (.reg c_r06_Image_r23 [2,4,5,6,10,13,14,16,17,18,19,129]) (.cond (.t 129) .skip (.exit 6))) (.seq (.block 7 (.seq (.dreg [] c_r06_Image_r24 [2,4,5,6,10,13,14,16,17,18,19,151]) (.cond (.t 151) (.reg c_r06_Image_r25 [2,4,5,6,10,13,14,16,17,18,19]) .skip))) (.reg c_r06_Image_r26 [2,4,5,6,10,13,14,16,17,18,19])))
@[go_sem] def c_r06_Image_r28 : LL := [qm 153 18,qk .lss 154 153 0]
@[go_sem] def c_r06_Image_r29 : LL := [qf 155 1 13,ql 156 1 155,qz 157 156,qm 18 157]
@[go_sem] def c_r06_Image_r30 : LL := [qf 158 1 13,ql 159 1 158,qL 160 3 17,⟨some 161,.buildSl 3 24 (.agg [.int .i64 (0),.int .i64 (0),.int .i64 (0)]) 1 [(0,.t 160)],none⟩,qp 162 3 24 159 161,qf 163 1 13,
 qs 1 163 162]
@[go_sem] def c_r06_Image_r31 : LL := [qf 164 1 14,ql 165 1 164,qm 166 18,⟨some 167,.buildSl 1 8 (.int .i64 (0)) 1 [(0,.t 166)],none⟩,qp 168 1 8 165 167,qf 169 1 14,qs 1 169 168]
@[go_sem] def c_r06_Image_r32 : LL := [qm 98 16,qk .add 99 98 1,qm 16 99]
def c_r06_Image_b33 : LC := (.seq (.seq (.reg c_r06_Image_r19 [2,4,5,6,10,13,14,16,97]) (.cond (.t 97) .skip (.exit 4))) (.seq (.block 5 (.seq (.dreg [] c_r06_Image_r20 [2,4,5,6,10,13,14,16,17]) (.seq (.reg c_r06_Image_r21 [2,4,5,6,10,13,14,16,17,18]) (.seq (.seq (.reg c_r06_Image_r22 [2,4,5,6,10,13,14,16,17,18,19]) (.block 6 (.loop [2,4,5,6,10,13,14,16,17,18,19] c_r06_Image_b27))) (.seq (.seq (.reg c_r06_Image_r28 [2,4,5,6,10,13,14,16,17,18,154]) (.cond (.t 154) (.seq (.reg c_r06_Image_r29 [2,4,5,6,10,13,14,16,17,18]) (.reg c_r06_Image_r30 [2,4,5,6,10,13,14,16,18])) .skip)) (.reg c_r06_Image_r31 [2,4,5,6,10,13,14,16])))))) (.reg c_r06_Image_r32 [2,4,5,6,10,13,14,16])))
@[go_sem] def c_r06_Image_r34 : LL := [qL 170 2 13,qL 171 2 14,qs 2 4 170,qs 2 5 171]
@[go_sem] def c_r06_Image (F : Fn) : LC := (.seq (.reg c_r06_Image_r0 [1,2,4,5]) (.seq (.reg (c_r06_Image_r1 F) [2,4,5,6]) (.seq (.reg (c_r06_Image_r2 F) [2,4,5,6,7]) (.seq (.seq (.reg c_r06_Image_r3 [2,4,5,6,7,8]) (.block 0 (.loop [2,4,5,6,7,8] (c_r06_Image_b9 F)))) (.seq (.reg (c_r06_Image_r10 F) [2,4,5,6,10,11]) (.seq (.reg c_r06_Image_r11 [2,4,5,6,10,13]) (.seq (.reg c_r06_Image_r12 [2,4,5,6,10,13,14]) (.seq (.seq (.reg c_r06_Image_r13 [2,4,5,6,10,13,14,15]) (.block 2 (.loop [2,4,5,6,10,13,14,15] c_r06_Image_b17))) (.seq (.seq (.reg c_r06_Image_r18 [2,4,5,6,10,13,14,16]) (.block 4 (.loop [2,4,5,6,10,13,14,16] c_r06_Image_b33))) (.seq (.dreg [(1,none,[],true),(2,none,[1],false)] c_r06_Image_r34 [4,5]) .ret))))))))))
def h_r06_Image : Hints := hn [] [(0,[1,2,4,5]),(1,[2,4,5,6]),(2,[2,4,5,6,7]),(3,[2,4,5,6,7,8]),(4,[2,4,5,6,7,8,30]),(5,[2,4,5,6,7,8]),(6,[2,4,5,6,7,8,9]),(7,[2,4,5,6,7,8,9,58]),(8,[2,4,5,6,7,8]),(9,[2,4,5,6,10,11]),(10,[2,4,5,6,10,13]),(11,[2,4,5,6,10,13,14]),(12,[2,4,5,6,10,13,14,15]),(13,[2,4,5,6,10,13,14,15,78]),(14,[2,4,5,6,10,13,14,15]),(15,[2,4,5,6,10,13,14,15]),(16,[2,4,5,6,10,13,14,16]),(17,[2,4,5,6,10,13,14,16,97]),(18,[2,4,5,6,10,13,14,16]),(19,[2,4,5,6,10,13,14,16,17]),(20,[2,4,5,6,10,13,14,16,17,18]),(21,[2,4,5,6,10,13,14,16,17,18,19]),(22,[2,4,5,6,10,13,14,16,17,18,19,129]),(23,[2,4,5,6,10,13,14,16,17,18,19]),(24,[2,4,5,6,10,13,14,16,17,18,19,151]),(25,[2,4,5,6,10,13,14,16,17,18,19]),(26,[2,4,5,6,10,13,14,16,17,18,154]),(27,[2,4,5,6,10,13,14,16,17,18]),(28,[2,4,5,6,10,13,14,16,18]),(29,[2,4,5,6,10,13,14,16]),(30,[4,5])] [(4,[2,4,5,6,7,8]),(13,[2,4,5,6,10,13,14,15]),(17,[2,4,5,6,10,13,14,16]),(22,[2,4,5,6,10,13,14,16,17,18,19])]
section
variable (P : Program) (F : String → Nat)
def K_r06_Image : Prop := ∀ (g : G) (l : List Int), validG g = 0 → l.length ≤ 2000000 → (∀ v ∈ l, Byte v) → FC P (F "r06.Image") [gD g, .lst 1 (u8s l)] (.tup [gA (imG g l), mA (imMo g l)]) []
end
section
variable {P : Program} {F : String → Nat} {α : Type}
theorem codeL_le {l : List Int} (h : l.length ≤ 2000000) : (codeL l).length ≤ 2000000 := by
 unfold codeL
 split
 ·simp
 ·exact h
set_option maxRecDepth 100000 in
set_option maxHeartbeats 4000000 in
theorem w_r06_Image (hn : K_r06_numbers P F) (hfi : K_r02_Finest P F) (hm : K_r02_Merge P F) (hq : K_r02_Quotient P F) (g : G) (l : List Int) (hv : validG g = 0) (hl : l.length ≤ 2000000) (hb : ∀ v ∈ l, Byte v) :
  W P (c_r06_Image F) (Done [.c 4 true 2, .c 5 true 2] [] (.tup [gA (imG g l), mA (imMo g l)]) []) (init [gD g, .lst 1 (u8s l)]) := by
 refine W_of ?_
 have r1 := hn l hl hb
 have vs := valid_spec hv
 have r2 := hfi g.n.length (by omega)
 have hG : imG g l = ⟨outN g (imgQ g l) (imgC g l) g.n.length, (imgE g (imgQ g l) (codeL l) g.e.length).1⟩ := rfl
 have hM : imMo g l = ⟨imgQ g l, (imgE g (imgQ g l) (codeL l) g.e.length).2⟩ := rfl
 have hP : imgP g l = part g (codeL l) (g.n.length - 1) := rfl
 have hQV : QV g g.n.length (imgQ g l, imgC g l) := quo_QV (part_PV (codeL_len l) (codeL_ok hb) _ (Nat.le_refl _)) _ (Nat.le_refl _)
 have hQ : (quo (part g (codeL l) (g.n.length - 1)) g.n.length) = (imgQ g l, imgC g l) := rfl
 have hpv : ∀ k : Nat, k ≤ g.n.length - 1 → PV g (part g (codeL l) k) := part_PV (codeL_len l) (codeL_ok hb)
 have hkb := key_bd (codeL_len l) (codeL_ok hb)
 have hcl := codeL_len l
 have hcm := codeL_le hl
 have hcb := codeL_ok hb
 have hEV : ∀ n : Nat, n ≤ g.e.length → EV g (imgQ g l) (imgC g l) n (imgE g (imgQ g l) (codeL l) n) := imgE_EV hv hQV.b
 generalize imG g l = ig at *
 generalize imMo g l = im at *
 generalize imgP g l = ip at *
 generalize imgQ g l = q at *
 generalize imgC g l = qc at *
 generalize codeL l = c at *
 have en : g.n = g.n := rfl
 obtain ⟨gn, ge⟩ := g
 simp only [gD, gA, mA] at *
 simp (disch := omega) only [go_sem, ↓reduceIte]
 refine call_by r1 ?_
 simp (disch := omega) only [go_sem, ↓reduceIte]
 refine call_by r2 ?_
 simp (disch := omega) only [go_sem, ↓reduceIte]
 refine W_loop (fun k : Nat => ⟨[(2, .pt 0 0), (4, .pt 3 0), (5, .pt 6 0), (6, .sl 7 0 c.length), (7, .sl 8 0 gn.length), (8, .int .i64 ((k : Int) + 1))],
  [(0, .box [.lst 1 (ints gn), .lst 3 (eds ge)]), (1, .arr 1 []), (2, .arr 3 []), (3, .box [.sl 1 0 0, .sl 2 0 0]), (4, .arr 1 []), (5, .arr 1 []), (6, .box [.sl 4 0 0, .sl 5 0 0]), (7, .arr 1 (ints c)), (8, .arr 1 (ints (part ⟨gn, ge⟩ c k)))], 9⟩)
  (fun k => k ≤ gn.length - 1) (fun k => gn.length - k) 0 ?_ ?_ ?_
 ·simp (disch := omega) only [go_sem, ↓reduceIte, part]
  simp only [nums_len]
  rfl
 ·omega
 ·intro k hk
  have pv := hpv k hk
  have hpl := pv.l
  simp only at hpl
  by_cases f : k + 1 < gn.length
  ·have g1 : decide ((k : Int) + 1 < gn.length) = true := decide_eq_true (by omega)
   have b1 := tmod_bd (x := (k : Int) + 1) (m := (c.length : Int)) (by omega) (by omega)
   have b2 := hkb (k + 1)
   have z1 : ¬ ((c.length : Int) = 0) := by omega
   have z2 : ¬ ((k : Int) + 1 + 1 = 0) := by omega
   have hky : (gt c (((k : Int) + 1).tmod c.length)).tmod ((k : Int) + 1 + 1) = keyI c (k + 1) := rfl
   have hs : part ⟨gn, ge⟩ c (k + 1) = if keyI c (k + 1) < ((k : Int) + 1) ∧ gt gn (keyI c (k + 1)) = gt gn ((k : Int) + 1) then mergeL (part ⟨gn, ge⟩ c k) (keyI c (k + 1)) ((k : Int) + 1) else part ⟨gn, ge⟩ c k := rfl
   generalize keyI c (k + 1) = ky at *
   generalize hkd : ((k : Int) + 1).tmod c.length = kd at *
   generalize part ⟨gn, ge⟩ c k = p at *
   generalize hp' : part ⟨gn, ge⟩ c (k + 1) = p' at *
   by_cases c1 : ky < (k : Int) + 1
   ·have g2 : decide (ky < (k : Int) + 1) = true := decide_eq_true c1
    by_cases c2 : gt gn ky = gt gn ((k : Int) + 1)
    ·have g3 : decide (gt gn ky = gt gn ((k : Int) + 1)) = true := decide_eq_true c2
     rw [if_pos ⟨c1, c2⟩] at hs
     obtain ⟨m, rfl⟩ : ∃ m : Nat, ky = m := ⟨ky.toNat, by omega⟩
     have r := hm p m (k + 1) (by omega) (by omega) (by omega)
     rw [show ((k + 1 : Nat) : Int) = (k : Int) + 1 from rfl] at r
     have ml := merge_len p m ((k : Int) + 1)
     rw [← hs] at r ml
     clear hs
     simp (disch := omega) only [go_sem, ↓reduceIte, c_r06_Image_b9, g1, g2, g3, z1, z2, hkd, hky]
     refine call_by r ?_
     simp (disch := omega) only [go_sem, ↓reduceIte, ml, hpl]
     exact ⟨k + 1, by simp [hp'], by omega, by omega⟩
    ·have g3 : decide (gt gn ky = gt gn ((k : Int) + 1)) = false := decide_eq_false c2
     rw [if_neg (fun h => c2 h.2)] at hs
     subst hs
     simp (disch := omega) only [go_sem, ↓reduceIte, c_r06_Image_b9, g1, g2, g3, z1, z2, hkd, hky]
     exact ⟨k + 1, by simp [hp'], by omega, by omega⟩
   ·have g2 : decide (ky < (k : Int) + 1) = false := decide_eq_false c1
    rw [if_neg (fun h => c1 h.1)] at hs
    subst hs
    simp (disch := omega) only [go_sem, ↓reduceIte, c_r06_Image_b9, g1, g2, z1, z2, hkd, hky]
    exact ⟨k + 1, by simp [hp'], by omega, by omega⟩
  ·have g1 : decide ((k : Int) + 1 < gn.length) = false := decide_eq_false (by omega)
   obtain rfl : k = gn.length - 1 := by omega
   have r3 := hq (part ⟨gn, ge⟩ c (gn.length - 1)) ⟨by omega, fun i hi => ⟨(pv.h i (by simp only; omega)).1, (pv.h i (by simp only; omega)).2.1⟩⟩
   rw [hpl] at r3
   rw [hQ] at r3
   simp only at r3
   have hql := hQV.l
   have hqb := hQV.b
   have hqc := hQV.c
   simp only at hql hqb hqc
   clear hQ hkb hpv
   generalize part ⟨gn, ge⟩ c (gn.length - 1) = p at *
   simp (disch := omega) only [go_sem, ↓reduceIte, c_r06_Image_b9, g1, hpl]
   refine call_by r3 ?_
   simp (disch := omega) only [go_sem, ↓reduceIte, hql]
   have ol := outN_len ⟨gn, ge⟩ q qc
   refine W_loop (fun i : Nat => ⟨[(2, .pt 0 0), (4, .pt 3 0), (5, .pt 6 0), (6, .sl 7 0 c.length), (10, .sl 8 0 gn.length), (13, .pt 11 0), (14, .pt 13 0), (15, .int .i64 i)],
    [(0, .box [.lst 1 (ints gn), .lst 3 (eds ge)]), (1, .arr 1 []), (2, .arr 3 []), (3, .box [.sl 1 0 0, .sl 2 0 0]), (4, .arr 1 []), (5, .arr 1 []), (6, .box [.sl 4 0 0, .sl 5 0 0]), (7, .arr 1 (ints c)), (8, .arr 1 (ints q)),
     (9, .arr 1 (ints (outN ⟨gn, ge⟩ q qc i))), (10, .arr 3 []), (11, .box [.sl 9 0 qc, .sl 10 0 0]), (12, .arr 1 []), (13, .box [.sl 8 0 gn.length, .sl 12 0 0])], 14⟩)
    (fun i => i ≤ gn.length) (fun i => gn.length - i) 0 ?_ ?_ ?_
   ·simp (disch := omega) only [go_sem, ↓reduceIte, outN, hql]
    rfl
   ·omega
   ·intro i hi
    have oli := ol i
    by_cases f : i < gn.length
    ·have g1 : decide ((i : Int) < gn.length) = true := decide_eq_true (by omega)
     have hs : outN ⟨gn, ge⟩ q qc (i + 1) = (outN ⟨gn, ge⟩ q qc i).set (gt q i).toNat (gt gn i) := rfl
     have b1 := hqb i f
     simp (disch := omega) only [go_sem, ↓reduceIte, c_r06_Image_b17, g1, hql, oli]
     exact ⟨i + 1, by simp [hs], by omega, by omega⟩
    ·have g1 : decide ((i : Int) < gn.length) = false := decide_eq_false (by omega)
     obtain rfl : i = gn.length := by omega
     simp (disch := omega) only [go_sem, ↓reduceIte, c_r06_Image_b17, g1, hql, oli]
     generalize outN ⟨gn, ge⟩ q qc gn.length = ou at *
     have hel : ge.length ≤ 80 := vs.2.1
     refine W_loop (fun i : Nat => ⟨[(2, .pt 0 0), (4, .pt 3 0), (5, .pt 6 0), (6, .sl 7 0 c.length), (10, .sl 8 0 gn.length), (13, .pt 11 0), (14, .pt 13 0), (16, .int .i64 i)],
      [(0, .box [.lst 1 (ints gn), .lst 3 (eds ge)]), (1, .arr 1 []), (2, .arr 3 []), (3, .box [.sl 1 0 0, .sl 2 0 0]), (4, .arr 1 []), (5, .arr 1 []), (6, .box [.sl 4 0 0, .sl 5 0 0]), (7, .arr 1 (ints c)), (8, .arr 1 (ints q)),
       (9, .arr 1 (ints ou)), (10, .arr 3 (eds (imgE ⟨gn, ge⟩ q c i).1)), (11, .box [.sl 9 0 qc, .sl 10 0 (imgE ⟨gn, ge⟩ q c i).1.length]), (12, .arr 1 (ints (imgE ⟨gn, ge⟩ q c i).2)), (13, .box [.sl 8 0 gn.length, .sl 12 0 i])], 14⟩)
      (fun i => i ≤ ge.length) (fun i => ge.length - i) 0 ?_ ?_ ?_
     ·simp (disch := omega) only [go_sem, ↓reduceIte, imgE, hql, oli]
      rfl
     ·omega
     ·intro i hi
      have ev := hEV i hi
      have evl := ev.l
      have evm := ev.m
      by_cases f : i < ge.length
      ·have g1 : decide ((i : Int) < ge.length) = true := decide_eq_true (by omega)
       have hs : imgE ⟨gn, ge⟩ q c (i + 1) = if findE (imgE ⟨gn, ge⟩ q c i).1 (imgX ⟨gn, ge⟩ q i) c i (imgE ⟨gn, ge⟩ q c i).1.length < 0 then ((imgE ⟨gn, ge⟩ q c i).1 ++ [imgX ⟨gn, ge⟩ q i], (imgE ⟨gn, ge⟩ q c i).2 ++ [((imgE ⟨gn, ge⟩ q c i).1.length : Int)])
        else ((imgE ⟨gn, ge⟩ q c i).1, (imgE ⟨gn, ge⟩ q c i).2 ++ [findE (imgE ⟨gn, ge⟩ q c i).1 (imgX ⟨gn, ge⟩ q i) c i (imgE ⟨gn, ge⟩ q c i).1.length]) := rfl
       generalize hE1 : imgE ⟨gn, ge⟩ q c (i + 1) = s' at *
       generalize hE0 : imgE ⟨gn, ge⟩ q c i = s at *
       obtain ⟨oe, me⟩ := s
       simp only at hs evl evm
       obtain ⟨_, e1, e2⟩ := edge_fits hv (i := i) (by simp only; omega)
       simp only at e1 e2
       have hx : imgX ⟨gn, ge⟩ q i = ⟨(gt ge i).t, gt q (gt ge i).f, gt q (gt ge i).o⟩ := rfl
       have hfo := fun k => @find_ok oe (imgX ⟨gn, ge⟩ q i) c i k
       rw [hx] at hs hfo
       clear hx
       simp (disch := omega) only [go_sem, ↓reduceIte, c_r06_Image_b33, g1, hql, evl]
       generalize (gt ge i).t = xt at *
       generalize gt q (gt ge i).f = xf at *
       generalize gt q (gt ge i).o = xo at *
       refine W_loop (fun k : Nat => ⟨[(2, .pt 0 0), (4, .pt 3 0), (5, .pt 6 0), (6, .sl 7 0 c.length), (10, .sl 8 0 gn.length), (13, .pt 11 0), (14, .pt 13 0), (16, .int .i64 i), (17, .pt 14 0), (18, .int .i64 (findE oe ⟨xt, xf, xo⟩ c i k)), (19, .int .i64 k)],
        [(0, .box [.lst 1 (ints gn), .lst 3 (eds ge)]), (1, .arr 1 []), (2, .arr 3 []), (3, .box [.sl 1 0 0, .sl 2 0 0]), (4, .arr 1 []), (5, .arr 1 []), (6, .box [.sl 4 0 0, .sl 5 0 0]), (7, .arr 1 (ints c)), (8, .arr 1 (ints q)),
         (9, .arr 1 (ints ou)), (10, .arr 3 (eds oe)), (11, .box [.sl 9 0 qc, .sl 10 0 oe.length]), (12, .arr 1 (ints me)), (13, .box [.sl 8 0 gn.length, .sl 12 0 i]), (14, .box [.int .i64 xt, .int .i64 xf, .int .i64 xo])], 15⟩)
        (fun k => k ≤ oe.length) (fun k => oe.length - k) 0 ?_ ?_ ?_
       ·simp (disch := omega) only [go_sem, ↓reduceIte, findE, evl, hql]
        rfl
       ·omega
       ·intro k hk
        by_cases fk : k < oe.length
        ·have g2 : decide ((k : Int) < oe.length) = true := decide_eq_true (by omega)
         have b1 := tmod_bd (x := (i : Int) + k) (m := (c.length : Int)) (by omega) (by omega)
         have z1 : ¬ ((c.length : Int) = 0) := by omega
         have hfs : findE oe ⟨xt, xf, xo⟩ c i (k + 1) = if gt oe k = ⟨xt, xf, xo⟩ ∧ (gt c (((i : Int) + k).tmod c.length)).tmod 2 = 0 then (k : Int) else findE oe ⟨xt, xf, xo⟩ c i k := rfl
         generalize hkd : ((i : Int) + k).tmod c.length = kd at *
         have g4 : (decide ((gt oe k).t = xt) && (decide ((gt oe k).f = xf) && decide ((gt oe k).o = xo))) = decide (gt oe k = ⟨xt, xf, xo⟩) := by
          generalize gt oe (k : Int) = e
          obtain ⟨a, b, d⟩ := e
          rw [Bool.eq_iff_iff]
          simp
         have z2 : ¬ ((2 : Int) = 0) := by omega
         by_cases c1 : gt oe k = ⟨xt, xf, xo⟩
         ·have g5 := g4.trans (decide_eq_true c1)
          by_cases c2 : (gt c kd).tmod 2 = 0
          ·have g6 : decide ((gt c kd).tmod 2 = 0) = true := decide_eq_true c2
           rw [if_pos ⟨c1, c2⟩] at hfs
           simp (disch := omega) only [go_sem, ↓reduceIte, c_r06_Image_b27, g2, z1, z2, hkd, g5, g6]
           exact ⟨k + 1, by simp [hfs], by omega, by omega⟩
          ·have g6 : decide ((gt c kd).tmod 2 = 0) = false := decide_eq_false c2
           rw [if_neg (fun h => c2 h.2)] at hfs
           simp (disch := omega) only [go_sem, ↓reduceIte, c_r06_Image_b27, g2, z1, z2, hkd, g5, g6]
           exact ⟨k + 1, by simp [hfs], by omega, by omega⟩
         ·have g5 := g4.trans (decide_eq_false c1)
          rw [if_neg (fun h => c1 h.1)] at hfs
          simp (disch := omega) only [go_sem, ↓reduceIte, c_r06_Image_b27, g2, z1, z2, hkd, g5]
          exact ⟨k + 1, by simp [hfs], by omega, by omega⟩
        ·have g2 : decide ((k : Int) < oe.length) = false := decide_eq_false (by omega)
         obtain rfl : k = oe.length := by omega
         have hfo := hfo oe.length (Nat.le_refl _)
         generalize findE oe ⟨xt, xf, xo⟩ c i oe.length = at_ at *
         by_cases c1 : at_ < 0
         ·have g3 : decide (at_ < 0) = true := decide_eq_true c1
          rw [if_pos c1] at hs
          simp (disch := omega) only [go_sem, ↓reduceIte, c_r06_Image_b27, g2, g3, evl]
          exact ⟨i + 1, by simp [hE1, hs], by omega, by omega⟩
         ·have g3 : decide (at_ < 0) = false := decide_eq_false c1
          rw [if_neg c1] at hs
          simp (disch := omega) only [go_sem, ↓reduceIte, c_r06_Image_b27, g2, g3, evl]
          exact ⟨i + 1, by simp [hE1, hs], by omega, by omega⟩
      ·have g1 : decide ((i : Int) < ge.length) = false := decide_eq_false (by omega)
       obtain rfl : i = ge.length := by omega
       generalize imgE ⟨gn, ge⟩ q c ge.length = s at *
       obtain ⟨oe, me⟩ := s
       simp only at evl evm
       subst hG hM
       simp (disch := omega) only [go_sem, ↓reduceIte, c_r06_Image_b33, g1, hql, oli, evl]
       rfl
end
end Go.Am
