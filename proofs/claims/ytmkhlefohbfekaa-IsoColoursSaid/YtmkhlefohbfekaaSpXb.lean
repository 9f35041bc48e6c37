/- A graph with its elements in another order is isomorphic to it; how many isomorphisms there are. Plain. -/
import Derived.Test.YtmkhlefohbfekaaSpPa
import Derived.Test.YtmkhlefohbfekaaSpPb
import Derived.Test.YtmkhlefohbfekaaSpPc
import Derived.Test.YtmkhlefohbfekaaSpPd
import Derived.Test.YtmkhlefohbfekaaSpXa
namespace Go.Am
open Go
set_option linter.unusedVariables false
set_option linter.unusedSimpArgs false
section
theorem perm_inj {p : List Int} {n : Nat} (hp : p.Perm (nums 0 n)) {i k : Int} (hi : 0 ≤ i ∧ i < n) (hk : 0 ≤ k ∧ k < n) (e : gt p i = gt p k) : i = k := by
 have hl : p.length = n := by rw [hp.length_eq, nums_len]
 have hnd : p.Nodup := hp.nodup_iff.2 (by
  unfold nums
  rw [List.nodup_iff_pairwise_ne, List.pairwise_map]
  exact List.Pairwise.imp (fun h e => h (by omega)) (List.nodup_iff_pairwise_ne.1 List.nodup_range))
 obtain ⟨a, rfl⟩ := Int.eq_ofNat_of_zero_le hi.1
 obtain ⟨b, rfl⟩ := Int.eq_ofNat_of_zero_le hk.1
 rw [gt_nat (by omega), gt_nat (by omega)] at e
 rw [List.nodup_iff_pairwise_ne, List.pairwise_iff_getElem] at hnd
 rcases Nat.lt_trichotomy a b with h | h | h
 ·exact absurd e (hnd a b (by omega) (by omega) h)
 ·omega
 ·exact absurd e.symm (hnd b a (by omega) (by omega) h)
theorem putO_gt {α : Type} [Inhabited α] {p : List Int} {l : List α} (hp : p.Perm (nums 0 l.length)) : ∀ k, k ≤ l.length → ∀ i : Nat, i < k → gt (putO p l k) (gt p (i : Int)) = gt l (i : Int)
 | 0, _, i, hi => by omega
 | k + 1, hk, i, hi => by
  have r1 := perm_inO hp (j := (i : Int)) (by omega) (by omega)
  have r2 := perm_inO hp (j := (k : Int)) (by omega) (by omega)
  have hlen := putO_len p l k
  obtain ⟨a, ha⟩ := Int.eq_ofNat_of_zero_le r1.1
  obtain ⟨b, hb⟩ := Int.eq_ofNat_of_zero_le r2.1
  rw [putO, hb, Int.toNat_natCast]
  rcases Nat.lt_or_ge i k with h | h
  ·have ih := putO_gt hp k (by omega) i h
   have hne : a ≠ b := fun e => by
    have := perm_inj hp (i := (i : Int)) (k := (k : Int)) (by omega) (by omega) (by rw [ha, hb, e])
    omega
   rw [ha] at ih ⊢
   rw [gt_nat (by rw [List.length_set, hlen]; omega), List.getElem_set, if_neg (fun e => hne e.symm), ← ih, gt_nat (l := putO p l k) (by rw [hlen]; omega)]
  ·obtain rfl : i = k := by omega
   have : a = b := by omega
   rw [ha, this, gt_nat (by rw [List.length_set, hlen]; omega), List.getElem_set, if_pos rfl]
theorem putO_perm {α : Type} [Inhabited α] {p : List Int} {l : List α} (hp : p.Perm (nums 0 l.length)) : (putO p l l.length).Perm l := by
 have hl : p.length = l.length := by rw [hp.length_eq, nums_len]
 have e1 : l = p.map fun x => gt (putO p l l.length) x := by
  refine List.ext_getElem (by simp [hl]) fun i h1 h2 => ?_
  have := putO_gt hp l.length (Nat.le_refl _) i h1
  rw [gt_nat h1, gt_nat (l := p) (by omega)] at this
  rw [List.getElem_map]
  exact this.symm
 have e2 : putO p l l.length = (nums 0 l.length).map fun x => gt (putO p l l.length) x := by
  refine List.ext_getElem (by simp [putO_len, nums_len]) fun i h1 h2 => ?_
  rw [putO_len] at h1
  rw [List.getElem_map]
  have : (nums 0 l.length)[i]'(by rw [nums_len]; exact h1) = (i : Int) := by
   have := nums_gt h1
   rw [gt_nat (by rw [nums_len]; exact h1)] at this
   exact this
  rw [this, gt_nat (by rw [putO_len]; exact h1)]
 have := (hp.map fun x => gt (putO p l l.length) x).symm
 rw [← e2, ← e1] at this
 exact this
theorem oth_len (g : G) (p q : List Int) : (othG g p q).n.length = g.n.length ∧ (othG g p q).e.length = g.e.length := by
 refine ⟨putO_len _ _ _, ?_⟩
 simp only [othG]
 rw [putO_len, List.length_map]
theorem oth_eperm {g : G} {p q : List Int} (hq : q.Perm (nums 0 g.e.length)) : (othG g p q).e.Perm (g.e.map (mapO p)) := by
 have := putO_perm (p := q) (l := g.e.map (mapO p)) (by rw [List.length_map]; exact hq)
 rw [List.length_map] at this
 exact this
theorem oth_valid {g : G} {p q : List Int} (vg : validG g = 0) (hp : p.Perm (nums 0 g.n.length)) (hq : q.Perm (nums 0 g.e.length)) : validG (othG g p q) = 0 := by
 obtain ⟨h1, h2, h3, h4⟩ := valid_spec vg
 obtain ⟨l1, l2⟩ := oth_len g p q
 refine valid_mk (by omega) (by omega) (fun x hx => h3 x ((putO_perm hp).mem_iff.1 hx)) fun x hx => ?_
 obtain ⟨y, hy, rfl⟩ := List.mem_map.1 ((oth_eperm hq).mem_iff.1 hx)
 have := h4 y hy
 rw [l1]
 simp only [fitsE, Bool.and_eq_true, decide_eq_true_eq] at this ⊢
 have a1 := perm_inO hp (j := y.f) (by omega) (by omega)
 have a2 := perm_inO hp (j := y.o) (by omega) (by omega)
 simp only [mapO]
 omega
theorem oth_iso {g : G} {p q : List Int} (vg : InG g) (hp : p.Perm (nums 0 g.n.length)) (hq : q.Perm (nums 0 g.e.length)) : NIso g (othG g p q) p := by
 have hl : p.length = g.n.length := by rw [hp.length_eq, nums_len]
 obtain ⟨l1, l2⟩ := oth_len g p q
 refine ⟨hl, fun i hi => ?_, fun i k hi hk e => ?_, fun i hi => ?_, fun t i k hi hk => ?_⟩
 ·rw [l1]
  exact perm_inO hp (by omega) (by omega)
 ·have := perm_inj hp (i := (i : Int)) (k := (k : Int)) (by omega) (by omega) e
  omega
 ·exact (putO_gt hp g.n.length (Nat.le_refl _) i hi).symm
 ·rw [numL_count, numL_count, (oth_eperm hq).count_eq, List.count_eq_countP, List.count_eq_countP, List.countP_map]
  refine List.countP_congr fun x hx => ?_
  have hv := vg.2.2 x hx
  obtain ⟨xt, xf, xo⟩ := x
  simp only [Function.comp_apply, mapO, beq_iff_eq, E.mk.injEq] at hv ⊢
  constructor
  ·rintro ⟨rfl, rfl, rfl⟩
   exact ⟨rfl, rfl, rfl⟩
  ·rintro ⟨h1, h2, h3⟩
   exact ⟨h1, perm_inj hp ⟨hv.1, hv.2.1⟩ (by omega) h2, perm_inj hp ⟨hv.2.2.1, hv.2.2.2⟩ (by omega) h3⟩
theorem sdR_car {a b : G} {l : List Int} (h : NIso a b l) (va : InG a) (vb : InG b) (hn : a.n.length = b.n.length) : ∀ r, Car a l (sdR a b r).1 (sdR a b r).2
 | 0 => Car.first h
 | r + 1 => by
  obtain ⟨l1, l2⟩ := sdR_length a b r
  exact (sdR_car h va vb hn r).next h va vb hn l1 l2 _
theorem rfR_iso {a b : G} {l : List Int} (h : NIso a b l) (va : InG a) (vb : InG b) (hn : a.n.length = b.n.length) {k r : Nat} {m : Int} : rfR a b k r m = none := by
 cases hd : rfR a b k r m with
 | none => rfl
 | some d =>
  obtain ⟨q, _, _, _, h4, h5, h6, _⟩ := rfR_ok hd
  obtain ⟨l1, l2⟩ := sdR_length a b q
  have hp := (sdR_car h va vb hn q).perm h hn l1 l2
  have : cntL (sdR a b q).1 d.c = cntL (sdR a b q).2 d.c := (hp.filter _).length_eq
  omega
end
attribute [local irreducible] W
@[go_sem] def c_l08_IsoColours_r0 : LL := [qB 2 0,qb 4 false]
@[go_sem] def c_l08_IsoColours_r1 (F : Fn) : LL := [qc 17 (F "l08.awake") [],qv 18 17]
@[go_sem] def c_l08_IsoColours_r2 : LL := [qb 4 false]
@[go_sem] def c_l08_IsoColours_r3 (F : Fn) : LL := [qL 19 2 2,qc 20 (F "r05.Made") [.t 19],qa 5 [.nl 1,.nl 3],qs 2 5 20]
@[go_sem] def c_l08_IsoColours_r4 (F : Fn) : LL := [qL 22 2 5,qm 23 1,qc 24 (F "l08.other") [.t 22,.t 23],qm 21 24,qx 25 21 0,qx 26 21 1,qa 6 [.nl 1,.nl 3],qa 7 [.nl 1,.nl 1],qs 2 6 25,qs 2 7 26]
@[go_sem] def c_l08_IsoColours_r5 (F : Fn) : LL := [qL 28 2 5,qc 29 (F "iso.Refine") [.t 28],qm 27 29,qx 30 27 0,qx 31 27 1,qm 8 30,qm 9 31]
@[go_sem] def c_l08_IsoColours_r6 (F : Fn) : LL := [qL 33 2 6,qc 34 (F "iso.Refine") [.t 33],qm 32 34,qx 35 32 0,qx 36 32 1,qm 10 35,qm 11 36]
@[go_sem] def c_l08_IsoColours_r7 (F : Fn) : LL := [qL 38 2 5,qL 39 2 6,qc 40 (F "iso.Find") [.t 38,.t 39],qm 37 40,qx 41 37 0,qx 42 37 1,qa 12 [.nl 1,.nl 1],qs 2 12 41,qm 13 42]
@[go_sem] def c_l08_IsoColours_r8 (F : Fn) : LL := [qL 44 2 5,qL 45 2 6,qc 46 (F "iso.Reason") [.t 44,.t 45],qm 43 46,qx 47 43 0,qx 48 43 1,qa 14 [.int .i64 (0),.nl 1,.int .i64 (0),.int .i64 (0)],qs 4 14 47,qm 15 48]
@[go_sem] def c_l08_IsoColours_r9 (F : Fn) : LL := [qm 49 9,qk .neq 50 49 0,qm 51 50,qg 51 false (qm 52 11),qg 51 false (qk .neq 53 52 0),qQ 54 51 53,qm 55 54,qg 55 false (qm 56 13),qg 55 false (qk .neq 57 56 0),qQ 58 55 57,qm 59 58,
 qg 59 false (qm 60 15),qg 59 false (qk .neq 61 60 10),qQ 62 59 61,qm 63 62,qg 63 false (qm 64 8),qg 63 false (qz 65 64),qg 63 false (qf 66 0 5),qg 63 false (ql 67 1 66),
 qg 63 false (qz 68 67),qg 63 false (qo .neq 69 65 68),qQ 70 63 69,qm 71 70,qg 71 false (qm 72 10),qg 71 false (qz 73 72),qg 71 false (qf 74 0 5),qg 71 false (ql 75 1 74),
 qg 71 false (qz 76 75),qg 71 false (qo .neq 77 73 76),qQ 78 71 77,qm 79 78,qg 79 false (qL 80 2 5),qg 79 false (qL 81 2 6),qg 79 false (qL 82 2 12),
 qg 79 false (qc 83 (F "morphism.Valid") [.t 80,.t 81,.t 82]),qg 79 false (qk .neq 84 83 0),qQ 85 79 84,qm 86 85,qg 86 false (qL 87 2 5),qg 86 false (qL 88 2 6),qg 86 false (qL 89 2 12),
 qg 86 false (qc 90 (F "r06.Valid") [.t 87,.t 88,.t 89]),qg 86 false (qk .neq 91 90 0),qQ 92 86 91]
@[go_sem] def c_l08_IsoColours_r10 : LL := [qb 4 false]
@[go_sem] def c_l08_IsoColours_r11 : LL := [qm 93 8,qz 94 93,qi 95 0]
@[go_sem] def c_l08_IsoColours_r12 : LL := [qo .lss 96 95 94]
@[go_sem] def c_l08_IsoColours_r13 : LL := [qm 97 95,qm 16 97]
@[go_sem] def c_l08_IsoColours_r14 : LL := [qm 98 8,qm 99 16,qd 100 1 98 99,ql 101 1 100,qm 102 10,qf 103 0 7,ql 104 1 103,qm 105 16,qd 106 1 104 105,ql 107 1 106,qd 108 1 102 107,ql 109 1 108,qo .neq 110 101 109,qm 111 110,
 qg 111 false (qm 112 8),qg 111 false (qm 113 16),qg 111 false (qd 114 1 112 113),qg 111 false (ql 115 1 114),qg 111 false (qm 116 10),qg 111 false (qf 117 0 12),
 qg 111 false (ql 118 1 117),qg 111 false (qm 119 16),qg 111 false (qd 120 1 118 119),qg 111 false (ql 121 1 120),qg 111 false (qd 122 1 116 121),qg 111 false (ql 123 1 122),
 qg 111 false (qo .neq 124 115 123),qQ 125 111 124]
@[go_sem] def c_l08_IsoColours_r15 : LL := [qb 4 false]
@[go_sem] def c_l08_IsoColours_r16 : LL := [qk .add 126 95 1,qm 95 126]
def c_l08_IsoColours_b17 : LC := (.seq (.reg c_l08_IsoColours_r12 [7,8,10,12,94,95,96]) (.seq (.cond (.t 96) .skip (.exit 0)) (.seq (.block 1 (.seq (.reg c_l08_IsoColours_r13 [7,8,10,12,16,94,95]) (.seq (.dreg [] c_l08_IsoColours_r14 [7,8,10,12,94,95,125]) (.cond (.t 125) (.seq (.reg c_l08_IsoColours_r15 [4]) .ret) .skip)))) (.reg c_l08_IsoColours_r16 [7,8,10,12,94,95]))))
@[go_sem] def c_l08_IsoColours_r18 : LL := [qb 4 true]
@[go_sem] def c_l08_IsoColours (F : Fn) : LC := (.seq (.reg c_l08_IsoColours_r0 [1,2]) (.seq (.seq (.reg (c_l08_IsoColours_r1 F) [1,2,18]) (.cond (.t 18) (.seq (.reg c_l08_IsoColours_r2 [4]) .ret) .skip)) (.seq (.reg (c_l08_IsoColours_r3 F) [1,5]) (.seq (.reg (c_l08_IsoColours_r4 F) [5,6,7]) (.seq (.reg (c_l08_IsoColours_r5 F) [5,6,7,8,9]) (.seq (.reg (c_l08_IsoColours_r6 F) [5,6,7,8,9,10,11]) (.seq (.reg (c_l08_IsoColours_r7 F) [5,6,7,8,9,10,11,12,13]) (.seq (.reg (c_l08_IsoColours_r8 F) [5,6,7,8,9,10,11,12,13,15]) (.seq (.seq (.reg (c_l08_IsoColours_r9 F) [7,8,10,12,92]) (.cond (.t 92) (.seq (.reg c_l08_IsoColours_r10 [4]) .ret) .skip)) (.seq (.seq (.reg c_l08_IsoColours_r11 [7,8,10,12,94,95]) (.block 0 (.loop [7,8,10,12,94,95] c_l08_IsoColours_b17))) (.seq (.reg c_l08_IsoColours_r18 [4]) .ret)))))))))))
def h_l08_IsoColours : Hints := hOf [] (c_l08_IsoColours fun _ => 0)
section
variable (P : Program) (F : String → Nat)
def K_l08_IsoColours : Prop := ∀ (x : Dr) (cs : List Int), x.ok → x.n.length ≤ maxL → x.e.length ≤ maxL → cs.length ≤ maxL → (∀ v ∈ cs, Byte v) → FC P (F "l08.IsoColours") [drD x, .lst 1 (u8s cs)] (.bool true) []
end
section
theorem stabL_len (g : G) : (stabL g).length = g.n.length := by
 have key : ∀ (k : Nat) (s : List (List Int)), s.length = g.n.length → (stb g k s).length = g.n.length := fun k => by
  induction k with
  | zero => intro s h; rw [stb, colL_length, h]
  | succ k ih =>
   intro s h
   rw [stb]
   split
   ·rw [colL_length, h]
   ·exact ih _ (nextL_length g _)
 exact key _ _ (frstL_length _)
theorem othR_ok {g : G} {cs : List Int} (vg : validG g = 0) (hb : ∀ v ∈ cs, Byte v) : validG (othR g cs).1 = 0 ∧ (othR g cs).1.n.length = g.n.length ∧ (othR g cs).1.e.length = g.e.length ∧ NIso g (othR g cs).1 (othR g cs).2.n :=
 ⟨oth_valid vg (shfL_perm hb) (shfL_perm hb), (oth_len _ _ _).1, (oth_len _ _ _).2, oth_iso (InG.of_valid vg) (shfL_perm hb) (shfL_perm hb)⟩
theorem bothE_ok {a b : G} (va : validG a = 0) (vb : validG b = 0) : bothE a b = 0 := by rw [bothE, if_pos va, vb]
theorem findP_ok {a b : G} {l : List Int} (va : validG a = 0) (vb : validG b = 0) (hs : shpB a b = true) (h : NIso a b l) : ∃ z, findP a b = .tup [mD z, .int .i64 0] ∧ validM a b z = 0 ∧ NIso a b z.n := by
 have hn : a.n.length = b.n.length := by
  simp only [shpB, Bool.and_eq_true, decide_eq_true_eq] at hs; exact hs.1
 have ia := InG.of_valid va
 have ib := InG.of_valid vb
 obtain ⟨es, he⟩ := h.ex ia ib hn
 cases hi : isos a b with
 | nil => rw [hi] at he; cases he
 | cons z t =>
  have hz : z ∈ isos a b := by rw [hi]; exact List.mem_cons_self
  refine ⟨z, ?_, mok.2 (isos_ok va vb hs hz).1, (mem_isos.1 hz).1⟩
  rw [findP, if_pos (bothE_ok va vb), if_pos hs, isoN_isos ia ib hn (by omega), hi]
  rfl
theorem rsn_none {a b : G} {l : List Int} (va : validG a = 0) (vb : validG b = 0) (hn : a.n.length = b.n.length) (h : NIso a b l) : rsnD a b = .tup [zdf, .int .i64 10] := by
 rw [rsn_same, rfrD, if_pos (bothE_ok va vb), rfR_iso h (InG.of_valid va) (InG.of_valid vb) hn]
end
section
variable {P : Program} {F : String → Nat} {α : Type}
theorem w_l08_IsoColours (hw : K_l08_awake P F) (hm : K_r05_Made P F) (ho : K_l08_other P F) (h1 : K_iso_Refine P F) (h2 : K_iso_Find P F) (h3 : K_iso_Reason P F) (h4 : K_morphism_Valid P F) (h5 : K_r06_Valid P F) (x : Dr) (cs : List Int) (hx : x.ok) (l1 : x.n.length ≤ maxL) (l2 : x.e.length ≤ maxL) (l3 : cs.length ≤ maxL) (hb : ∀ v ∈ cs, Byte v) :
  W P (c_l08_IsoColours F) (Done [.t 4] [] (.bool true) []) (init [drD x, .lst 1 (u8s cs)]) := by
 refine W_of ?_
 have r0 := hm x hx l1 l2
 have vg := madeG_valid hx
 obtain ⟨x1, x2⟩ := x
 simp only [drD] at *
 generalize madeG ⟨x1, x2⟩ = g at *
 have ig := InG.of_valid vg
 obtain ⟨vb, n1, n2, hN⟩ := othR_ok (cs := cs) vg hb
 have ib := InG.of_valid vb
 have r1 := ho g cs ig l3 hb
 obtain ⟨z, hz, vz, hzN⟩ := findP_ok vg vb (by simp [shpB, n1, n2]) hN
 have r2 := h1 g
 have r3 := h1 (othR g cs).1
 have r4 := h2 g (othR g cs).1
 have r5 := h3 g (othR g cs).1
 have r6 := h4 g (othR g cs).1 z
 have r7 := h5 g (othR g cs).1 z
 rw [refD, if_pos vg] at r2
 rw [refD, if_pos vb] at r3
 rw [hz] at r4
 rw [rsn_none vg vb n1.symm hN] at r5
 rw [vz] at r6 r7
 have e1 : ∀ i : Nat, i < g.n.length → gt (stabL g) (i : Int) = gt (stabL (othR g cs).1) (gt (othR g cs).2.n (i : Int)) := fun i hi => hN.stab ig ib n1.symm hi
 have e2 : ∀ i : Nat, i < g.n.length → gt (stabL g) (i : Int) = gt (stabL (othR g cs).1) (gt z.n (i : Int)) := fun i hi => hzN.stab ig ib n1.symm hi
 have b1 := hN.rng
 have b2 := hzN.rng
 have c1 := hN.len
 have c2 := hzN.len
 have c3 := stabL_len g
 have c4 := stabL_len (othR g cs).1
 have g1 := ig.1
 rw [n1] at b1 b2 c4
 generalize stabL g = X at *
 generalize stabL (othR g cs).1 = Y at *
 generalize (othR g cs).1 = b at *
 generalize (othR g cs).2 = m at *
 clear hN hzN hz vz ho h1 h2 h3 h4 h5 hm
 obtain ⟨gn, ge⟩ := g
 obtain ⟨bn, be⟩ := b
 obtain ⟨mn, me⟩ := m
 obtain ⟨zn, ze⟩ := z
 simp only [gD, gA, mD, mA, zdf] at *
 simp (disch := omega) only [go_sem, ↓reduceIte]
 refine call_by hw ?_
 simp (disch := omega) only [go_sem, ↓reduceIte]
 refine call_by r0 ?_
 simp (disch := omega) only [go_sem, ↓reduceIte]
 refine call_by r1 ?_
 simp (disch := omega) only [go_sem, ↓reduceIte]
 refine call_by r2 ?_
 simp (disch := omega) only [go_sem, ↓reduceIte]
 refine call_by r3 ?_
 simp (disch := omega) only [go_sem, ↓reduceIte]
 refine call_by r4 ?_
 simp (disch := omega) only [go_sem, ↓reduceIte]
 refine call_by r5 ?_
 have d1 : decide ((X.length : Int) = gn.length) = true := decide_eq_true (by omega)
 have d2 : decide ((Y.length : Int) = gn.length) = true := decide_eq_true (by omega)
 have d3 : decide ((10 : Int) = 10) = true := rfl
 simp (disch := omega) only [go_sem, ↓reduceIte, d1, d2, d3]
 refine call_by r6 ?_
 simp (disch := omega) only [go_sem, ↓reduceIte, d1, d2, d3]
 refine call_by r7 ?_
 simp (disch := omega) only [go_sem, ↓reduceIte, d1, d2, d3]
 refine W_loop (fun i : Nat => ⟨[(7, .pt 2 0), (8, .lst 1 (ints X)), (10, .lst 1 (ints Y)), (12, .pt 3 0), (94, .int .i64 X.length), (95, .int .i64 i)],
  [(0, .arr 1 (ints mn)), (1, .arr 1 (ints me)), (2, .box [.sl 0 0 mn.length, .sl 1 0 me.length]), (3, .box [.lst 1 (ints zn), .lst 1 (ints ze)])], 4⟩) (fun i => i ≤ gn.length) (fun i => gn.length - i) 0 ?_ ?_ ?_
 ·simp (disch := omega) only [go_sem, ↓reduceIte]
  rfl
 ·omega
 ·intro i hi
  simp (disch := omega) only [go_sem, ↓reduceIte, c_l08_IsoColours_b17]
  refine bran_dec (fun c => ?_) (fun c => ?_)
  ·have q1 := e1 i (by omega)
   have q2 := e2 i (by omega)
   have q3 := b1 i (by omega)
   have q4 := b2 i (by omega)
   have t1 : decide (gt X (i : Int) = gt Y (gt mn (i : Int))) = true := decide_eq_true q1
   have t2 : decide (gt X (i : Int) = gt Y (gt zn (i : Int))) = true := decide_eq_true q2
   simp (disch := omega) only [go_sem, ↓reduceIte, t1, t2]
   exact ⟨i + 1, by simp, by omega, by omega⟩
  ·simp (disch := omega) only [go_sem, ↓reduceIte]
theorem x_l08_IsoColours (h : K_l08_IsoColours P F) (args : List D) (ha : HasEls [shDr, shU8s] args) : FC P (F "l08.IsoColours") args (.bool true) [] := by
 simp only [HasEls] at ha
 obtain ⟨_, _, rfl, h1, _, _, rfl, h2, rfl⟩ := ha
 obtain ⟨x, rfl, a1, a2, a3⟩ := rd_draft h1
 obtain ⟨c, rfl, c1, c2⟩ := rd_u8s h2
 exact h x c a1 a2 a3 c2 c1
end
end Go.Am
