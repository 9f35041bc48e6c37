/- Initial pushouts: the reference's walk. -/
import Derived.Test.YtelmgaflhmcihaaGreatSpPa
import Derived.Test.YtelmgaflhmcihaaGreatSpPb
import Derived.Test.YtelmgaflhmcihaaGreatSpPc
import Derived.Test.YtelmgaflhmcihaaGreatSpPd
import Derived.Test.YtelmgaflhmcihaaGreatSpPe
import Derived.Test.YtelmgaflhmcihaaGreatSpXa
namespace Go.Am
open Go
set_option linter.unusedVariables false
set_option linter.unusedSimpArgs false
attribute [local irreducible] W
@[go_sem] def c_r14_Initial_r0 : LL := [qB 3 0,qB 4 1,qB 5 2,qa 6 [.nl 1,.nl 3,.nl 1,.nl 3,.nl 1,.nl 3,.nl 1,.nl 3,.nl 1,.nl 1,.nl 1,.nl 1,.nl 1,.nl 1,.nl 1,.nl 1],qi 7 0]
@[go_sem] def c_r14_Initial_r1 (F : Fn) : LL := [qL 17 2 3,qL 18 2 4,qL 19 2 5,qc 20 (F "r06.Valid") [.t 17,.t 18,.t 19],qm 8 20]
@[go_sem] def c_r14_Initial_r2 : LL := [qm 21 8,qk .neq 22 21 0]
@[go_sem] def c_r14_Initial_r3 : LL := [qu 23 [.nl 1,.nl 3,.nl 1,.nl 3,.nl 1,.nl 3,.nl 1,.nl 3,.nl 1,.nl 1,.nl 1,.nl 1,.nl 1,.nl 1,.nl 1,.nl 1] [],qm 24 8,qs 16 6 23,qm 7 24]
@[go_sem] def c_r14_Initial_r4 (F : Fn) : LL := [qL 25 2 3,qL 26 2 4,qL 27 2 5,qc 28 (F "r06.Injective") [.t 25,.t 26,.t 27],qv 29 28]
@[go_sem] def c_r14_Initial_r5 : LL := [qu 30 [.nl 1,.nl 3,.nl 1,.nl 3,.nl 1,.nl 3,.nl 1,.nl 3,.nl 1,.nl 1,.nl 1,.nl 1,.nl 1,.nl 1,.nl 1,.nl 1] [],qs 16 6 30,qi 7 15]
@[go_sem] def c_r14_Initial_r6 : LL := [qn 9 1]
@[go_sem] def c_r14_Initial_r7 : LL := [qa 10 [.nl 1,.nl 1]]
@[go_sem] def c_r14_Initial_r8 : LL := [qi 11 0]
@[go_sem] def c_r14_Initial_r9 : LL := [qm 31 11,qf 32 1 4,ql 33 1 32,qz 34 33,qo .lss 35 31 34]
@[go_sem] def c_r14_Initial_r10 (F : Fn) : LL := [qf 38 1 5,ql 39 1 38,qm 40 11,qc 41 (F "r14.has") [.t 39,.t 40],qv 42 41]
@[go_sem] def c_r14_Initial_r11 : LL := [qf 43 1 10,ql 44 1 43,qm 45 11,⟨some 46,.buildSl 1 8 (.int .i64 (0)) 1 [(0,.t 45)],none⟩,qp 47 1 8 44 46,qf 48 1 10,qs 1 48 47]
@[go_sem] def c_r14_Initial_r12 : LL := [qm 49 9,qf 50 1 4,ql 51 1 50,qm 52 11,qd 53 3 51 52,qf 54 1 53,ql 55 1 54,qf 56 1 4,ql 57 1 56,qm 58 11,qd 59 3 57 58,qf 60 2 59,ql 61 1 60,
 ⟨some 62,.buildSl 1 8 (.int .i64 (0)) 2 [(0,.t 55),(1,.t 61)],none⟩,qp 63 1 8 49 62,qm 9 63]
@[go_sem] def c_r14_Initial_r13 : LL := [qm 36 11,qk .add 37 36 1,qm 11 37]
def c_r14_Initial_b14 (F : Fn) : LC := (.seq (.seq (.reg c_r14_Initial_r9 [3,4,5,6,9,10,11,35]) (.cond (.t 35) .skip (.exit 0))) (.seq (.block 1 (.seq (.reg (c_r14_Initial_r10 F) [3,4,5,6,9,10,11,42]) (.cond (.t 42) (.seq (.reg c_r14_Initial_r11 [3,4,5,6,9,10,11]) (.dreg [] c_r14_Initial_r12 [3,4,5,6,9,10,11])) .skip))) (.reg c_r14_Initial_r13 [3,4,5,6,9,10,11])))
@[go_sem] def c_r14_Initial_r15 : LL := [qa 12 [.nl 1,.nl 1]]
@[go_sem] def c_r14_Initial_r16 : LL := [qi 13 0]
@[go_sem] def c_r14_Initial_r17 : LL := [qm 64 13,qf 65 0 3,ql 66 1 65,qz 67 66,qo .lss 68 64 67]
@[go_sem] def c_r14_Initial_r18 (F : Fn) : LL := [qm 71 9,qf 72 0 5,ql 73 1 72,qm 74 13,qd 75 1 73 74,ql 76 1 75,qc 77 (F "r14.has") [.t 71,.t 76]]
@[go_sem] def c_r14_Initial_r19 : LL := [qf 78 0 12,ql 79 1 78,qm 80 13,⟨some 81,.buildSl 1 8 (.int .i64 (0)) 1 [(0,.t 80)],none⟩,qp 82 1 8 79 81,qf 83 0 12,qs 1 83 82]
@[go_sem] def c_r14_Initial_r20 : LL := [qm 69 13,qk .add 70 69 1,qm 13 70]
def c_r14_Initial_b21 (F : Fn) : LC := (.seq (.seq (.reg c_r14_Initial_r17 [3,4,5,6,9,10,12,13,68]) (.cond (.t 68) .skip (.exit 2))) (.seq (.block 3 (.seq (.reg (c_r14_Initial_r18 F) [3,4,5,6,9,10,12,13,77]) (.cond (.t 77) (.reg c_r14_Initial_r19 [3,4,5,6,9,10,12,13]) .skip))) (.reg c_r14_Initial_r20 [3,4,5,6,9,10,12,13])))
@[go_sem] def c_r14_Initial_r22 : LL := [qi 14 0]
@[go_sem] def c_r14_Initial_r23 : LL := [qm 84 14,qf 85 0 4,ql 86 1 85,qz 87 86,qo .lss 88 84 87]
@[go_sem] def c_r14_Initial_r24 (F : Fn) : LL := [qf 91 0 5,ql 92 1 91,qm 93 14,qc 94 (F "r14.has") [.t 92,.t 93],qv 95 94,qm 96 95,qg 96 false (qf 97 0 12),qg 96 false (ql 98 1 97),qg 96 false (qf 99 0 5),qg 96 false (ql 100 1 99),
 qg 96 false (qm 101 14),qg 96 false (qc 102 (F "r14.at") [.t 100,.t 101]),qg 96 false (qc 103 (F "r14.has") [.t 98,.t 102]),qQ 104 96 103]
@[go_sem] def c_r14_Initial_r25 : LL := [qf 105 0 10,ql 106 1 105,qm 107 14,⟨some 108,.buildSl 1 8 (.int .i64 (0)) 1 [(0,.t 107)],none⟩,qp 109 1 8 106 108,qf 110 0 10,qs 1 110 109]
@[go_sem] def c_r14_Initial_r26 : LL := [qm 89 14,qk .add 90 89 1,qm 14 90]
def c_r14_Initial_b27 (F : Fn) : LC := (.seq (.seq (.reg c_r14_Initial_r23 [3,4,5,6,10,12,14,88]) (.cond (.t 88) .skip (.exit 4))) (.seq (.block 5 (.seq (.dreg [(7,none,[],true),(11,none,[7],false)] (c_r14_Initial_r24 F) [3,4,5,6,10,12,14,104]) (.cond (.t 104) (.reg c_r14_Initial_r25 [3,4,5,6,10,12,14]) .skip))) (.reg c_r14_Initial_r26 [3,4,5,6,10,12,14])))
@[go_sem] def c_r14_Initial_r28 (F : Fn) : LL := [qL 111 2 3,qc 112 (F "r05.Copied") [.t 111],qL 113 2 4,qc 114 (F "r05.Copied") [.t 113],qL 115 2 3,qc 116 (F "r06.Of") [.t 115],qL 117 2 5,qc 118 (F "r06.Then") [.t 116,.t 117],
 qu 119 [.nl 1,.nl 3,.nl 1,.nl 3,.nl 1,.nl 3,.nl 1,.nl 3,.nl 1,.nl 1,.nl 1,.nl 1,.nl 1,.nl 1,.nl 1,.nl 1] [(2,2,.t 112),(6,2,.t 114),(12,2,.t 118)],
 qa 15 [.nl 1,.nl 3,.nl 1,.nl 3,.nl 1,.nl 3,.nl 1,.nl 3,.nl 1,.nl 1,.nl 1,.nl 1,.nl 1,.nl 1,.nl 1,.nl 1],qs 16 15 119]
@[go_sem] def c_r14_Initial_r29 (F : Fn) : LL := [qL 121 2 3,qL 122 2 12,qc 123 (F "r07.Extract") [.t 121,.t 122],qm 120 123,qx 124 120 0,qx 125 120 1,qx 126 120 2,qf 127 0 15,qs 2 127 124,qf 128 8 15,qs 2 128 125]
@[go_sem] def c_r14_Initial_r30 (F : Fn) : LL := [qL 130 2 4,qL 131 2 10,qc 132 (F "r07.Extract") [.t 130,.t 131],qm 129 132,qx 133 129 0,qx 134 129 1,qx 135 129 2,qf 136 4 15,qs 2 136 133,qf 137 14 15,qs 2 137 134]
@[go_sem] def c_r14_Initial_r31 : LL := [qi 16 0]
@[go_sem] def c_r14_Initial_r32 : LL := [qm 138 16,qf 139 0 12,ql 140 1 139,qz 141 140,qo .lss 142 138 141]
@[go_sem] def c_r14_Initial_r33 (F : Fn) : LL := [qf 145 10 15,qf 146 0 145,ql 147 1 146,qf 148 0 10,ql 149 1 148,qf 150 0 5,ql 151 1 150,qf 152 0 12,ql 153 1 152,qm 154 16,qd 155 1 153 154,ql 156 1 155,qd 157 1 151 156,
 ql 158 1 157,qc 159 (F "r14.at") [.t 149,.t 158],⟨some 160,.buildSl 1 8 (.int .i64 (0)) 1 [(0,.t 159)],none⟩,qp 161 1 8 147 160,qf 162 10 15,qf 163 0 162,qs 1 163 161]
@[go_sem] def c_r14_Initial_r34 : LL := [qm 143 16,qk .add 144 143 1,qm 16 144]
def c_r14_Initial_b35 (F : Fn) : LC := (.seq (.seq (.reg c_r14_Initial_r32 [5,6,10,12,15,16,142]) (.cond (.t 142) .skip (.exit 6))) (.seq (.block 7 (.dreg [(2,none,[],true),(14,none,[2],false),(15,none,[2],false)] (c_r14_Initial_r33 F) [5,6,10,12,15,16])) (.reg c_r14_Initial_r34 [5,6,10,12,15,16])))
@[go_sem] def c_r14_Initial_r36 : LL := [qL 164 16 15,qs 16 6 164,qi 7 0]
@[go_sem] def c_r14_Initial (F : Fn) : LC := (.seq (.reg c_r14_Initial_r0 [3,4,5,6]) (.seq (.seq (.reg (c_r14_Initial_r1 F) [3,4,5,6,8]) (.seq (.reg c_r14_Initial_r2 [3,4,5,6,8,22]) (.cond (.t 22) (.seq (.reg c_r14_Initial_r3 [6,7]) .ret) .skip))) (.seq (.seq (.reg (c_r14_Initial_r4 F) [3,4,5,6,29]) (.cond (.t 29) (.seq (.reg c_r14_Initial_r5 [6,7]) .ret) .skip)) (.seq (.reg c_r14_Initial_r6 [3,4,5,6,9]) (.seq (.reg c_r14_Initial_r7 [3,4,5,6,9,10]) (.seq (.seq (.reg c_r14_Initial_r8 [3,4,5,6,9,10,11]) (.block 0 (.loop [3,4,5,6,9,10,11] (c_r14_Initial_b14 F)))) (.seq (.reg c_r14_Initial_r15 [3,4,5,6,9,10,12]) (.seq (.seq (.reg c_r14_Initial_r16 [3,4,5,6,9,10,12,13]) (.block 2 (.loop [3,4,5,6,9,10,12,13] (c_r14_Initial_b21 F)))) (.seq (.seq (.reg c_r14_Initial_r22 [3,4,5,6,10,12,14]) (.block 4 (.loop [3,4,5,6,10,12,14] (c_r14_Initial_b27 F)))) (.seq (.dreg [(1,none,[],true),(2,(some 0),[1],false),(3,none,[],true),(4,(some 0),[1,3],false),(5,none,[],true),(6,(some 0),[1,3,5],false)] (c_r14_Initial_r28 F) [3,4,5,6,10,12,15]) (.seq (.reg (c_r14_Initial_r29 F) [4,5,6,10,12,15]) (.seq (.reg (c_r14_Initial_r30 F) [5,6,10,12,15]) (.seq (.seq (.reg c_r14_Initial_r31 [5,6,10,12,15,16]) (.block 6 (.loop [5,6,10,12,15,16] (c_r14_Initial_b35 F)))) (.seq (.reg c_r14_Initial_r36 [6,7]) .ret))))))))))))))
def h_r14_Initial : Hints := hn [] [(0,[3,4,5,6]),(1,[3,4,5,6,8]),(2,[3,4,5,6,8,22]),(3,[6,7]),(4,[3,4,5,6,29]),(5,[6,7]),(6,[3,4,5,6,9]),(7,[3,4,5,6,9,10]),(8,[3,4,5,6,9,10,11]),(9,[3,4,5,6,9,10,11,35]),(10,[3,4,5,6,9,10,11]),(11,[3,4,5,6,9,10,11,42]),(12,[3,4,5,6,9,10,11]),(13,[3,4,5,6,9,10,11]),(14,[3,4,5,6,9,10,12]),(15,[3,4,5,6,9,10,12,13]),(16,[3,4,5,6,9,10,12,13,68]),(17,[3,4,5,6,9,10,12,13]),(18,[3,4,5,6,9,10,12,13,77]),(19,[3,4,5,6,9,10,12,13]),(20,[3,4,5,6,10,12,14]),(21,[3,4,5,6,10,12,14,88]),(22,[3,4,5,6,10,12,14]),(23,[3,4,5,6,10,12,14,104]),(24,[3,4,5,6,10,12,14]),(25,[3,4,5,6,10,12,15]),(26,[4,5,6,10,12,15]),(27,[5,6,10,12,15]),(28,[5,6,10,12,15,16]),(29,[5,6,10,12,15,16,142]),(30,[5,6,10,12,15,16]),(31,[5,6,10,12,15,16]),(32,[6,7])] [(9,[3,4,5,6,9,10,11]),(16,[3,4,5,6,9,10,12,13]),(21,[3,4,5,6,10,12,14]),(29,[5,6,10,12,15,16])]
def endU (b : G) (m : Mo) : Nat → List Int
 | 0 => []
 | i + 1 => if (i : Int) ∈ m.e then endU b m i else endU b m i ++ [(gt b.e i).f, (gt b.e i).o]
section
variable (P : Program) (F : String → Nat)
def K_r14_Initial : Prop := ∀ (a b : G) (m : Mo), m.sm → FC P (F "r14.Initial") [gD a, gD b, mD m] (.tup [sqA (iniR a b m).1, .int .i64 (iniR a b m).2]) []
end
section
variable {P : Program} {F : String → Nat} {α : Type}
theorem endU_mem {b : G} {m : Mo} {x : Int} : ∀ {n : Nat}, x ∈ endU b m n ↔ ∃ i : Nat, i < n ∧ ¬ (i : Int) ∈ m.e ∧ ((gt b.e i).f = x ∨ (gt b.e i).o = x)
 | 0 => by simp [endU]
 | n + 1 => by
  rw [endU]
  have ih := endU_mem (b := b) (m := m) (x := x) (n := n)
  split
  ·rename_i h
   rw [ih]
   constructor
   ·rintro ⟨i, h1, h2⟩; exact ⟨i, by omega, h2⟩
   ·rintro ⟨i, h1, h2, h3⟩
    by_cases e : i = n
    ·subst e; exact absurd h h2
    ·exact ⟨i, by omega, h2, h3⟩
  ·rename_i h
   rw [List.mem_append, ih]
   constructor
   ·rintro (⟨i, h1, h2⟩ | h1)
    ·exact ⟨i, by omega, h2⟩
    ·refine ⟨n, by omega, h, ?_⟩
     simp at h1
     rcases h1 with h1 | h1
     ·exact .inl h1.symm
     ·exact .inr h1.symm
   ·rintro ⟨i, h1, h2, h3⟩
    by_cases e : i = n
    ·subst e
     refine .inr ?_
     rcases h3 with h3 | h3 <;> simp [h3]
    ·exact .inl ⟨i, by omega, h2, h3⟩
theorem endU_len {b : G} {m : Mo} : ∀ n, (endU b m n).length ≤ 2 * n
 | 0 => by simp [endU]
 | n + 1 => by
  have := endU_len (b := b) (m := m) n
  rw [endU]
  split
  ·omega
  ·simp; omega
theorem endU_all {b : G} {m : Mo} {x : Int} : x ∈ endU b m b.e.length ↔ x ∈ endsL b (ctE b m) := by
 rw [endU_mem, ctE_ends]
set_option maxHeartbeats 4000000 in
theorem w_r14_Initial (hv : K_r06_Valid P F) (hj : K_r06_Injective P F) (hc : K_r14_has P F) (hx : K_r14_at P F) (he : K_r07_Extract P F) (hcp : K_r05_Copied P F) (hof : K_r06_Of P F) (hth : K_r06_Then P F) (a b : G) (m : Mo) (hsm : m.sm) : W P (c_r14_Initial F) (Done [.c 6 true 16, .t 7] [] (.tup [sqA (iniR a b m).1, .int .i64 (iniR a b m).2]) []) (init [gD a, gD b, mD m]) := by
 refine W_of ?_
 have r1 := hv a b m
 have hR : iniR a b m = if iniE a b m = 0 then (iniS a b m, 0) else (sq0, iniE a b m) := rfl
 have hE : iniE a b m = if validM a b m ≠ 0 then validM a b m else if injM a b m = true then 0 else 15 := rfl
 by_cases c0 : validM a b m = 0
 case neg =>
  rw [if_pos c0] at hE
  rw [hE, if_neg c0] at hR
  rw [hR]
  clear hR hE
  generalize validM a b m = v at *
  simp only [gD, mD] at *
  simp (disch := omega) only [go_sem, ↓reduceIte]
  refine call_by r1 ?_
  simp (disch := omega) only [go_sem, ↓reduceIte]
  refine bran_ndec (fun c => ?_) (fun c => absurd c c0)
  simp (disch := omega) only [go_sem, ↓reduceIte]
  simp [sqA, sq0, g0, m0, ints, eds]
 rw [if_neg (by simp [c0])] at hE
 rw [c0] at r1
 have hm := mok.1 c0
 have va := valid_spec hm.va
 have vb := valid_spec hm.vb
 have l1 := hm.ln
 have l2 := hm.le
 have r2 := hj a b m (by unfold maxL; omega) (by unfold maxL; omega)
 by_cases c1 : injM a b m = true
 case neg =>
  rw [if_neg c1] at hE
  rw [hE] at hR
  rw [hR]
  rw [Bool.not_eq_true] at c1
  rw [c1] at r2
  clear hR hE
  simp only [gD, mD] at *
  simp (disch := omega) only [go_sem, ↓reduceIte]
  refine call_by r1 ?_
  simp (disch := omega) only [go_sem, ↓reduceIte]
  refine call_by r2 ?_
  simp (disch := omega) only [go_sem, ↓reduceIte]
  simp [sqA, sq0, g0, m0, ints, eds]
 rw [if_pos c1] at hE
 rw [hE, if_pos rfl] at hR
 rw [hR]
 rw [c1] at r2
 have hn : m.n.Nodup := ((injM_ok hm).1 c1).1
 have rc := fun x : Int => hc m.e x (by unfold maxL; omega)
 have rn := fun x : Int => hc m.n x (by unfold maxL; omega)
 have rx := fun x : Int => hx m.n x (by unfold maxL; omega)
 have es := sel_succ (fun i : Nat => !decide ((i : Int) ∈ m.e))
 have ez := sel_zero (fun i : Nat => !decide ((i : Int) ∈ m.e))
 have esl := sel_len (fun i : Nat => !decide ((i : Int) ∈ m.e))
 have ul := endU_len (b := b) (m := m)
 have us : ∀ i : Nat, endU b m (i + 1) = if (i : Int) ∈ m.e then endU b m i else endU b m i ++ [(gt b.e i).f, (gt b.e i).o] := fun i => rfl
 have uz : endU b m 0 = [] := rfl
 have ru : ∀ i : Nat, FC P (F "r14.has") [.lst 1 (ints (endU b m b.e.length)), .int .i64 (gt m.n i)] (.bool (decide (gt m.n i ∈ endsL b (ctE b m)))) [] := fun i => by
  have := hc (endU b m b.e.length) (gt m.n i) (by have := ul b.e.length; unfold maxL; omega)
  have e : decide (gt m.n i ∈ endsL b (ctE b m)) = decide (gt m.n i ∈ endU b m b.e.length) := by rw [decide_eq_decide, endU_all]
  rw [e]; exact this
 have bs := sel_succ (fun k : Nat => decide (gt m.n k ∈ endsL b (ctE b m)))
 have bz := sel_zero (fun k : Nat => decide (gt m.n k ∈ endsL b (ctE b m)))
 have bl := sel_len (fun k : Nat => decide (gt m.n k ∈ endsL b (ctE b m)))
 have hBd : bdN a b m = sel (fun k : Nat => decide (gt m.n k ∈ endsL b (ctE b m))) a.n.length := rfl
 have hCe : ctE b m = sel (fun i : Nat => !decide ((i : Int) ∈ m.e)) b.e.length := rfl
 have hbnd : ∀ i x : Nat, x ∈ [i] → True := fun _ _ _ => trivial
 have hCN : ctN a b m = sel (fun i : Nat => !decide ((i : Int) ∈ m.n) || decide ((i : Int) ∈ thr (bdN a b m) m.n)) b.n.length := rfl
 have hk1 := bdP_ok hm
 have hk2 := ctP_ok hm
 have hI : iniS a b m = ⟨ptG a ⟨bdN a b m, []⟩, a, ptG b ⟨ctN a b m, ctE b m⟩, b, ⟨bdN a b m, []⟩, ⟨(bdN a b m).map fun k => (cntB (ctN a b m) (gt m.n k) : Int), []⟩, m, ⟨ctN a b m, ctE b m⟩⟩ := rfl
 have x1 := he a ⟨bdN a b m, []⟩ hk1.sm
 have x2 := he b ⟨ctN a b m, ctE b m⟩ hk2.sm
 have y1 : exR a ⟨bdN a b m, []⟩ = (ptG a ⟨bdN a b m, []⟩, ⟨bdN a b m, []⟩, 0) := by unfold exR; rw [if_neg (fun h => h (validP_ok.2 hk1))]
 have y2 : exR b ⟨ctN a b m, ctE b m⟩ = (ptG b ⟨ctN a b m, ctE b m⟩, ⟨ctN a b m, ctE b m⟩, 0) := by unfold exR; rw [if_neg (fun h => h (validP_ok.2 hk2))]
 rw [y1] at x1
 rw [y2] at x2
 have hbl2 := hk1.len.1
 have rg1 := hcp a (by omega) (by omega)
 have rg2 := hcp b (by omega) (by omega)
 have ro := hof a (by omega) (by omega)
 have hid := idM_ok hm.va
 have hidl := hid.ln
 have hidf := hid.fit hm
 have rt := hth (idM a) m (by omega) (by omega) hidf.2.1 hidf.2.2
 rw [id_then hm] at rt
 have hbm : ∀ i : Nat, i < (bdN a b m).length → ∃ k : Nat, k < m.n.length ∧ gt (bdN a b m) i = k ∧ gt m.n k ∈ ctN a b m := fun i hi => by
  have hmem := gt_mem (l := bdN a b m) (j := (i : Int)) (by omega) (by omega)
  obtain ⟨k, hk, _, e⟩ := sel_mem.1 (show _ ∈ sel _ _ from hmem)
  rw [e] at hmem ⊢
  have hk' : k < a.n.length := hk
  have hkb := (hm.nd k hk).1
  refine ⟨k, by omega, rfl, ?_⟩
  obtain ⟨j, hj, ej⟩ := gtI hkb
  rw [ej]
  exact ctN_mem.2 ⟨hj, .inr (thr_memN.2 ⟨k, hmem, ej⟩)⟩
 have hidx : ∀ i : Nat, i < b.n.length → (i : Int) ∈ m.n → (idx (fun y => decide ((i : Int) = y)) m.n 0 ∈ bdN a b m ↔ (i : Int) ∈ thr (bdN a b m) m.n) := fun i hi h => by
  obtain ⟨k, hk, e⟩ := mem_gt h
  rw [← e, idx_nd hn hk, thr_memN]
  constructor
  ·intro hb; exact ⟨k, hb, rfl⟩
  ·rintro ⟨k', hk', e'⟩
   obtain ⟨j, hj, _, rfl⟩ := sel_mem.1 (show k' ∈ sel _ _ from hk')
   have hj' : j < a.n.length := hj
   have := gt_inj hn (i := j) (j := k) (by omega) hk e'
   subst this
   exact hk'
 have cs := sel_succ (fun i : Nat => !decide ((i : Int) ∈ m.n) || decide ((i : Int) ∈ thr (bdN a b m) m.n))
 have cz := sel_zero (fun i : Nat => !decide ((i : Int) ∈ m.n) || decide ((i : Int) ∈ thr (bdN a b m) m.n))
 have cl := sel_len (fun i : Nat => !decide ((i : Int) ∈ m.n) || decide ((i : Int) ∈ thr (bdN a b m) m.n))
 have hCa := sel_pair (fun i : Nat => !decide ((i : Int) ∈ m.n) || decide ((i : Int) ∈ thr (bdN a b m) m.n)) b.n.length
 rw [← hCN] at hCa
 have hbl3 := bl a.n.length
 rw [← hBd] at hbl3
 have rb := fun x : Int => hc (bdN a b m) x (by unfold maxL; omega)
 have hcl3 := cl b.n.length
 rw [← hCN] at hcl3
 have rI : ∀ i : Nat, i < (bdN a b m).length → (0 ≤ gt (bdN a b m) i ∧ gt (bdN a b m) i < m.n.length) ∧ FC P (F "r14.at") [.lst 1 (ints (ctN a b m)), .int .i64 (gt m.n (gt (bdN a b m) i))] (.int .i64 (cntB (ctN a b m) (gt m.n (gt (bdN a b m) i)))) [] := fun i hi => by
  obtain ⟨k, hk, e1, e2⟩ := hbm i hi
  rw [e1]
  refine ⟨by omega, ?_⟩
  rw [← idx_asc hCa e2]
  exact hx (ctN a b m) (gt m.n k) (by unfold maxL; omega)
 have lE := esl b.e.length
 rw [← hCe] at lE
 rw [hI]
 clear hI y1 y2 hk1 hk2 hbm hc hx he hcp hof hth hv hj hid hidl hidf hR hE
 generalize endU b m = U at *
 generalize sel (fun k : Nat => decide (gt m.n k ∈ endsL b (ctE b m))) = B at *
 rw [hBd] at hCN hbl3 rb hidx cs cz cl x1 rI ⊢
 generalize sel (fun i : Nat => !decide ((i : Int) ∈ m.n) || decide ((i : Int) ∈ thr (B a.n.length) m.n)) = C at *
 rw [hCN] at x2 rI ⊢
 generalize sel (fun i : Nat => !decide ((i : Int) ∈ m.e)) = E at *
 rw [hCe] at x2 ⊢
 generalize ptG a ⟨B a.n.length, []⟩ = pa at *
 generalize ptG b ⟨C b.n.length, E b.e.length⟩ = pb at *
 clear hCa
 generalize idM a = im at *
 generalize hN : (fun x : Int => idx (fun y => decide (x = y)) m.n 0) = N at *
 obtain ⟨an, ae⟩ := a
 obtain ⟨bn, be⟩ := b
 obtain ⟨mn, me⟩ := m
 obtain ⟨pan, pae⟩ := pa
 obtain ⟨pbn, pbe⟩ := pb
 obtain ⟨imn, ime⟩ := im
 simp only [gD, mD, gA, mA] at *
 simp (disch := omega) only [go_sem, ↓reduceIte]
 refine call_by r1 ?_
 simp (disch := omega) only [go_sem, ↓reduceIte]
 refine call_by r2 ?_
 simp (disch := omega) only [go_sem, ↓reduceIte]
 refine W_loop (fun i : Nat => ⟨[(3, .pt 0 0), (4, .pt 1 0), (5, .pt 2 0), (6, .pt 19 0), (9, .sl 20 0 (U i).length), (10, .pt 23 0), (11, .int .i64 i)], [(0, .box [.lst 1 (ints an), .lst 3 (eds ae)]), (1, .box [.lst 1 (ints bn), .lst 3 (eds be)]), (2, .box [.lst 1 (ints mn), .lst 1 (ints me)]), (3, .arr 1 []), (4, .arr 3 []), (5, .arr 1 []), (6, .arr 3 []), (7, .arr 1 []), (8, .arr 3 []), (9, .arr 1 []), (10, .arr 3 []), (11, .arr 1 []), (12, .arr 1 []), (13, .arr 1 []), (14, .arr 1 []), (15, .arr 1 []), (16, .arr 1 []), (17, .arr 1 []), (18, .arr 1 []), (19, .box [.sl 3 0 0, .sl 4 0 0, .sl 5 0 0, .sl 6 0 0, .sl 7 0 0, .sl 8 0 0, .sl 9 0 0, .sl 10 0 0, .sl 11 0 0, .sl 12 0 0, .sl 13 0 0, .sl 14 0 0, .sl 15 0 0, .sl 16 0 0, .sl 17 0 0, .sl 18 0 0]), (20, .arr 1 (ints (U i))), (21, .arr 1 []), (22, .arr 1 (ints (E i))), (23, .box [.sl 21 0 0, .sl 22 0 (E i).length])], 24⟩) (fun i => i ≤ be.length) (fun i => be.length - i) 0 ?_ ?_ ?_
 ·simp (disch := omega) only [go_sem, ↓reduceIte, uz, ez]
  rfl
 ·simp
 ·intro i hi
  have ui := ul i
  have eil := esl i
  by_cases e : i < be.length
  ·have d1 : decide ((i : Int) < be.length) = true := decide_eq_true (by omega)
   have r3 := rc i
   have st := us i
   have se := es i
   by_cases c2 : (i : Int) ∈ me
   ·rw [decide_eq_true c2] at r3 se
    rw [if_pos c2] at st
    rw [if_neg (by simp)] at se
    simp (disch := omega) only [go_sem, ↓reduceIte, c_r14_Initial_b14, d1]
    refine call_by r3 ?_
    simp (disch := omega) only [go_sem, ↓reduceIte]
    exact ⟨i + 1, by simp [st, se], by omega, by omega⟩
   ·rw [decide_eq_false c2] at r3 se
    rw [if_neg c2] at st
    rw [if_pos (by simp)] at se
    simp (disch := omega) only [go_sem, ↓reduceIte, c_r14_Initial_b14, d1]
    refine call_by r3 ?_
    simp (disch := omega) only [go_sem, ↓reduceIte]
    exact ⟨i + 1, by simp [st, se], by omega, by omega⟩
  ·have d1 : decide ((i : Int) < be.length) = false := decide_eq_false (by omega)
   obtain rfl : i = be.length := by omega
   simp (disch := omega) only [go_sem, ↓reduceIte, c_r14_Initial_b14, d1]
   refine W_loop (fun i : Nat => ⟨[(3, .pt 0 0), (4, .pt 1 0), (5, .pt 2 0), (6, .pt 19 0), (9, .sl 20 0 (U be.length).length), (10, .pt 23 0), (12, .pt 26 0), (13, .int .i64 i)], [(0, .box [.lst 1 (ints an), .lst 3 (eds ae)]), (1, .box [.lst 1 (ints bn), .lst 3 (eds be)]), (2, .box [.lst 1 (ints mn), .lst 1 (ints me)]), (3, .arr 1 []), (4, .arr 3 []), (5, .arr 1 []), (6, .arr 3 []), (7, .arr 1 []), (8, .arr 3 []), (9, .arr 1 []), (10, .arr 3 []), (11, .arr 1 []), (12, .arr 1 []), (13, .arr 1 []), (14, .arr 1 []), (15, .arr 1 []), (16, .arr 1 []), (17, .arr 1 []), (18, .arr 1 []), (19, .box [.sl 3 0 0, .sl 4 0 0, .sl 5 0 0, .sl 6 0 0, .sl 7 0 0, .sl 8 0 0, .sl 9 0 0, .sl 10 0 0, .sl 11 0 0, .sl 12 0 0, .sl 13 0 0, .sl 14 0 0, .sl 15 0 0, .sl 16 0 0, .sl 17 0 0, .sl 18 0 0]), (20, .arr 1 (ints (U be.length))), (21, .arr 1 []), (22, .arr 1 (ints (E be.length))), (23, .box [.sl 21 0 0, .sl 22 0 (E be.length).length]), (24, .arr 1 (ints (B i))), (25, .arr 1 []), (26, .box [.sl 24 0 (B i).length, .sl 25 0 0])], 27⟩) (fun i => i ≤ an.length) (fun i => an.length - i) 0 ?_ ?_ ?_
   ·simp (disch := omega) only [go_sem, ↓reduceIte, bz]
    rfl
   ·simp
   ·intro i hi
    have bli := bl i
    by_cases e : i < an.length
    ·have d1 : decide ((i : Int) < an.length) = true := decide_eq_true (by omega)
     have r3 := ru i
     have st := bs i
     by_cases c2 : gt mn i ∈ endsL ⟨bn, be⟩ (ctE ⟨bn, be⟩ ⟨mn, me⟩)
     ·rw [decide_eq_true c2] at r3 st
      rw [if_pos rfl] at st
      simp (disch := omega) only [go_sem, ↓reduceIte, c_r14_Initial_b21, d1]
      refine call_by r3 ?_
      simp (disch := omega) only [go_sem, ↓reduceIte]
      exact ⟨i + 1, by simp [st], by omega, by omega⟩
     ·rw [decide_eq_false c2] at r3 st
      rw [if_neg (by simp)] at st
      simp (disch := omega) only [go_sem, ↓reduceIte, c_r14_Initial_b21, d1]
      refine call_by r3 ?_
      simp (disch := omega) only [go_sem, ↓reduceIte]
      exact ⟨i + 1, by simp [st], by omega, by omega⟩
    ·have d1 : decide ((i : Int) < an.length) = false := decide_eq_false (by omega)
     obtain rfl : i = an.length := by omega
     simp (disch := omega) only [go_sem, ↓reduceIte, c_r14_Initial_b21, d1]
     refine W_loop (fun i : Nat => ⟨[(3, .pt 0 0), (4, .pt 1 0), (5, .pt 2 0), (6, .pt 19 0), (10, .pt 22 0), (12, .pt 25 0), (14, .int .i64 i)], [(0, .box [.lst 1 (ints an), .lst 3 (eds ae)]), (1, .box [.lst 1 (ints bn), .lst 3 (eds be)]), (2, .box [.lst 1 (ints mn), .lst 1 (ints me)]), (3, .arr 1 []), (4, .arr 3 []), (5, .arr 1 []), (6, .arr 3 []), (7, .arr 1 []), (8, .arr 3 []), (9, .arr 1 []), (10, .arr 3 []), (11, .arr 1 []), (12, .arr 1 []), (13, .arr 1 []), (14, .arr 1 []), (15, .arr 1 []), (16, .arr 1 []), (17, .arr 1 []), (18, .arr 1 []), (19, .box [.sl 3 0 0, .sl 4 0 0, .sl 5 0 0, .sl 6 0 0, .sl 7 0 0, .sl 8 0 0, .sl 9 0 0, .sl 10 0 0, .sl 11 0 0, .sl 12 0 0, .sl 13 0 0, .sl 14 0 0, .sl 15 0 0, .sl 16 0 0, .sl 17 0 0, .sl 18 0 0]), (20, .arr 1 (ints (C i))), (21, .arr 1 (ints (E be.length))), (22, .box [.sl 20 0 (C i).length, .sl 21 0 (E be.length).length]), (23, .arr 1 (ints (B an.length))), (24, .arr 1 []), (25, .box [.sl 23 0 (B an.length).length, .sl 24 0 0])], 26⟩) (fun i => i ≤ bn.length) (fun i => bn.length - i) 0 ?_ ?_ ?_
     ·simp (disch := omega) only [go_sem, ↓reduceIte, cz]
      rfl
     ·simp
     ·intro i hi
      have cli := cl i
      by_cases e : i < bn.length
      ·have d2 : decide ((i : Int) < bn.length) = true := decide_eq_true (by omega)
       have r4 := rn i
       have r5 := rx i
       have sti := cs i
       have r6 := rb (idx (fun y => decide ((i : Int) = y)) mn 0)
       by_cases q2 : (i : Int) ∈ mn
       ·have q3 := hidx i e q2
        rw [decide_eq_true q2] at r4
        generalize idx (fun y => decide ((i : Int) = y)) mn 0 = k at *
        by_cases q4 : k ∈ B an.length
        ·rw [decide_eq_true q4] at r6
         rw [if_pos (by simp [q3.1 q4])] at sti
         simp (disch := omega) only [go_sem, ↓reduceIte, c_r14_Initial_b27, d2]
         refine call_by r4 ?_
         simp (disch := omega) only [go_sem, ↓reduceIte]
         refine call_by r5 ?_
         simp (disch := omega) only [go_sem, ↓reduceIte]
         refine call_by r6 ?_
         simp (disch := omega) only [go_sem, ↓reduceIte]
         exact ⟨i + 1, by simp [sti], by omega, by omega⟩
        ·rw [decide_eq_false q4] at r6
         rw [if_neg (by rw [decide_eq_true q2, decide_eq_false (fun h => q4 (q3.2 h))]; simp)] at sti
         simp (disch := omega) only [go_sem, ↓reduceIte, c_r14_Initial_b27, d2]
         refine call_by r4 ?_
         simp (disch := omega) only [go_sem, ↓reduceIte]
         refine call_by r5 ?_
         simp (disch := omega) only [go_sem, ↓reduceIte]
         refine call_by r6 ?_
         simp (disch := omega) only [go_sem, ↓reduceIte]
         exact ⟨i + 1, by simp [sti], by omega, by omega⟩
       ·rw [decide_eq_false q2] at r4
        rw [if_pos (by simp [q2])] at sti
        simp (disch := omega) only [go_sem, ↓reduceIte, c_r14_Initial_b27, d2]
        refine call_by r4 ?_
        simp (disch := omega) only [go_sem, ↓reduceIte]
        exact ⟨i + 1, by simp [sti], by omega, by omega⟩
      ·have d2 : decide ((i : Int) < bn.length) = false := decide_eq_false (by omega)
       obtain rfl : i = bn.length := by omega
       simp (disch := omega) only [go_sem, ↓reduceIte, c_r14_Initial_b27, d2]
       refine call_by rg1 ?_
       simp (disch := omega) only [go_sem, ↓reduceIte]
       refine call_by rg2 ?_
       simp (disch := omega) only [go_sem, ↓reduceIte]
       refine call_by ro ?_
       simp (disch := omega) only [go_sem, ↓reduceIte]
       refine call_by rt ?_
       simp (disch := omega) only [go_sem, ↓reduceIte]
       change FC P _ [_, .agg [.lst 1 (ints (B an.length)), .lst 1 []]] (.tup [_, .agg [.arr 1 (ints (B an.length)), .arr 1 []], _]) _ at x1
       refine call_by x1 ?_
       simp (disch := omega) only [go_sem, ↓reduceIte]
       refine call_by x2 ?_
       simp (disch := omega) only [go_sem, ↓reduceIte]
       clear hidx rb rn rc rx ru r1 r2 x1 x2 rg1 rg2 ro rt cs cz cl es ez esl bs bz bl ul us uz hCN hBd hCe hm hn
       generalize C bn.length = Cc at *
       generalize E be.length = Ec at *
       generalize B an.length = Bd at *
       generalize hf : (fun k : Int => (cntB Cc (gt mn k) : Int)) = f at *
       have hff : ∀ k, (cntB Cc (gt mn k) : Int) = f k := fun k => by rw [← hf]
       refine W_loop (fun i : Nat => ⟨[(5, .pt 0 0), (6, .pt 17 0), (10, .pt 20 0), (12, .pt 23 0), (15, .pt 40 0), (16, .int .i64 i)], [(0, .box [.lst 1 (ints mn), .lst 1 (ints me)]), (1, .arr 1 []), (2, .arr 3 []), (3, .arr 1 []), (4, .arr 3 []), (5, .arr 1 []), (6, .arr 3 []), (7, .arr 1 []), (8, .arr 3 []), (9, .arr 1 []), (10, .arr 1 []), (11, .arr 1 []), (12, .arr 1 []), (13, .arr 1 []), (14, .arr 1 []), (15, .arr 1 []), (16, .arr 1 []), (17, .box [.sl 1 0 0, .sl 2 0 0, .sl 3 0 0, .sl 4 0 0, .sl 5 0 0, .sl 6 0 0, .sl 7 0 0, .sl 8 0 0, .sl 9 0 0, .sl 10 0 0, .sl 11 0 0, .sl 12 0 0, .sl 13 0 0, .sl 14 0 0, .sl 15 0 0, .sl 16 0 0]), (18, .arr 1 (ints Cc)), (19, .arr 1 (ints Ec)), (20, .box [.sl 18 0 Cc.length, .sl 19 0 Ec.length]), (21, .arr 1 (ints Bd)), (22, .arr 1 []), (23, .box [.sl 21 0 Bd.length, .sl 22 0 0]), (24, .arr 1 (ints pan)), (25, .arr 3 (eds pae)), (26, .arr 1 (ints an)), (27, .arr 3 (eds ae)), (28, .arr 1 (ints pbn)), (29, .arr 3 (eds pbe)), (30, .arr 1 (ints bn)), (31, .arr 3 (eds be)), (32, .arr 1 (ints Bd)), (33, .arr 1 []), (34, .arr 1 (ints ((Bd.take i).map f))), (35, .arr 1 []), (36, .arr 1 (ints mn)), (37, .arr 1 (ints me)), (38, .arr 1 (ints Cc)), (39, .arr 1 (ints Ec)), (40, .box [.sl 24 0 pan.length, .sl 25 0 pae.length, .sl 26 0 an.length, .sl 27 0 ae.length, .sl 28 0 pbn.length, .sl 29 0 pbe.length, .sl 30 0 bn.length, .sl 31 0 be.length, .sl 32 0 Bd.length, .sl 33 0 0, .sl 34 0 i, .sl 35 0 0, .sl 36 0 mn.length, .sl 37 0 me.length, .sl 38 0 Cc.length, .sl 39 0 Ec.length])], 41⟩) (fun i => i ≤ Bd.length) (fun i => Bd.length - i) 0 ?_ ?_ ?_
       ·simp (disch := omega) only [go_sem, ↓reduceIte]
        rfl
       ·simp
       ·intro i hi
        have ml : ((Bd.take i).map f).length = i := by simp; omega
        by_cases e : i < Bd.length
        ·have d3 : decide ((i : Int) < Bd.length) = true := decide_eq_true (by omega)
         obtain ⟨⟨b1, b2⟩, r6⟩ := rI i e
         have st : (Bd.take (i + 1)).map f = (Bd.take i).map f ++ [(cntB Cc (gt mn (gt Bd i)) : Int)] := by rw [take_gt e, List.map_append, hff]; rfl
         simp (disch := omega) only [go_sem, ↓reduceIte, c_r14_Initial_b35, d3, ml]
         refine call_by r6 ?_
         simp (disch := omega) only [go_sem, ↓reduceIte, ml]
         exact ⟨i + 1, by simp [st], by omega, by omega⟩
        ·have d3 : decide ((i : Int) < Bd.length) = false := decide_eq_false (by omega)
         obtain rfl : i = Bd.length := by omega
         rw [List.take_length] at ml ⊢
         simp (disch := omega) only [go_sem, ↓reduceIte, c_r14_Initial_b35, d3, ml]
         rfl
end
section
theorem meet_gt {l : List Pr} {h k : List Int} {i : Nat} (hi : i < h.length) : gt (meetL l h k) i = idx (fun p => decide (p = ⟨gt h i, gt k i⟩)) l 0 := by
 unfold meetL meetI
 rw [gt_nat (by simpa using hi)]
 simp
theorem meet_len (l : List Pr) (h k : List Int) : (meetL l h k).length = h.length := by rw [meetL, meetI_len]
theorem med_mk {s : Cs} {x : G} {h k : Mo} (e : pbErr s = 0) (hh : MOk x s.b h) (hk : MOk x s.c k) (cn : ∀ i : Nat, i < x.n.length → gt s.f.n (gt h.n i) = gt s.g.n (gt k.n i)) (ce : ∀ i : Nat, i < x.e.length → gt s.f.e (gt h.e i) = gt s.g.e (gt k.e i)) :
  ∃ m, medM s x h k = (m, 0) ∧ MOk x (pbG0 s) m ∧ (∀ i : Nat, i < x.n.length → gt (pbN s) (gt m.n i) = ⟨gt h.n i, gt k.n i⟩) ∧ ∀ i : Nat, i < x.e.length → gt (pbE s) (gt m.e i) = ⟨gt h.e i, gt k.e i⟩ := by
 have pb := pb_of e
 have hln := hh.ln
 have hle := hh.le
 have nN : ∀ i : Nat, i < x.n.length → (0 ≤ gt (meetL (pbN s) h.n k.n) i ∧ gt (meetL (pbN s) h.n k.n) i < (pbN s).length) ∧ gt (pbN s) (gt (meetL (pbN s) h.n k.n) i) = ⟨gt h.n i, gt k.n i⟩ := fun i hi => by
  rw [meet_gt (by omega)]
  exact idx_spec ((pbN_in pb.f pb.g (hh.nd i hi).1 (hk.nd i hi).1).2 (cn i hi))
 have nE : ∀ i : Nat, i < x.e.length → (0 ≤ gt (meetL (pbE s) h.e k.e) i ∧ gt (meetL (pbE s) h.e k.e) i < (pbE s).length) ∧ gt (pbE s) (gt (meetL (pbE s) h.e k.e) i) = ⟨gt h.e i, gt k.e i⟩ := fun i hi => by
  rw [meet_gt (by omega)]
  exact idx_spec ((pbE_in pb.f pb.g (hh.ed i hi).1 (hk.ed i hi).1).2 (ce i hi))
 have o1 : meetOk (pbN s) h.n k.n = true := by
  unfold meetOk
  rw [List.all_eq_true]
  intro y hy
  obtain ⟨i, hi, rfl⟩ := mem_gt hy
  rw [meet_len] at hi
  simpa using (nN i (by omega)).1.1
 have o2 : meetOk (pbE s) h.e k.e = true := by
  unfold meetOk
  rw [List.all_eq_true]
  intro y hy
  obtain ⟨i, hi, rfl⟩ := mem_gt hy
  rw [meet_len] at hi
  simpa using (nE i (by omega)).1.1
 have er : medErr s x h k = 0 := by
  unfold medErr
  rw [if_neg (by simp [e]), if_neg (by rw [mok.2 hh]; simp)]
  exact mok.2 hk
 refine ⟨⟨meetL (pbN s) h.n k.n, meetL (pbE s) h.e k.e⟩, ?_, ⟨hh.va, pb.p.va, by simp only [meet_len]; omega, by simp only [meet_len]; omega, fun i hi => ?_, fun i hi => ?_⟩, fun i hi => (nN i hi).2, fun i hi => (nE i hi).2⟩
 ·unfold medM
  rw [if_neg (by simp [er]), if_pos ⟨o1, o2⟩]
 ·obtain ⟨h1, h2⟩ := nN i hi
  refine ⟨by simpa [pbG0] using h1, ?_⟩
  obtain ⟨j, hj, hj2⟩ := gtI h1
  simp only
  rw [hj2] at h2 ⊢
  have : gt (pbG0 s).n j = gt s.b.n (gt (pbN s) j).a := gt_map hj
  rw [this, h2]
  exact (hh.nd i hi).2
 ·obtain ⟨h1, h2⟩ := nE i hi
  refine ⟨by simpa [pbG0] using h1, ?_⟩
  obtain ⟨j, hj, hj2⟩ := gtI h1
  simp only
  rw [hj2] at h2 ⊢
  have hg : gt (pbG0 s).e j = pbEdge s.b.e s.c.e (pbN s) (gt (pbE s) j) := gt_map hj
  obtain ⟨_, b1, b2, b3⟩ := hh.ed i hi
  obtain ⟨_, c1, c2, c3⟩ := hk.ed i hi
  obtain ⟨_, f1, f2⟩ := edge_fits hh.va (i := i) (by omega)
  obtain ⟨p, hp, hp2⟩ := gtI f1
  obtain ⟨q, hq, hq2⟩ := gtI f2
  rw [hg, h2]
  refine ⟨b1, ?_, ?_⟩
  ·rw [hp2] at b2 c2 ⊢
   rw [meet_gt (by omega), b2, c2]
   rfl
  ·rw [hq2] at b3 c3 ⊢
   rw [meet_gt (by omega), b3, c3]
   rfl
end
@[go_sem] def c_l14_SquareInitial_r0 : LL := [qB 3 0,qB 4 1,qB 5 2,qb 6 false]
@[go_sem] def c_l14_SquareInitial_r1 (F : Fn) : LL := [qc 13 (F "l14.awake") [],qv 14 13,qm 15 14,qg 15 false (qL 16 2 3),qg 15 false (qc 17 (F "r05.Few") [.t 16]),qg 15 false (qv 18 17),qQ 19 15 18,qm 20 19,qg 20 false (qL 21 2 4),
 qg 20 false (qc 22 (F "r05.Few") [.t 21]),qg 20 false (qv 23 22),qQ 24 20 23,qm 25 24,qg 25 false (qL 26 2 5),qg 25 false (qc 27 (F "r06.Few") [.t 26,.k (.int .i64 (140))]),qg 25 false (qv 28 27),
 qQ 29 25 28]
@[go_sem] def c_l14_SquareInitial_r2 (F : Fn) : LL := [qc 30 (F "l14.awake") [],qm 6 30]
@[go_sem] def c_l14_SquareInitial_r3 (F : Fn) : LL := [qL 32 2 3,qL 33 2 4,qf 34 0 5,ql 35 1 34,qc 36 (F "slices.Clone.I") [.t 35],qf 37 1 5,ql 38 1 37,qc 39 (F "slices.Clone.I") [.t 38],qu 40 [.nl 1,.nl 1] [(0,1,.t 36),(1,1,.t 39)],
 qc 41 (F "square.Initial") [.t 32,.t 33,.t 40],qm 31 41,qx 42 31 0,qx 43 31 1,
 qa 7 [.nl 1,.nl 3,.nl 1,.nl 3,.nl 1,.nl 3,.nl 1,.nl 3,.nl 1,.nl 1,.nl 1,.nl 1,.nl 1,.nl 1,.nl 1,.nl 1],qs 16 7 42,qm 8 43]
@[go_sem] def c_l14_SquareInitial_r4 (F : Fn) : LL := [qL 45 2 3,qL 46 2 4,qL 47 2 5,qc 48 (F "r14.Initial") [.t 45,.t 46,.t 47],qm 44 48,qx 49 44 0,qx 50 44 1,
 qa 9 [.nl 1,.nl 3,.nl 1,.nl 3,.nl 1,.nl 3,.nl 1,.nl 3,.nl 1,.nl 1,.nl 1,.nl 1,.nl 1,.nl 1,.nl 1,.nl 1],qs 16 9 49,qm 10 50]
@[go_sem] def c_l14_SquareInitial_r5 (F : Fn) : LL := [qm 51 8,qm 52 10,qo .neq 53 51 52,qm 54 53,qg 54 false (qL 55 16 7),qg 54 false (qL 56 16 9),qg 54 false (qc 57 (F "r14.Same") [.t 55,.t 56]),qg 54 false (qv 58 57),qQ 59 54 58,qm 60 59,
 qg 60 false (qm 61 8),qg 60 false (qk .neq 62 61 0),qQ 63 60 62]
@[go_sem] def c_l14_SquareInitial_r6 (F : Fn) : LL := [qm 64 8,qm 65 10,qo .eql 66 64 65,qm 67 66,qg 67 true (qL 68 16 7),qg 67 true (qL 69 16 9),qg 67 true (qc 70 (F "r14.Same") [.t 68,.t 69]),qP 71 67 70,qm 6 71]
@[go_sem] def c_l14_SquareInitial_r7 (F : Fn) : LL := [qL 73 16 7,qc 74 (F "square.Kind") [.t 73],qm 72 74,qx 75 72 0,qx 76 72 1,qm 11 75,qm 12 76]
@[go_sem] def c_l14_SquareInitial_r8 : LL := [qm 77 12,qk .eql 78 77 3,qm 79 78,qg 79 false (qm 80 12),qg 79 false (qk .eql 81 80 0),qg 79 false (qm 82 81),qg 82 true (qm 83 11),qg 82 true (qk .eql 84 83 3),
 qg 79 false (qP 85 82 84),qQ 86 79 85,qm 6 86]
@[go_sem] def c_l14_SquareInitial (F : Fn) : LC := (.seq (.reg c_l14_SquareInitial_r0 [3,4,5]) (.seq (.seq (.reg (c_l14_SquareInitial_r1 F) [3,4,5,29]) (.cond (.t 29) (.seq (.reg (c_l14_SquareInitial_r2 F) [6]) .ret) .skip)) (.seq (.dreg [(0,none,[],true),(1,none,[],true),(4,none,[0,1],true),(6,(some 32),[4],false),(7,none,[0,1],false)] (c_l14_SquareInitial_r3 F) [3,4,5,7,8]) (.seq (.reg (c_l14_SquareInitial_r4 F) [7,8,9,10]) (.seq (.seq (.reg (c_l14_SquareInitial_r5 F) [7,8,9,10,63]) (.cond (.t 63) (.seq (.reg (c_l14_SquareInitial_r6 F) [6]) .ret) .skip)) (.seq (.reg (c_l14_SquareInitial_r7 F) [11,12]) (.seq (.reg c_l14_SquareInitial_r8 [6]) .ret)))))))
def h_l14_SquareInitial : Hints := hOf [] (c_l14_SquareInitial fun _ => 0)
section
variable (P : Program) (F : String → Nat)
def K_l14_SquareInitial : Prop := ∀ (a b : G) (m : Mo), m.sm → FC P (F "l14.SquareInitial") [gD a, gD b, mD m] (.bool true) []
end
section
variable {P : Program} {F : String → Nat} {α : Type}
theorem chk_pb {s : Cs} (e : pbErr s = 0) {a : G} {h k : Mo} (hh : MOk a s.b h) (hk : MOk a s.c k) (hc : thenM h s.f = thenM k s.g)
  (n1 : ∀ i j : Nat, i < a.n.length → j < a.n.length → gt h.n i = gt h.n j → gt k.n i = gt k.n j → i = j)
  (n2 : ∀ x y : Nat, x < s.b.n.length → y < s.c.n.length → gt s.f.n x = gt s.g.n y → ∃ i : Nat, i < a.n.length ∧ gt h.n i = x ∧ gt k.n i = y)
  (m1 : ∀ i j : Nat, i < a.e.length → j < a.e.length → gt h.e i = gt h.e j → gt k.e i = gt k.e j → i = j)
  (m2 : ∀ x y : Nat, x < s.b.e.length → y < s.c.e.length → gt s.f.e x = gt s.g.e y → ∃ i : Nat, i < a.e.length ∧ gt h.e i = x ∧ gt k.e i = y) : checkM s a h k = true := by
 obtain ⟨m, hm, ok, pn, pe⟩ := med_mk e hh hk (fun i hi => thenM_n hc (by rw [hh.ln]; exact hi) (by rw [hk.ln]; exact hi)) (fun i hi => thenM_e hc (by rw [hh.le]; exact hi) (by rw [hk.le]; exact hi))
 have pb := pb_of e
 have hG : pbG s = pbG0 s := by simp [pbG, e]
 have g1 : (pbG0 s).n.length = (pbN s).length := by simp [pbG0]
 have g2 : (pbG0 s).e.length = (pbE s).length := by simp [pbG0]
 have l1 := ok.ln
 have l2 := ok.le
 unfold checkM
 rw [hm, hG]
 have i1 : injM a (pbG0 s) m = true := (injM_ok ok).2 ⟨nodup_ix fun i j hi hj q => by
   rw [l1] at hi hj
   have h1 := pn i hi
   have h2 := pn j hj
   rw [q] at h1
   rw [h1] at h2
   simp only [Pr.mk.injEq] at h2
   exact n1 i j hi hj h2.1 h2.2, nodup_ix fun i j hi hj q => by
   rw [l2] at hi hj
   have h1 := pe i hi
   have h2 := pe j hj
   rw [q] at h1
   rw [h1] at h2
   simp only [Pr.mk.injEq] at h2
   exact m1 i j hi hj h2.1 h2.2⟩
 have i2 : surM a (pbG0 s) m = true := (surM_ok ok).2 ⟨covers_ix.2 fun j hj => by
   rw [g1] at hj
   obtain ⟨b1, b2, b3⟩ := pbN_bd pb.f pb.g (gt_mem (l := pbN s) (j := (j : Int)) (by omega) (by omega))
   obtain ⟨x, hx, ex⟩ := gtI b1
   obtain ⟨y, hy, ey⟩ := gtI b2
   rw [ex, ey] at b3
   obtain ⟨i, hi, q1, q2⟩ := n2 x y hx hy b3
   refine ⟨i, by omega, ?_⟩
   obtain ⟨t, ht, et⟩ := gtI (ok.nd i hi).1
   rw [et]
   have h1 := pn i hi
   rw [et, q1, q2, ← ex, ← ey] at h1
   rw [gt_inj (pairsL_nodup s.f.n s.g.n) (show t < (pbN s).length by omega) hj h1], covers_ix.2 fun j hj => by
   rw [g2] at hj
   obtain ⟨b1, b2, b3⟩ := pbE_bd pb.f pb.g (gt_mem (l := pbE s) (j := (j : Int)) (by omega) (by omega))
   obtain ⟨x, hx, ex⟩ := gtI b1
   obtain ⟨y, hy, ey⟩ := gtI b2
   rw [ex, ey] at b3
   obtain ⟨i, hi, q1, q2⟩ := m2 x y hx hy b3
   refine ⟨i, by omega, ?_⟩
   obtain ⟨t, ht, et⟩ := gtI (ok.ed i hi).1
   rw [et]
   have h1 := pe i hi
   rw [et, q1, q2, ← ex, ← ey] at h1
   rw [gt_inj (pairsL_nodup s.f.e s.g.e) (show t < (pbE s).length by omega) hj h1]⟩
 simp [i1, i2]
section
variable {a b : G} {m : Mo} (hm : MOk a b m) (hn : m.n.Nodup)
include hm
theorem ini_at {t : Nat} (ht : t < (bdN a b m).length) : ∃ x k : Nat, x < a.n.length ∧ k < (ctN a b m).length ∧ gt (bdN a b m) t = x ∧ gt (giM a b m).n t = k ∧ gt (ctN a b m) k = gt m.n x := by
 have hmem := gt_mem (l := bdN a b m) (j := (t : Int)) (by omega) (by omega)
 obtain ⟨x, hx, _, e⟩ := sel_mem.1 (show _ ∈ sel _ _ from hmem)
 have hx' : x < a.n.length := hx
 obtain ⟨j, hj, ej⟩ := gtI (hm.nd x hx').1
 have hin : gt m.n x ∈ ctN a b m := by
  rw [ej]
  exact ctN_mem.2 ⟨hj, .inr (thr_memN.2 ⟨x, by rw [← e]; exact hmem, ej⟩)⟩
 obtain ⟨k, k1, k2, k3⟩ := cntB_in (l := ctN a b m) (sel_pair _ _) hin
 refine ⟨x, k, hx', k1, e, ?_, k3⟩
 simp only [giM]
 rw [gt_map ht, e, k2]
include hn
theorem ini_key {x y : Nat} (hx : x < a.n.length) (hy : y < (ctN a b m).length) (h : gt m.n x = gt (ctN a b m) y) : ∃ t : Nat, t < (bdN a b m).length ∧ gt (bdN a b m) t = x ∧ gt (giM a b m).n t = y := by
 have l1 := hm.ln
 obtain ⟨j, hj, ej⟩ := gtI (hm.nd x hx).1
 have hin : (j : Int) ∈ ctN a b m := by rw [← ej, h]; exact gt_mem (by omega) (by omega)
 have hnm : (j : Int) ∈ m.n := by rw [← ej]; exact gt_mem (by omega) (by omega)
 obtain ⟨_, h2⟩ := ctN_mem.1 hin
 rcases h2 with h2 | h2
 ·exact absurd hnm h2
 ·obtain ⟨z, hz, ez⟩ := thr_memN.1 h2
  obtain ⟨t, ht, et⟩ := mem_gt hz
  obtain ⟨x', k, hx', hk, e1, e2, e3⟩ := ini_at hm ht
  have : x' = x := gt_inj hn (by omega) (by omega) (by rw [← e1, et, ez, ej])
  subst this
  refine ⟨t, ht, e1, ?_⟩
  rw [e2, asc_inj (l := ctN a b m) (sel_pair _ _) hk hy (by rw [e3, h])]
end
theorem ini_g {a b : G} {m : Mo} (hm : MOk a b m) : MOk (ptG a (bdP a b m)) (ptG b (ctP a b m)) (giM a b m) := by
 have h1 := ex_ok (bdP_ok hm)
 have h2 := ex_ok (ctP_ok hm)
 have la : (ptG a (bdP a b m)).n.length = (bdN a b m).length := thr_len _ _
 have le : (ptG a (bdP a b m)).e.length = 0 := exL_len _ _ _
 have lc : (ptG b (ctP a b m)).n.length = (ctN a b m).length := thr_len _ _
 refine ⟨h1.va, h2.va, by rw [la]; simp [giM], by rw [le]; rfl, fun i hi => ?_, fun i hi => by omega⟩
 rw [la] at hi
 obtain ⟨x, k, hx, hk, e1, e2, e3⟩ := ini_at hm hi
 rw [e2, lc]
 refine ⟨by omega, ?_⟩
 have q1 : gt (ptG b (ctP a b m)).n k = gt b.n (gt (ctN a b m) k) := thr_gt hk
 have q2 : gt (ptG a (bdP a b m)).n i = gt a.n (gt (bdN a b m) i) := thr_gt hi
 rw [q1, q2, e1, e3, (hm.nd x hx).2]
theorem ini_ok {a b : G} {m : Mo} (hm : MOk a b m) : QOk (iniS a b m) := ⟨ex_ok (bdP_ok hm), ini_g hm, hm, ex_ok (ctP_ok hm)⟩
theorem ini_com {a b : G} {m : Mo} (hm : MOk a b m) : thenM (bdP a b m) m = thenM (giM a b m) (ctP a b m) := by
 refine mo_ext (list_ext_gt (by simp [thenM, thr_len, bdP, giM]) fun t ht => ?_) (by simp [thenM, bdP, giM, thr])
 have ht' : t < (bdN a b m).length := by simpa [thenM, thr_len, bdP] using ht
 obtain ⟨x, k, hx, hk, e1, e2, e3⟩ := ini_at hm ht'
 simp only [thenM]
 rw [thr_gt (show t < (bdP a b m).n.length from ht'), thr_gt (show t < (giM a b m).n.length by simpa [giM] using ht'), e2]
 have q1 : gt (bdP a b m).n t = x := e1
 have q2 : gt (ctP a b m).n k = gt m.n x := e3
 rw [q1, q2]
theorem ini_push {a b : G} {m : Mo} (hm : MOk a b m) (hi : injM a b m = true) (he : poErr (iniS a b m).dn = 0) : chkP (iniS a b m).dn b m (ctP a b m) = true := by
 have hs := poErr_ok.1 he
 obtain ⟨hn, hne⟩ := (injM_ok hm).1 hi
 have l1 := hm.ln
 have l2 := hm.le
 have lc : (ptG b (ctP a b m)).n.length = (ctN a b m).length := thr_len _ _
 have ld : (ptG b (ctP a b m)).e.length = (ctE b m).length := exL_len _ _ _
 have q := ini_ok hm
 have no : ∀ i j : Nat, i < a.e.length → j < (ctE b m).length → gt m.e i = gt (ctE b m) j → False := fun i j hi hj e => by
  have h1 := gt_mem (l := ctE b m) (j := (j : Int)) (by omega) (by omega)
  rw [← e] at h1
  have h2 := gt_mem (l := m.e) (j := (i : Int)) (by omega) (by omega)
  obtain ⟨k, _, _, ek⟩ := sel_mem.1 (show _ ∈ sel _ _ from h1)
  rw [ek] at h1 h2
  exact (ctE_mem.1 h1).2 h2
 refine hs.chk_same (x := b) (h := m) (k := ctP a b m) hm q.k (ini_com hm) (fun i j hi hj e => ?_) (fun i j hi hj e => ?_) (fun i j hi hj e => ?_) (fun j hj => ?_) (fun i j hi hj e => ?_) (fun i j hi hj e => ?_) (fun i j hi hj e => ?_) (fun j hj => ?_)
 ·have hi : i < a.n.length := hi
  have hj : j < a.n.length := hj
  rw [gt_inj hn (by omega) (by omega) e]
 ·have hj : j < (ctN a b m).length := by rw [← lc]; exact hj
  obtain ⟨t, ht, e1, e2⟩ := ini_key hm hn hi hj e
  have := thenM_n hs.comm (i := t) ht (by simpa [Sq.dn, iniS, giM] using ht)
  have e1 : gt (iniS a b m).dn.f.n t = i := e1
  have e2 : gt (iniS a b m).dn.g.n t = j := e2
  rw [e1, e2] at this
  exact this
 ·have hi : i < (ctN a b m).length := by rw [← lc]; exact hi
  have hj : j < (ctN a b m).length := by rw [← lc]; exact hj
  rw [asc_inj (l := ctN a b m) (sel_pair _ _) hi hj e]
 ·by_cases c : (j : Int) ∈ m.n
  ·obtain ⟨i, h1, h2⟩ := mem_gt c
   exact .inl ⟨i, show i < a.n.length by omega, h2⟩
  ·obtain ⟨i, h1, h2⟩ := mem_gt (show (j : Int) ∈ ctN a b m from ctN_mem.2 ⟨hj, .inl c⟩)
   exact .inr ⟨i, show i < (ptG b (ctP a b m)).n.length by omega, h2⟩
 ·have hi : i < a.e.length := hi
  have hj : j < a.e.length := hj
  rw [gt_inj hne (by omega) (by omega) e]
 ·have hj : j < (ctE b m).length := by rw [← ld]; exact hj
  exact (no i j hi hj e).elim
 ·have hi : i < (ctE b m).length := by rw [← ld]; exact hi
  have hj : j < (ctE b m).length := by rw [← ld]; exact hj
  rw [asc_inj (l := ctE b m) (sel_pair _ _) hi hj e]
 ·by_cases c : (j : Int) ∈ m.e
  ·obtain ⟨i, h1, h2⟩ := mem_gt c
   exact .inl ⟨i, show i < a.e.length by omega, h2⟩
  ·obtain ⟨i, h1, h2⟩ := mem_gt (show (j : Int) ∈ ctE b m from ctE_mem.2 ⟨hj, c⟩)
   exact .inr ⟨i, show i < (ptG b (ctP a b m)).e.length by omega, h2⟩
theorem ini_pull {a b : G} {m : Mo} (hm : MOk a b m) (hi : injM a b m = true) (he : pbErr (iniS a b m).up = 0) : checkM (iniS a b m).up (ptG a (bdP a b m)) (bdP a b m) (giM a b m) = true := by
 obtain ⟨hn, hne⟩ := (injM_ok hm).1 hi
 have l1 := hm.ln
 have l2 := hm.le
 have la : (ptG a (bdP a b m)).n.length = (bdN a b m).length := thr_len _ _
 have le : (ptG a (bdP a b m)).e.length = 0 := exL_len _ _ _
 have lc : (ptG b (ctP a b m)).n.length = (ctN a b m).length := thr_len _ _
 have ld : (ptG b (ctP a b m)).e.length = (ctE b m).length := exL_len _ _ _
 have q := ini_ok hm
 refine chk_pb he (h := bdP a b m) (k := giM a b m) q.f q.g (ini_com hm) (fun i j hi hj e1 e2 => ?_) (fun x y hx hy e => ?_) (fun i j hi hj e1 e2 => ?_) (fun x y hx hy e => ?_)
 ·rw [la] at hi hj
  exact asc_inj (l := bdN a b m) (sel_pair _ _) hi hj e1
 ·obtain ⟨t, ht, e1, e2⟩ := ini_key hm hn (x := x) (y := y) hx (by rw [← lc]; exact hy) e
  exact ⟨t, by rw [la]; exact ht, e1, e2⟩
 ·omega
 ·exfalso
  have hx : x < a.e.length := hx
  have hy : y < (ctE b m).length := by rw [← ld]; exact hy
  have e : gt m.e x = gt (ctE b m) y := e
  have h1 := gt_mem (l := ctE b m) (j := (y : Int)) (by omega) (by omega)
  rw [← e] at h1
  have h2 := gt_mem (l := m.e) (j := (x : Int)) (by omega) (by omega)
  obtain ⟨k, _, _, ek⟩ := sel_mem.1 (show _ ∈ sel _ _ from h1)
  rw [ek] at h1 h2
  exact (ctE_mem.1 h1).2 h2
theorem ini_kind {a b : G} {m : Mo} (h : iniE a b m = 0) : kindR (iniS a b m) = (3, 0) ∨ (kindR (iniS a b m)).2 = 3 := by
 have hE : iniE a b m = if validM a b m ≠ 0 then validM a b m else if injM a b m = true then 0 else 15 := rfl
 rw [hE] at h
 by_cases c0 : validM a b m = 0
 case neg => rw [if_pos c0] at h; exact absurd h c0
 rw [if_neg (by simp [c0])] at h
 by_cases c1 : injM a b m = true
 case neg => rw [if_neg c1] at h; exact absurd h (by decide)
 have hm := mok.1 c0
 have q := ini_ok hm
 have com : comB (iniS a b m) = true := decide_eq_true (ini_com hm)
 have s1 : spE (iniS a b m).dn = 0 := spE_ok.2 ⟨q.f, q.g⟩
 have s2 : givenE (iniS a b m).up = 0 := by
  unfold givenE
  rw [if_neg (by rw [show validM (iniS a b m).up.b (iniS a b m).up.d (iniS a b m).up.f = 0 from mok.2 q.h]; simp)]
  exact mok.2 q.k
 unfold kindR
 rw [if_neg (by simp [sqE_ok.2 q]), if_neg (by simp [com])]
 by_cases c2 : poErr (iniS a b m).dn = 0
 case neg =>
  rw [if_pos c2]
  refine .inr ?_
  unfold poErr at c2 ⊢
  rw [if_neg (by simp [s1])] at c2 ⊢
  simp only
  split
  ·rfl
  ·rename_i hb; rw [if_neg hb] at c2; exact absurd rfl c2
 rw [if_neg (by simp [c2])]
 by_cases c3 : pbErr (iniS a b m).up = 0
 case neg =>
  rw [if_pos c3]
  refine .inr ?_
  unfold pbErr at c3 ⊢
  rw [if_neg (by simp [s2])] at c3 ⊢
  simp only
  split
  ·rfl
  ·rename_i hb; rw [if_neg hb] at c3; exact absurd rfl c3
 rw [if_neg (by simp [c3])]
 refine .inl ?_
 have p1 : chkP (iniS a b m).dn (iniS a b m).d (iniS a b m).h (iniS a b m).k = true := ini_push hm c1 c2
 have p2 : checkM (iniS a b m).up (iniS a b m).a (iniS a b m).f (iniS a b m).g = true := ini_pull hm c1 c3
 unfold kindV
 rw [if_pos p1, if_pos p2]
 rfl
theorem ini_bd {a b : G} {m : Mo} : SqBd (iniR a b m).1 := by
 have hR : iniR a b m = if iniE a b m = 0 then (iniS a b m, 0) else (sq0, iniE a b m) := rfl
 rw [hR]
 by_cases c : iniE a b m = 0
 ·rw [if_pos c]
  have hE : iniE a b m = if validM a b m ≠ 0 then validM a b m else if injM a b m = true then 0 else 15 := rfl
  rw [hE] at c
  by_cases c0 : validM a b m = 0
  ·exact (ini_ok (mok.1 c0)).bd
  ·rw [if_pos c0] at c; exact absurd c c0
 ·rw [if_neg c]
  simp [SqBd, sq0, Sq.sm, Mo.sm, g0, m0, maxL]
set_option maxHeartbeats 2000000 in
theorem w_l14_SquareInitial (hw : K_l14_awake P F) (hf : K_r05_Few P F) (hfm : K_r06_Few P F) (hc : K_slices_Clone_I P F) (h1 : K_square_Initial P F) (h2 : K_r14_Initial P F) (h3 : K_r14_Same P F) (h4 : K_square_Kind P F) (a b : G) (m : Mo) (hm : m.sm) : W P (c_l14_SquareInitial F) (Done [.t 6] [] (.bool true) []) (init [gD a, gD b, mD m]) := by
 refine W_of ?_
 have f1 := hf a
 have f2 := hf b
 have f3 := hfm m 140 hm.1 hm.2
 have r1 := h1 a b m
 have r2 := h2 a b m hm
 have r3 := h3 (iniR a b m).1 (iniR a b m).1 ini_bd
 have r4 := h4 (iniR a b m).1
 have hk := @ini_kind a b m
 have hR : iniR a b m = if iniE a b m = 0 then (iniS a b m, 0) else (sq0, iniE a b m) := rfl
 have hlen : few a = true → few b = true → fewM m 140 = true → m.n.length ≤ 1000 ∧ m.e.length ≤ 1000 := fun _ _ h => by
  simp [fewM] at h; omega
 rw [decide_eq_true rfl] at r3
 have c1 := hc m.n
 have c2 := hc m.e
 obtain ⟨k1, k2, hk2, hk3⟩ : ∃ k1 k2, kindR (iniR a b m).1 = (k1, k2) ∧ ((iniR a b m).2 = 0 → k2 = 3 ∨ k2 = 0 ∧ k1 = 3) := ⟨_, _, rfl, fun h => by
  rw [hR] at h ⊢
  split at h
  ·rename_i c
   rw [if_pos c]
   rcases hk c with h | h
   ·exact .inr ⟨congrArg Prod.snd h, congrArg Prod.fst h⟩
   ·exact .inl h
  ·rename_i c; exact absurd h c⟩
 rw [hk2] at r4
 clear hk hk2 hR
 generalize iniR a b m = R at *
 obtain ⟨q, e⟩ := R
 obtain ⟨an, ae⟩ := a
 obtain ⟨bn, be⟩ := b
 obtain ⟨mn, me⟩ := m
 simp only [gD, mD, sqD, sqA] at *
 cases t1 : few ⟨an, ae⟩
 ·rw [t1] at f1
  simp (disch := omega) only [go_sem, ↓reduceIte]
  refine call_by hw ?_
  simp (disch := omega) only [go_sem, ↓reduceIte]
  refine call_by f1 ?_
  simp (disch := omega) only [go_sem, ↓reduceIte]
  refine call_by hw ?_
  simp (disch := omega) only [go_sem, ↓reduceIte]
 rw [t1] at f1
 cases t2 : few ⟨bn, be⟩
 ·rw [t2] at f2
  simp (disch := omega) only [go_sem, ↓reduceIte]
  refine call_by hw ?_
  simp (disch := omega) only [go_sem, ↓reduceIte]
  refine call_by f1 ?_
  simp (disch := omega) only [go_sem, ↓reduceIte]
  refine call_by f2 ?_
  simp (disch := omega) only [go_sem, ↓reduceIte]
  refine call_by hw ?_
  simp (disch := omega) only [go_sem, ↓reduceIte]
 rw [t2] at f2
 cases t3 : fewM ⟨mn, me⟩ 140
 ·rw [t3] at f3
  simp (disch := omega) only [go_sem, ↓reduceIte]
  refine call_by hw ?_
  simp (disch := omega) only [go_sem, ↓reduceIte]
  refine call_by f1 ?_
  simp (disch := omega) only [go_sem, ↓reduceIte]
  refine call_by f2 ?_
  simp (disch := omega) only [go_sem, ↓reduceIte]
  refine call_by f3 ?_
  simp (disch := omega) only [go_sem, ↓reduceIte]
  refine call_by hw ?_
  simp (disch := omega) only [go_sem, ↓reduceIte]
 rw [t3] at f3
 have hl := hlen t1 t2 t3
 simp (disch := omega) only [go_sem, ↓reduceIte]
 refine call_by hw ?_
 simp (disch := omega) only [go_sem, ↓reduceIte]
 refine call_by f1 ?_
 simp (disch := omega) only [go_sem, ↓reduceIte]
 refine call_by f2 ?_
 simp (disch := omega) only [go_sem, ↓reduceIte]
 refine call_by f3 ?_
 simp (disch := omega) only [go_sem, ↓reduceIte]
 refine call_by (c1 (by omega)) ?_
 simp (disch := omega) only [go_sem, ↓reduceIte]
 refine call_by (c2 (by omega)) ?_
 simp (disch := omega) only [go_sem, ↓reduceIte]
 refine call_by r1 ?_
 simp (disch := omega) only [go_sem, ↓reduceIte]
 refine call_by r2 ?_
 simp (disch := omega) only [go_sem, ↓reduceIte]
 refine call_by r3 ?_
 by_cases d : e = 0
 ·subst d
  simp (disch := omega) only [go_sem, ↓reduceIte]
  refine call_by r4 ?_
  have d1 : decide ((0 : Int) = 3) = false := by decide
  rcases hk3 rfl with rfl | ⟨rfl, rfl⟩
  ·simp (disch := omega) only [go_sem, ↓reduceIte]
  ·simp (disch := omega) only [go_sem, ↓reduceIte, d1]
 ·have d1 : decide (e = 0) = false := decide_eq_false d
  simp (disch := omega) only [go_sem, ↓reduceIte, d1]
  refine call_by r3 ?_
  simp (disch := omega) only [go_sem, ↓reduceIte]
theorem x_l14_SquareInitial (h : K_l14_SquareInitial P F) (args : List D) (ha : HasEls [shG, shG, shM] args) : FC P (F "l14.SquareInitial") args (.bool true) [] := by
 simp only [HasEls] at ha
 obtain ⟨_, _, rfl, h1, _, _, rfl, h2, _, _, rfl, h3, rfl⟩ := ha
 obtain ⟨a, rfl⟩ := rd_graph h1
 obtain ⟨b, rfl⟩ := rd_graph h2
 obtain ⟨m, rfl, k⟩ := rd_morph h3
 exact h a b m k
end
end Go.Am
