/- Initial pushouts: what they are; the program's walk. -/
import Derived.Test.YtelmgaflhmcihaaGreatSpPa
import Derived.Test.YtelmgaflhmcihaaGreatSpPb
import Derived.Test.YtelmgaflhmcihaaGreatSpPc
import Derived.Test.YtelmgaflhmcihaaGreatSpPd
namespace Go.Am
open Go
set_option linter.unusedVariables false
set_option linter.unusedSimpArgs false
attribute [local irreducible] W
@[go_sem] def c_square_Initial_r0 : LL := [qB 3 0,qB 4 1,qB 5 2,qa 6 [.nl 1,.nl 3,.nl 1,.nl 3,.nl 1,.nl 3,.nl 1,.nl 3,.nl 1,.nl 1,.nl 1,.nl 1,.nl 1,.nl 1,.nl 1,.nl 1],qi 7 0]
@[go_sem] def c_square_Initial_r1 (F : Fn) : LL := [qL 26 2 3,qL 27 2 4,qL 28 2 5,qc 29 (F "morphism.Valid") [.t 26,.t 27,.t 28],qm 8 29]
@[go_sem] def c_square_Initial_r2 : LL := [qm 30 8,qk .neq 31 30 0]
@[go_sem] def c_square_Initial_r3 : LL := [qu 32 [.nl 1,.nl 3,.nl 1,.nl 3,.nl 1,.nl 3,.nl 1,.nl 3,.nl 1,.nl 1,.nl 1,.nl 1,.nl 1,.nl 1,.nl 1,.nl 1] [],qm 33 8,qs 16 6 32,qm 7 33]
@[go_sem] def c_square_Initial_r4 (F : Fn) : LL := [qL 34 2 3,qL 35 2 4,qL 36 2 5,qc 37 (F "morphism.Injective") [.t 34,.t 35,.t 36],qv 38 37]
@[go_sem] def c_square_Initial_r5 : LL := [qu 39 [.nl 1,.nl 3,.nl 1,.nl 3,.nl 1,.nl 3,.nl 1,.nl 3,.nl 1,.nl 1,.nl 1,.nl 1,.nl 1,.nl 1,.nl 1,.nl 1] [],qs 16 6 39,qi 7 15]
@[go_sem] def c_square_Initial_r6 : LL := [qa 9 [.nl 1,.nl 1],qa 10 [.nl 1,.nl 1]]
@[go_sem] def c_square_Initial_r7 : LL := [qf 40 1 4,ql 41 1 40,qz 42 41,qi 43 0]
@[go_sem] def c_square_Initial_r8 : LL := [qo .lss 44 43 42]
@[go_sem] def c_square_Initial_r9 : LL := [qm 45 43,qd 46 3 41 43,qL 47 3 46,qa 12 [.int .i64 (0),.int .i64 (0),.int .i64 (0)],qm 11 45,qs 3 12 47]
@[go_sem] def c_square_Initial_r10 (F : Fn) : LL := [qf 48 1 5,ql 49 1 48,qm 50 11,qc 51 (F "slices.Contains.I") [.t 49,.t 50]]
@[go_sem] def c_square_Initial_r11 : LL := [qf 52 1 10,ql 53 1 52,qm 54 11,⟨some 55,.buildSl 1 8 (.int .i64 (0)) 1 [(0,.t 54)],none⟩,qp 56 1 8 53 55,qf 57 1 10,qs 1 57 56]
@[go_sem] def c_square_Initial_r12 : LL := [qf 58 1 12,ql 59 1 58,qf 60 2 12,ql 61 1 60,⟨some 62,.buildSl 1 8 (.int .i64 (0)) 2 [(0,.t 59),(1,.t 61)],none⟩,qz 63 62,qi 64 0]
@[go_sem] def c_square_Initial_r13 : LL := [qo .lss 65 64 63]
@[go_sem] def c_square_Initial_r14 : LL := [qd 66 1 62 64,ql 67 1 66,qm 14 67]
@[go_sem] def c_square_Initial_r15 (F : Fn) : LL := [qf 68 0 5,ql 69 1 68,qm 70 14,qc 71 (F "slices.Index.I") [.t 69,.t 70],qm 15 71]
@[go_sem] def c_square_Initial_r16 (F : Fn) : LL := [qm 72 15,qk .geq 73 72 0,qm 74 73,qg 74 true (qf 75 0 9),qg 74 true (ql 76 1 75),qg 74 true (qm 77 15),qg 74 true (qc 78 (F "slices.Contains.I") [.t 76,.t 77]),qg 74 true (qv 79 78),qP 80 74 79]
@[go_sem] def c_square_Initial_r17 : LL := [qf 81 0 9,ql 82 1 81,qm 83 15,⟨some 84,.buildSl 1 8 (.int .i64 (0)) 1 [(0,.t 83)],none⟩,qp 85 1 8 82 84,qf 86 0 9,qs 1 86 85]
@[go_sem] def c_square_Initial_r18 : LL := [qk .add 87 64 1,qm 64 87]
def c_square_Initial_b19 (F : Fn) : LC := (.seq (.reg c_square_Initial_r13 [3,4,5,6,9,10,41,42,43,62,63,64,65]) (.seq (.cond (.t 65) .skip (.exit 2)) (.seq (.block 3 (.seq (.reg c_square_Initial_r14 [3,4,5,6,9,10,14,41,42,43,62,63,64]) (.seq (.reg (c_square_Initial_r15 F) [3,4,5,6,9,10,15,41,42,43,62,63,64]) (.seq (.reg (c_square_Initial_r16 F) [3,4,5,6,9,10,15,41,42,43,62,63,64,80]) (.cond (.t 80) (.reg c_square_Initial_r17 [3,4,5,6,9,10,41,42,43,62,63,64]) .skip))))) (.reg c_square_Initial_r18 [3,4,5,6,9,10,41,42,43,62,63,64]))))
@[go_sem] def c_square_Initial_r20 : LL := [qk .add 88 43 1,qm 43 88]
def c_square_Initial_b21 (F : Fn) : LC := (.seq (.reg c_square_Initial_r8 [3,4,5,6,9,10,41,42,43,44]) (.seq (.cond (.t 44) .skip (.exit 0)) (.seq (.block 1 (.seq (.reg c_square_Initial_r9 [3,4,5,6,9,10,11,12,41,42,43]) (.seq (.seq (.reg (c_square_Initial_r10 F) [3,4,5,6,9,10,11,12,41,42,43,51]) (.cond (.t 51) (.exit 1) .skip)) (.seq (.reg c_square_Initial_r11 [3,4,5,6,9,10,12,41,42,43]) (.seq (.reg c_square_Initial_r12 [3,4,5,6,9,10,41,42,43,62,63,64]) (.block 2 (.loop [3,4,5,6,9,10,41,42,43,62,63,64] (c_square_Initial_b19 F)))))))) (.reg c_square_Initial_r20 [3,4,5,6,9,10,41,42,43]))))
@[go_sem] def c_square_Initial_r22 (F : Fn) : LL := [qf 89 0 9,ql 90 1 89,⟨some 91,.call (F "slices.Sort.I") [.t 90] [.mu],none⟩]
@[go_sem] def c_square_Initial_r23 : LL := [qf 92 0 4,ql 93 1 92,qz 94 93,qi 95 0]
@[go_sem] def c_square_Initial_r24 : LL := [qo .lss 96 95 94]
@[go_sem] def c_square_Initial_r25 : LL := [qm 97 95,qm 16 97]
@[go_sem] def c_square_Initial_r26 (F : Fn) : LL := [qf 98 0 5,ql 99 1 98,qm 100 16,qc 101 (F "slices.Index.I") [.t 99,.t 100],qm 17 101]
@[go_sem] def c_square_Initial_r27 (F : Fn) : LL := [qm 102 17,qk .lss 103 102 0,qm 104 103,qg 104 false (qf 105 0 9),qg 104 false (ql 106 1 105),qg 104 false (qm 107 17),qg 104 false (qc 108 (F "slices.Contains.I") [.t 106,.t 107]),qQ 109 104 108]
@[go_sem] def c_square_Initial_r28 : LL := [qf 110 0 10,ql 111 1 110,qm 112 16,⟨some 113,.buildSl 1 8 (.int .i64 (0)) 1 [(0,.t 112)],none⟩,qp 114 1 8 111 113,qf 115 0 10,qs 1 115 114]
@[go_sem] def c_square_Initial_r29 : LL := [qk .add 116 95 1,qm 95 116]
def c_square_Initial_b30 (F : Fn) : LC := (.seq (.reg c_square_Initial_r24 [3,4,5,6,9,10,94,95,96]) (.seq (.cond (.t 96) .skip (.exit 4)) (.seq (.block 5 (.seq (.reg c_square_Initial_r25 [3,4,5,6,9,10,16,94,95]) (.seq (.reg (c_square_Initial_r26 F) [3,4,5,6,9,10,16,17,94,95]) (.seq (.reg (c_square_Initial_r27 F) [3,4,5,6,9,10,16,94,95,109]) (.cond (.t 109) (.reg c_square_Initial_r28 [3,4,5,6,9,10,94,95]) .skip))))) (.reg c_square_Initial_r29 [3,4,5,6,9,10,94,95]))))
@[go_sem] def c_square_Initial_r31 (F : Fn) : LL := [qL 118 2 3,qL 119 2 9,qc 120 (F "subgraph.Extract") [.t 118,.t 119],qm 117 120,qx 121 117 0,qx 122 117 1,qx 123 117 2,qa 18 [.nl 1,.nl 3],qa 19 [.nl 1,.nl 1],qs 2 18 121,qs 2 19 122,qm 20 123]
@[go_sem] def c_square_Initial_r32 : LL := [qm 124 20,qk .neq 125 124 0]
@[go_sem] def c_square_Initial_r33 : LL := [qu 126 [.nl 1,.nl 3,.nl 1,.nl 3,.nl 1,.nl 3,.nl 1,.nl 3,.nl 1,.nl 1,.nl 1,.nl 1,.nl 1,.nl 1,.nl 1,.nl 1] [],qm 127 20,qs 16 6 126,qm 7 127]
@[go_sem] def c_square_Initial_r34 (F : Fn) : LL := [qL 129 2 4,qL 130 2 10,qc 131 (F "subgraph.Extract") [.t 129,.t 130],qm 128 131,qx 132 128 0,qx 133 128 1,qx 134 128 2,qa 21 [.nl 1,.nl 3],qa 22 [.nl 1,.nl 1],qs 2 21 132,qs 2 22 133,qm 20 134]
@[go_sem] def c_square_Initial_r35 : LL := [qm 135 20,qk .neq 136 135 0]
@[go_sem] def c_square_Initial_r36 : LL := [qu 137 [.nl 1,.nl 3,.nl 1,.nl 3,.nl 1,.nl 3,.nl 1,.nl 3,.nl 1,.nl 1,.nl 1,.nl 1,.nl 1,.nl 1,.nl 1,.nl 1] [],qm 138 20,qs 16 6 137,qm 7 138]
@[go_sem] def c_square_Initial_r37 : LL := [qa 23 [.nl 1,.nl 1]]
@[go_sem] def c_square_Initial_r38 : LL := [qf 139 0 9,ql 140 1 139,qz 141 140,qi 142 0]
@[go_sem] def c_square_Initial_r39 : LL := [qo .lss 143 142 141]
@[go_sem] def c_square_Initial_r40 : LL := [qd 144 1 140 142,ql 145 1 144,qm 25 145]
@[go_sem] def c_square_Initial_r41 (F : Fn) : LL := [qf 146 0 23,ql 147 1 146,qf 148 0 10,ql 149 1 148,qf 150 0 5,ql 151 1 150,qm 152 25,qd 153 1 151 152,ql 154 1 153,qc 155 (F "slices.Index.I") [.t 149,.t 154],
 ⟨some 156,.buildSl 1 8 (.int .i64 (0)) 1 [(0,.t 155)],none⟩,qp 157 1 8 147 156,qf 158 0 23,qs 1 158 157]
@[go_sem] def c_square_Initial_r42 : LL := [qk .add 159 142 1,qm 142 159]
def c_square_Initial_b43 (F : Fn) : LC := (.seq (.reg c_square_Initial_r39 [3,4,5,6,10,18,19,21,22,23,140,141,142,143]) (.seq (.cond (.t 143) .skip (.exit 6)) (.seq (.block 7 (.seq (.reg c_square_Initial_r40 [3,4,5,6,10,18,19,21,22,23,25,140,141,142]) (.dreg [(1,none,[],true),(9,none,[1],false),(10,none,[1],false)] (c_square_Initial_r41 F) [3,4,5,6,10,18,19,21,22,23,140,141,142]))) (.reg c_square_Initial_r42 [3,4,5,6,10,18,19,21,22,23,140,141,142]))))
@[go_sem] def c_square_Initial_r44 (F : Fn) : LL := [qL 160 2 18,qL 161 2 3,qc 162 (F "square.copied") [.t 161],qL 163 2 21,qL 164 2 4,qc 165 (F "square.copied") [.t 164],qL 166 2 19,qL 167 2 23,qL 168 2 5,qc 169 (F "square.arrow") [.t 168],qL 170 2 22,
 qu 171 [.nl 1,.nl 3,.nl 1,.nl 3,.nl 1,.nl 3,.nl 1,.nl 3,.nl 1,.nl 1,.nl 1,.nl 1,.nl 1,.nl 1,.nl 1,.nl 1] [(0,2,.t 160),(2,2,.t 162),(4,2,.t 163),(6,2,.t 165),(8,2,.t 166),(10,2,.t 167),(12,2,.t 169),(14,2,.t 170)],
 qs 16 6 171,qi 7 0]
@[go_sem] def c_square_Initial (F : Fn) : LC := (.seq (.reg c_square_Initial_r0 [3,4,5,6]) (.seq (.seq (.reg (c_square_Initial_r1 F) [3,4,5,6,8]) (.seq (.reg c_square_Initial_r2 [3,4,5,6,8,31]) (.cond (.t 31) (.seq (.reg c_square_Initial_r3 [6,7]) .ret) .skip))) (.seq (.seq (.reg (c_square_Initial_r4 F) [3,4,5,6,38]) (.cond (.t 38) (.seq (.reg c_square_Initial_r5 [6,7]) .ret) .skip)) (.seq (.reg c_square_Initial_r6 [3,4,5,6,9,10]) (.seq (.seq (.reg c_square_Initial_r7 [3,4,5,6,9,10,41,42,43]) (.block 0 (.loop [3,4,5,6,9,10,41,42,43] (c_square_Initial_b21 F)))) (.seq (.reg (c_square_Initial_r22 F) [3,4,5,6,9,10]) (.seq (.seq (.reg c_square_Initial_r23 [3,4,5,6,9,10,94,95]) (.block 4 (.loop [3,4,5,6,9,10,94,95] (c_square_Initial_b30 F)))) (.seq (.reg (c_square_Initial_r31 F) [3,4,5,6,9,10,18,19,20]) (.seq (.seq (.reg c_square_Initial_r32 [3,4,5,6,9,10,18,19,20,125]) (.cond (.t 125) (.seq (.reg c_square_Initial_r33 [6,7]) .ret) .skip)) (.seq (.reg (c_square_Initial_r34 F) [3,4,5,6,9,10,18,19,20,21,22]) (.seq (.seq (.reg c_square_Initial_r35 [3,4,5,6,9,10,18,19,20,21,22,136]) (.cond (.t 136) (.seq (.reg c_square_Initial_r36 [6,7]) .ret) .skip)) (.seq (.reg c_square_Initial_r37 [3,4,5,6,9,10,18,19,21,22,23]) (.seq (.seq (.reg c_square_Initial_r38 [3,4,5,6,10,18,19,21,22,23,140,141,142]) (.block 6 (.loop [3,4,5,6,10,18,19,21,22,23,140,141,142] (c_square_Initial_b43 F)))) (.seq (.dreg [(0,none,[],true),(2,none,[0],true),(3,(some 0),[2],true),(4,(some 0),[2],false),(5,none,[0,3],true),(6,(some 0),[2,5],true),(7,(some 0),[2,5],true),(8,(some 0),[2,5],false),(9,none,[0,3,6,7],true),(10,(some 0),[2,5,9],false)] (c_square_Initial_r44 F) [6,7]) .ret))))))))))))))
def h_square_Initial : Hints := hOf [] (c_square_Initial fun _ => 0)
def addB (im U : List Int) (x : Int) : List Int := if 0 ≤ idx (fun y => decide (x = y)) im 0 ∧ ¬ idx (fun y => decide (x = y)) im 0 ∈ U then U ++ [idx (fun y => decide (x = y)) im 0] else U
def bndU (b : G) (m : Mo) : Nat → List Int
 | 0 => []
 | i + 1 => if (i : Int) ∈ m.e then bndU b m i else addB m.n (addB m.n (bndU b m i) (gt b.e i).f) (gt b.e i).o
def ctE (b : G) (m : Mo) : List Int := sel (fun i : Nat => !decide ((i : Int) ∈ m.e)) b.e.length
def bdN (a b : G) (m : Mo) : List Int := sel (fun k : Nat => decide (gt m.n k ∈ endsL b (ctE b m))) a.n.length
def ctN (a b : G) (m : Mo) : List Int := sel (fun i : Nat => !decide ((i : Int) ∈ m.n) || decide ((i : Int) ∈ thr (bdN a b m) m.n)) b.n.length
def bdP (a b : G) (m : Mo) : Mo := ⟨bdN a b m, []⟩
def ctP (a b : G) (m : Mo) : Mo := ⟨ctN a b m, ctE b m⟩
def giM (a b : G) (m : Mo) : Mo := ⟨(bdN a b m).map fun k => (cntB (ctN a b m) (gt m.n k) : Int), []⟩
def iniS (a b : G) (m : Mo) : Sq := ⟨ptG a (bdP a b m), a, ptG b (ctP a b m), b, bdP a b m, giM a b m, m, ctP a b m⟩
def iniE (a b : G) (m : Mo) : Int := if validM a b m ≠ 0 then validM a b m else if injM a b m = true then 0 else 15
def iniR (a b : G) (m : Mo) : Sq × Int := if iniE a b m = 0 then (iniS a b m, 0) else (sq0, iniE a b m)
section
variable (P : Program) (F : String → Nat)
def K_square_Initial : Prop := ∀ (a b : G) (m : Mo), FC P (F "square.Initial") [gD a, gD b, mD m] (.tup [sqA (iniR a b m).1, .int .i64 (iniR a b m).2]) []
end
section
variable {P : Program} {F : String → Nat} {α : Type}
theorem idx_neg {l : List Int} {x : Int} : idx (fun y => decide (x = y)) l 0 < 0 ↔ ¬ x ∈ l := by
 have := idx_ge (fun y => decide (x = y)) l 0 (by omega)
 have h2 : (l.any fun y => decide (x = y)) = decide (x ∈ l) := by
  rw [Bool.eq_iff_iff]; simp
 rw [h2, decide_eq_decide] at this
 rw [← this]
 omega
theorem idx_nd {l : List Int} (hn : l.Nodup) {k : Nat} (hk : k < l.length) : idx (fun y => decide (gt l k = y)) l 0 = k := by
 have hm : gt l k ∈ l := gt_mem (by omega) (by omega)
 have h0 : ¬ idx (fun y => decide (gt l k = y)) l 0 < 0 := fun h => idx_neg.1 h hm
 have hs := idx_some (fun y => decide (gt l k = y)) l 0 (by omega)
 obtain ⟨j, e, hj, he, _⟩ := hs
 rw [Int.zero_add] at e
 rw [e]
 have he : gt l k = gt l j := of_decide_eq_true he
 exact congrArg _ (gt_inj hn hj hk he.symm)
theorem addB_mem {im U : List Int} (hn : im.Nodup) {x y : Int} : y ∈ addB im U x ↔ y ∈ U ∨ ∃ k : Nat, k < im.length ∧ gt im k = x ∧ y = k := by
 unfold addB
 by_cases hx : x ∈ im
 ·obtain ⟨k, hk, rfl⟩ := mem_gt hx
  rw [idx_nd hn hk]
  have key : (∃ k' : Nat, k' < im.length ∧ gt im k' = gt im k ∧ y = k') ↔ y = k := by
   constructor
   ·rintro ⟨k', h1, h2, rfl⟩; exact congrArg _ (gt_inj hn h1 hk h2)
   ·rintro rfl; exact ⟨k, hk, rfl, rfl⟩
  rw [key]
  split
  ·simp
  ·rename_i h
   have : (k : Int) ∈ U := Decidable.byContradiction fun h2 => h ⟨by omega, h2⟩
   constructor
   ·exact .inl
   ·rintro (h | rfl)
    ·exact h
    ·exact this
 ·have := idx_neg.2 hx
  rw [if_neg (by omega)]
  constructor
  ·exact .inl
  ·rintro (h | ⟨k, h1, rfl, _⟩)
   ·exact h
   ·exact absurd (gt_mem (by omega) (by omega)) hx
theorem addB_nodup {im U : List Int} {x : Int} (h : U.Nodup) : (addB im U x).Nodup := by
 unfold addB
 split
 ·rename_i hc
  rw [List.nodup_append]
  exact ⟨h, by simp, fun a ha b hb e => by simp at hb; subst hb; subst e; exact hc.2 ha⟩
 ·exact h
theorem addB_len (im U : List Int) (x : Int) : (addB im U x).length ≤ U.length + 1 := by
 unfold addB; split <;> simp
theorem bndU_mem {b : G} {m : Mo} (hn : m.n.Nodup) {y : Int} : ∀ {n : Nat}, y ∈ bndU b m n ↔ ∃ i : Nat, i < n ∧ ¬ (i : Int) ∈ m.e ∧ ∃ k : Nat, k < m.n.length ∧ (gt m.n k = (gt b.e i).f ∨ gt m.n k = (gt b.e i).o) ∧ y = k
 | 0 => by simp [bndU]
 | n + 1 => by
  rw [bndU]
  have ih := bndU_mem (b := b) hn (y := y) (n := n)
  split
  ·rename_i h
   rw [ih]
   constructor
   ·rintro ⟨i, h1, h2⟩; exact ⟨i, by omega, h2⟩
   ·rintro ⟨i, h1, h2, h3⟩
    by_cases e : i = n
    ·subst e; exact absurd h h2
    ·exact ⟨i, by omega, h2, h3⟩
  ·rename_i h
   rw [addB_mem hn, addB_mem hn, ih]
   constructor
   ·rintro ((⟨i, h1, h2⟩ | ⟨k, h1, h2, h3⟩) | ⟨k, h1, h2, h3⟩)
    ·exact ⟨i, by omega, h2⟩
    ·exact ⟨n, by omega, h, k, h1, .inl h2, h3⟩
    ·exact ⟨n, by omega, h, k, h1, .inr h2, h3⟩
   ·rintro ⟨i, h1, h2, k, h3, h4, h5⟩
    by_cases e : i = n
    ·subst e
     rcases h4 with h4 | h4
     ·exact .inl (.inr ⟨k, h3, h4, h5⟩)
     ·exact .inr ⟨k, h3, h4, h5⟩
    ·exact .inl (.inl ⟨i, by omega, h2, k, h3, h4, h5⟩)
theorem bndU_nodup {b : G} {m : Mo} : ∀ n, (bndU b m n).Nodup
 | 0 => by simp [bndU]
 | n + 1 => by
  rw [bndU]
  split
  ·exact bndU_nodup n
  ·exact addB_nodup (addB_nodup (bndU_nodup n))
theorem bndU_len {b : G} {m : Mo} : ∀ n, (bndU b m n).length ≤ 2 * n
 | 0 => by simp [bndU]
 | n + 1 => by
  have := bndU_len (b := b) (m := m) n
  rw [bndU]
  split
  ·omega
  ·have h1 := addB_len m.n (bndU b m n) (gt b.e n).f
   have h2 := addB_len m.n (addB m.n (bndU b m n) (gt b.e n).f) (gt b.e n).o
   omega
theorem ctE_mem {b : G} {m : Mo} {i : Nat} : (i : Int) ∈ ctE b m ↔ i < b.e.length ∧ ¬ (i : Int) ∈ m.e := by
 unfold ctE; rw [sel_memN]; simp
theorem ctE_ends {b : G} {m : Mo} {x : Int} : x ∈ endsL b (ctE b m) ↔ ∃ i : Nat, i < b.e.length ∧ ¬ (i : Int) ∈ m.e ∧ ((gt b.e i).f = x ∨ (gt b.e i).o = x) := by
 rw [ends_mem]
 constructor
 ·rintro ⟨e, he, hx⟩
  obtain ⟨i, _, _, rfl⟩ := sel_mem.1 (show e ∈ sel _ _ from he)
  obtain ⟨h1, h2⟩ := ctE_mem.1 he
  exact ⟨i, h1, h2, hx⟩
 ·rintro ⟨i, h1, h2, hx⟩
  exact ⟨i, ctE_mem.2 ⟨h1, h2⟩, hx⟩
theorem bdN_mem {a b : G} {m : Mo} {k : Nat} : (k : Int) ∈ bdN a b m ↔ k < a.n.length ∧ gt m.n k ∈ endsL b (ctE b m) := by
 unfold bdN; rw [sel_memN]; simp
theorem srt_bnd {a b : G} {m : Mo} (hm : MOk a b m) (hn : m.n.Nodup) : srt (bndU b m b.e.length) = bdN a b m := by
 have hs : (srt (bndU b m b.e.length)).Pairwise (· < ·) := by
  have h1 := srt_sorted (bndU b m b.e.length)
  have h2 : (srt (bndU b m b.e.length)).Nodup := by
   have := List.mergeSort_perm (bndU b m b.e.length) (fun x y => decide (x ≤ y))
   exact this.nodup_iff.2 (bndU_nodup _)
  rw [List.pairwise_iff_getElem] at h1 ⊢
  rw [List.nodup_iff_pairwise_ne, List.pairwise_iff_getElem] at h2
  intro i j hi hj hij
  have := h1 i j hi hj hij
  have := h2 i j hi hj hij
  omega
 refine asc_ext hs (sel_pair _ _) fun x => ?_
 have hmem : x ∈ srt (bndU b m b.e.length) ↔ x ∈ bndU b m b.e.length := (List.mergeSort_perm (bndU b m b.e.length) (fun x y => decide (x ≤ y))).mem_iff
 rw [hmem, bndU_mem hn]
 constructor
 ·rintro ⟨i, h1, h2, k, h3, h4, rfl⟩
  exact bdN_mem.2 ⟨by rw [← hm.ln]; exact h3, ctE_ends.2 ⟨i, h1, h2, h4.imp Eq.symm Eq.symm⟩⟩
 ·intro hx
  obtain ⟨k, _, _, rfl⟩ := sel_mem.1 (show x ∈ sel _ _ from hx)
  obtain ⟨h1, h2⟩ := bdN_mem.1 hx
  obtain ⟨i, h3, h4, h5⟩ := ctE_ends.1 h2
  exact ⟨i, h3, h4, k, by rw [hm.ln]; exact h1, h5.imp Eq.symm Eq.symm, rfl⟩
theorem ctN_mem {a b : G} {m : Mo} {i : Nat} : (i : Int) ∈ ctN a b m ↔ i < b.n.length ∧ (¬ (i : Int) ∈ m.n ∨ (i : Int) ∈ thr (bdN a b m) m.n) := by
 unfold ctN; rw [sel_memN]; simp
theorem thr_memN {p im : List Int} {x : Int} : x ∈ thr p im ↔ ∃ k ∈ p, gt im k = x := List.mem_map
theorem bdP_ok {a b : G} {m : Mo} (hm : MOk a b m) : PK a (bdP a b m) := ⟨hm.va, sel_asc _ _, ⟨by simp [bdP], by simp [bdP]⟩, by simp [bdP]⟩
theorem ctP_ok {a b : G} {m : Mo} (hm : MOk a b m) : PK b (ctP a b m) := by
 refine ⟨hm.vb, sel_asc _ _, sel_asc _ _, fun x hx => ?_⟩
 have hx' : x ∈ ctE b m := hx
 obtain ⟨i, _, _, rfl⟩ := sel_mem.1 (show x ∈ sel _ _ from hx')
 obtain ⟨h1, h2⟩ := ctE_mem.1 hx'
 have hf := edge_fits hm.vb (i := (i : Int)) (by omega)
 have key : ∀ y : Int, 0 ≤ y ∧ y < b.n.length → ((gt b.e i).f = y ∨ (gt b.e i).o = y) → y ∈ ctN a b m := fun y hy he => by
  obtain ⟨j, hj, rfl⟩ := gtI hy
  refine ctN_mem.2 ⟨hj, ?_⟩
  by_cases hm2 : (j : Int) ∈ m.n
  ·obtain ⟨k, hk, e⟩ := mem_gt hm2
   refine .inr (thr_memN.2 ⟨k, bdN_mem.2 ⟨by rw [← hm.ln]; exact hk, ?_⟩, e⟩)
   rw [e]
   exact ctE_ends.2 ⟨i, h1, h2, he⟩
  ·exact .inl hm2
 exact ⟨key _ hf.2.1 (.inl rfl), key _ hf.2.2 (.inr rfl)⟩
set_option maxHeartbeats 4000000 in
theorem w_square_Initial (hv : K_morphism_Valid P F) (hj : K_morphism_Injective P F) (hc : K_slices_Contains_I P F) (hx : K_slices_Index_I P F) (hs : K_slices_Sort_I P F) (he : K_subgraph_Extract P F) (hcp : K_square_copied P F) (har : K_square_arrow P F) (a b : G) (m : Mo) : W P (c_square_Initial F) (Done [.c 6 true 16, .t 7] [] (.tup [sqA (iniR a b m).1, .int .i64 (iniR a b m).2]) []) (init [gD a, gD b, mD m]) := by
 refine W_of ?_
 have r1 := hv a b m
 have r2 := hj a b m
 have hR : iniR a b m = if iniE a b m = 0 then (iniS a b m, 0) else (sq0, iniE a b m) := rfl
 have hE : iniE a b m = if validM a b m ≠ 0 then validM a b m else if injM a b m = true then 0 else 15 := rfl
 by_cases c0 : validM a b m = 0
 case neg =>
  rw [if_pos c0] at hE
  rw [hE, if_neg c0] at hR
  rw [hR]
  clear hR hE
  generalize validM a b m = v at *
  simp only [gD, mD] at *
  simp (disch := omega) only [go_sem, ↓reduceIte]
  refine call_by r1 ?_
  simp (disch := omega) only [go_sem, ↓reduceIte]
  refine bran_ndec (fun c => ?_) (fun c => absurd c c0)
  simp (disch := omega) only [go_sem, ↓reduceIte]
  simp [sqA, sq0, g0, m0, ints, eds]
 rw [if_neg (by simp [c0])] at hE
 rw [c0] at r1
 by_cases c1 : injM a b m = true
 case neg =>
  rw [if_neg c1] at hE
  rw [hE] at hR
  rw [hR]
  rw [Bool.not_eq_true] at c1
  rw [c1] at r2
  clear hR hE
  simp only [gD, mD] at *
  simp (disch := omega) only [go_sem, ↓reduceIte]
  refine call_by r1 ?_
  simp (disch := omega) only [go_sem, ↓reduceIte]
  refine call_by r2 ?_
  simp (disch := omega) only [go_sem, ↓reduceIte]
  simp [sqA, sq0, g0, m0, ints, eds]
 rw [if_pos c1] at hE
 rw [hE, if_pos rfl] at hR
 rw [hR]
 rw [c1] at r2
 have hm := mok.1 c0
 have hn : m.n.Nodup := ((injM_ok hm).1 c1).1
 have va := valid_spec hm.va
 have vb := valid_spec hm.vb
 have l1 := hm.ln
 have l2 := hm.le
 have hsb := srt_bnd hm hn
 have ul := bndU_len (b := b) (m := m)
 have us : ∀ i : Nat, bndU b m (i + 1) = if (i : Int) ∈ m.e then bndU b m i else addB m.n (addB m.n (bndU b m i) (gt b.e i).f) (gt b.e i).o := fun i => rfl
 have uz : bndU b m 0 = [] := rfl
 have rc := fun x : Int => hc m.e x (by unfold maxL; omega)
 have rx := fun x : Int => hx m.n x (by unfold maxL; omega)
 have rs := hs (bndU b m b.e.length) (by have := ul b.e.length; unfold maxL; omega)
 rw [hsb] at rs
 have es := sel_succ (fun i : Nat => !decide ((i : Int) ∈ m.e))
 have ez := sel_zero (fun i : Nat => !decide ((i : Int) ∈ m.e))
 have esl := sel_len (fun i : Nat => !decide ((i : Int) ∈ m.e))
 have hbl := srt_len (bndU b m b.e.length)
 rw [hsb] at hbl
 have hab := fun U x => addB_len m.n U x
 generalize hE' : sel (fun i : Nat => !decide ((i : Int) ∈ m.e)) = E at *
 have hCe : ctE b m = E b.e.length := by rw [← hE']; rfl
 generalize bndU b m = U at *
 have hcU := fun (i : Nat) (x : Int) (hi : i ≤ b.e.length) => hc (U i) x (by have := ul i; unfold maxL; omega)
 obtain ⟨an, ae⟩ := a
 obtain ⟨bn, be⟩ := b
 obtain ⟨mn, me⟩ := m
 simp only [gD, mD] at *
 simp (disch := omega) only [go_sem, ↓reduceIte]
 refine call_by r1 ?_
 simp (disch := omega) only [go_sem, ↓reduceIte]
 refine call_by r2 ?_
 simp (disch := omega) only [go_sem, ↓reduceIte]
 refine W_loop (fun i : Nat => ⟨[(3, .pt 0 0), (4, .pt 1 0), (5, .pt 2 0), (6, .pt 19 0), (9, .pt 22 0), (10, .pt 25 0), (41, .lst 3 (eds be)), (42, .int .i64 be.length), (43, .int .i64 i)], [(0, .box [.lst 1 (ints an), .lst 3 (eds ae)]), (1, .box [.lst 1 (ints bn), .lst 3 (eds be)]), (2, .box [.lst 1 (ints mn), .lst 1 (ints me)]), (3, .arr 1 []), (4, .arr 3 []), (5, .arr 1 []), (6, .arr 3 []), (7, .arr 1 []), (8, .arr 3 []), (9, .arr 1 []), (10, .arr 3 []), (11, .arr 1 []), (12, .arr 1 []), (13, .arr 1 []), (14, .arr 1 []), (15, .arr 1 []), (16, .arr 1 []), (17, .arr 1 []), (18, .arr 1 []), (19, .box [.sl 3 0 0, .sl 4 0 0, .sl 5 0 0, .sl 6 0 0, .sl 7 0 0, .sl 8 0 0, .sl 9 0 0, .sl 10 0 0, .sl 11 0 0, .sl 12 0 0, .sl 13 0 0, .sl 14 0 0, .sl 15 0 0, .sl 16 0 0, .sl 17 0 0, .sl 18 0 0]), (20, .arr 1 (ints (U i))), (21, .arr 1 []), (22, .box [.sl 20 0 (U i).length, .sl 21 0 0]), (23, .arr 1 (ints [])), (24, .arr 1 (ints (E i))), (25, .box [.sl 23 0 0, .sl 24 0 (E i).length])], 26⟩) (fun i => i ≤ be.length) (fun i => be.length - i) 0 ?_ ?_ ?_
 ·simp (disch := omega) only [go_sem, ↓reduceIte, uz, ez]
  rfl
 ·simp
 ·intro i hi
  have ui := ul i
  have eil := esl i
  by_cases e : i < be.length
  ·have d1 : decide ((i : Int) < be.length) = true := decide_eq_true (by omega)
   have r3 := rc i
   have st := us i
   have se := es i
   by_cases c2 : (i : Int) ∈ me
   ·rw [decide_eq_true c2] at r3 se
    rw [if_pos c2] at st
    rw [if_neg (by simp)] at se
    simp (disch := omega) only [go_sem, ↓reduceIte, c_square_Initial_b21, d1]
    refine call_by r3 ?_
    simp (disch := omega) only [go_sem, ↓reduceIte]
    exact ⟨i + 1, by simp [st, se], by omega, by omega⟩
   ·rw [decide_eq_false c2] at r3 se
    rw [if_neg c2] at st
    rw [if_pos (by simp)] at se
    simp (disch := omega) only [go_sem, ↓reduceIte, c_square_Initial_b21, d1]
    refine call_by r3 ?_
    simp (disch := omega) only [go_sem, ↓reduceIte]
    obtain ⟨fo, hfo, lfo⟩ : ∃ fo : List Int, fo = [(gt be i).f, (gt be i).o] ∧ fo.length = 2 := ⟨_, rfl, rfl⟩
    obtain ⟨V, v0, v1, v2, v3⟩ : ∃ V : Nat → List Int, V 0 = U i ∧ (∀ j : Nat, j < 2 → V (j + 1) = addB mn (V j) (gt fo j)) ∧ V 2 = U (i + 1) ∧ ∀ j : Nat, j ≤ 2 → (V j).length ≤ 1000 := by
     have h1 := hab (U i) (gt be i).f
     have h2 := hab (addB mn (U i) (gt be i).f) (gt be i).o
     refine ⟨fun j => if j = 0 then U i else if j = 1 then addB mn (U i) (gt be i).f else addB mn (addB mn (U i) (gt be i).f) (gt be i).o, rfl, fun j hj => ?_, by simp [st], fun j hj => ?_⟩
     ·subst hfo
      by_cases e0 : j = 0
      ·subst e0; rfl
      ·have : j = 1 := by omega
       subst this; rfl
     ·simp only
      split
      ·omega
      ·split <;> omega
    refine W_loop (fun j : Nat => ⟨[(3, .pt 0 0), (4, .pt 1 0), (5, .pt 2 0), (6, .pt 19 0), (9, .pt 22 0), (10, .pt 25 0), (41, .lst 3 (eds be)), (42, .int .i64 be.length), (43, .int .i64 i), (62, .sl 26 0 2), (63, .int .i64 2), (64, .int .i64 j)], [(0, .box [.lst 1 (ints an), .lst 3 (eds ae)]), (1, .box [.lst 1 (ints bn), .lst 3 (eds be)]), (2, .box [.lst 1 (ints mn), .lst 1 (ints me)]), (3, .arr 1 []), (4, .arr 3 []), (5, .arr 1 []), (6, .arr 3 []), (7, .arr 1 []), (8, .arr 3 []), (9, .arr 1 []), (10, .arr 3 []), (11, .arr 1 []), (12, .arr 1 []), (13, .arr 1 []), (14, .arr 1 []), (15, .arr 1 []), (16, .arr 1 []), (17, .arr 1 []), (18, .arr 1 []), (19, .box [.sl 3 0 0, .sl 4 0 0, .sl 5 0 0, .sl 6 0 0, .sl 7 0 0, .sl 8 0 0, .sl 9 0 0, .sl 10 0 0, .sl 11 0 0, .sl 12 0 0, .sl 13 0 0, .sl 14 0 0, .sl 15 0 0, .sl 16 0 0, .sl 17 0 0, .sl 18 0 0]), (20, .arr 1 (ints (V j))), (21, .arr 1 []), (22, .box [.sl 20 0 (V j).length, .sl 21 0 0]), (23, .arr 1 (ints [])), (24, .arr 1 (ints (E (i + 1)))), (25, .box [.sl 23 0 0, .sl 24 0 (E (i + 1)).length]), (26, .arr 1 (ints fo))], 27⟩) (fun j => j ≤ 2) (fun j => 2 - j) 0 ?_ ?_ ?_
    ·simp (disch := omega) only [go_sem, ↓reduceIte, se, v0, hfo]
     rfl
    ·simp
    ·intro j hj
     have l3 := v3 j hj
     by_cases f : j < 2
     ·have d2 : decide ((j : Int) < 2) = true := decide_eq_true (by omega)
      have r4 := rx (gt fo j)
      have r5 := hc (V j) (idx (fun y => decide (gt fo j = y)) mn 0) (by unfold maxL; omega)
      have stj := v1 j f
      unfold addB at stj
      generalize idx (fun y => decide (gt fo j = y)) mn 0 = k at *
      by_cases n0 : k < 0
      ·have d3 : decide (0 ≤ k) = false := decide_eq_false (by omega)
       rw [if_neg (by omega)] at stj
       simp (disch := omega) only [go_sem, ↓reduceIte, c_square_Initial_b19, d2, lfo]
       refine call_by r4 ?_
       simp (disch := omega) only [go_sem, ↓reduceIte, d3]
       exact ⟨j + 1, by simp [stj], by omega, by omega⟩
      ·have d3 : decide (0 ≤ k) = true := decide_eq_true (by omega)
       by_cases n1 : k ∈ V j
       ·rw [if_neg (fun h => h.2 n1)] at stj
        rw [decide_eq_true n1] at r5
        simp (disch := omega) only [go_sem, ↓reduceIte, c_square_Initial_b19, d2, lfo]
        refine call_by r4 ?_
        simp (disch := omega) only [go_sem, ↓reduceIte, d3]
        refine call_by r5 ?_
        simp (disch := omega) only [go_sem, ↓reduceIte]
        exact ⟨j + 1, by simp [stj], by omega, by omega⟩
       ·rw [if_pos ⟨by omega, n1⟩] at stj
        rw [decide_eq_false n1] at r5
        simp (disch := omega) only [go_sem, ↓reduceIte, c_square_Initial_b19, d2, lfo]
        refine call_by r4 ?_
        simp (disch := omega) only [go_sem, ↓reduceIte, d3]
        refine call_by r5 ?_
        simp (disch := omega) only [go_sem, ↓reduceIte]
        exact ⟨j + 1, by simp [stj], by omega, by omega⟩
     ·have d2 : decide ((j : Int) < 2) = false := decide_eq_false (by omega)
      obtain rfl : j = 2 := by omega
      simp (disch := omega) only [go_sem, ↓reduceIte, c_square_Initial_b19, d2]
      exact ⟨i + 1, by simp [v2], by omega, by omega⟩
  ·have d1 : decide ((i : Int) < be.length) = false := decide_eq_false (by omega)
   obtain rfl : i = be.length := by omega
   simp (disch := omega) only [go_sem, ↓reduceIte, c_square_Initial_b21, d1]
   refine call_by rs ?_
   simp (disch := omega) only [go_sem, ↓reduceIte, ← hbl]
   have cs := sel_succ (fun i : Nat => !decide ((i : Int) ∈ mn) || decide ((i : Int) ∈ thr (bdN ⟨an, ae⟩ ⟨bn, be⟩ ⟨mn, me⟩) mn))
   have cz := sel_zero (fun i : Nat => !decide ((i : Int) ∈ mn) || decide ((i : Int) ∈ thr (bdN ⟨an, ae⟩ ⟨bn, be⟩ ⟨mn, me⟩) mn))
   have cl := sel_len (fun i : Nat => !decide ((i : Int) ∈ mn) || decide ((i : Int) ∈ thr (bdN ⟨an, ae⟩ ⟨bn, be⟩ ⟨mn, me⟩) mn))
   have hCN : ctN ⟨an, ae⟩ ⟨bn, be⟩ ⟨mn, me⟩ = sel (fun i : Nat => !decide ((i : Int) ∈ mn) || decide ((i : Int) ∈ thr (bdN ⟨an, ae⟩ ⟨bn, be⟩ ⟨mn, me⟩) mn)) bn.length := rfl
   have hk1 := bdP_ok hm
   have hk2 := ctP_ok hm
   have hI : iniS ⟨an, ae⟩ ⟨bn, be⟩ ⟨mn, me⟩ = ⟨ptG ⟨an, ae⟩ ⟨bdN ⟨an, ae⟩ ⟨bn, be⟩ ⟨mn, me⟩, []⟩, ⟨an, ae⟩, ptG ⟨bn, be⟩ ⟨ctN ⟨an, ae⟩ ⟨bn, be⟩ ⟨mn, me⟩, ctE ⟨bn, be⟩ ⟨mn, me⟩⟩, ⟨bn, be⟩, ⟨bdN ⟨an, ae⟩ ⟨bn, be⟩ ⟨mn, me⟩, []⟩, ⟨(bdN ⟨an, ae⟩ ⟨bn, be⟩ ⟨mn, me⟩).map fun k => (cntB (ctN ⟨an, ae⟩ ⟨bn, be⟩ ⟨mn, me⟩) (gt mn k) : Int), []⟩, ⟨mn, me⟩, ⟨ctN ⟨an, ae⟩ ⟨bn, be⟩ ⟨mn, me⟩, ctE ⟨bn, be⟩ ⟨mn, me⟩⟩⟩ := rfl
   have x1 := he ⟨an, ae⟩ ⟨bdN ⟨an, ae⟩ ⟨bn, be⟩ ⟨mn, me⟩, []⟩ hk1.sm
   have x2 := he ⟨bn, be⟩ ⟨ctN ⟨an, ae⟩ ⟨bn, be⟩ ⟨mn, me⟩, ctE ⟨bn, be⟩ ⟨mn, me⟩⟩ hk2.sm
   have y1 : exR ⟨an, ae⟩ ⟨bdN ⟨an, ae⟩ ⟨bn, be⟩ ⟨mn, me⟩, []⟩ = (ptG ⟨an, ae⟩ ⟨bdN ⟨an, ae⟩ ⟨bn, be⟩ ⟨mn, me⟩, []⟩, ⟨bdN ⟨an, ae⟩ ⟨bn, be⟩ ⟨mn, me⟩, []⟩, 0) := by unfold exR; rw [if_neg (fun h => h (validP_ok.2 hk1))]
   have y2 : exR ⟨bn, be⟩ ⟨ctN ⟨an, ae⟩ ⟨bn, be⟩ ⟨mn, me⟩, ctE ⟨bn, be⟩ ⟨mn, me⟩⟩ = (ptG ⟨bn, be⟩ ⟨ctN ⟨an, ae⟩ ⟨bn, be⟩ ⟨mn, me⟩, ctE ⟨bn, be⟩ ⟨mn, me⟩⟩, ⟨ctN ⟨an, ae⟩ ⟨bn, be⟩ ⟨mn, me⟩, ctE ⟨bn, be⟩ ⟨mn, me⟩⟩, 0) := by unfold exR; rw [if_neg (fun h => h (validP_ok.2 hk2))]
   rw [y1] at x1
   rw [y2] at x2
   have hbl2 := hk1.len.1
   have hbm : ∀ i : Nat, i < (bdN ⟨an, ae⟩ ⟨bn, be⟩ ⟨mn, me⟩).length → ∃ k : Nat, k < mn.length ∧ gt (bdN ⟨an, ae⟩ ⟨bn, be⟩ ⟨mn, me⟩) i = k ∧ gt mn k ∈ ctN ⟨an, ae⟩ ⟨bn, be⟩ ⟨mn, me⟩ := fun i hi => by
    have hmem := gt_mem (l := bdN ⟨an, ae⟩ ⟨bn, be⟩ ⟨mn, me⟩) (j := (i : Int)) (by omega) (by omega)
    obtain ⟨k, hk, _, e⟩ := sel_mem.1 (show _ ∈ sel _ _ from hmem)
    rw [e] at hmem ⊢
    have hk' : k < an.length := hk
    have hkb := (hm.nd k hk).1
    refine ⟨k, by omega, rfl, ?_⟩
    obtain ⟨j, hj, ej⟩ := gtI hkb
    simp only at ej
    rw [ej]
    exact ctN_mem.2 ⟨hj, .inr (thr_memN.2 ⟨k, hmem, ej⟩)⟩
   have hidx : ∀ i : Nat, i < bn.length → (idx (fun y => decide ((i : Int) = y)) mn 0 < 0 ∧ ¬ (i : Int) ∈ mn) ∨ (¬ idx (fun y => decide ((i : Int) = y)) mn 0 < 0 ∧ (i : Int) ∈ mn ∧ (idx (fun y => decide ((i : Int) = y)) mn 0 ∈ bdN ⟨an, ae⟩ ⟨bn, be⟩ ⟨mn, me⟩ ↔ (i : Int) ∈ thr (bdN ⟨an, ae⟩ ⟨bn, be⟩ ⟨mn, me⟩) mn)) := fun i hi => by
    by_cases h : (i : Int) ∈ mn
    ·refine .inr ⟨fun h2 => idx_neg.1 h2 h, h, ?_⟩
     obtain ⟨k, hk, e⟩ := mem_gt h
     rw [← e, idx_nd hn hk, thr_memN]
     constructor
     ·intro hb; exact ⟨k, hb, rfl⟩
     ·rintro ⟨k', hk', e'⟩
      obtain ⟨j, hj, _, rfl⟩ := sel_mem.1 (show k' ∈ sel _ _ from hk')
      have hj' : j < an.length := hj
      have := gt_inj hn (i := j) (j := k) (by omega) hk e'
      subst this
      exact hk'
    ·exact .inl ⟨idx_neg.2 h, h⟩
   rw [hI, hCe]
   rw [hCe] at x2
   rw [hCN] at hbm x2
   clear hk1 hk2 y1 y2 hI
   rw [hCN]
   clear hCN
   have hCa := sel_pair (fun i : Nat => !decide ((i : Int) ∈ mn) || decide ((i : Int) ∈ thr (bdN ⟨an, ae⟩ ⟨bn, be⟩ ⟨mn, me⟩) mn)) bn.length
   generalize sel (fun i : Nat => !decide ((i : Int) ∈ mn) || decide ((i : Int) ∈ thr (bdN ⟨an, ae⟩ ⟨bn, be⟩ ⟨mn, me⟩) mn)) = C at *
   generalize bdN ⟨an, ae⟩ ⟨bn, be⟩ ⟨mn, me⟩ = Bd at *
   refine W_loop (fun i : Nat => ⟨[(3, .pt 0 0), (4, .pt 1 0), (5, .pt 2 0), (6, .pt 19 0), (9, .pt 22 0), (10, .pt 25 0), (94, .int .i64 bn.length), (95, .int .i64 i)], [(0, .box [.lst 1 (ints an), .lst 3 (eds ae)]), (1, .box [.lst 1 (ints bn), .lst 3 (eds be)]), (2, .box [.lst 1 (ints mn), .lst 1 (ints me)]), (3, .arr 1 []), (4, .arr 3 []), (5, .arr 1 []), (6, .arr 3 []), (7, .arr 1 []), (8, .arr 3 []), (9, .arr 1 []), (10, .arr 3 []), (11, .arr 1 []), (12, .arr 1 []), (13, .arr 1 []), (14, .arr 1 []), (15, .arr 1 []), (16, .arr 1 []), (17, .arr 1 []), (18, .arr 1 []), (19, .box [.sl 3 0 0, .sl 4 0 0, .sl 5 0 0, .sl 6 0 0, .sl 7 0 0, .sl 8 0 0, .sl 9 0 0, .sl 10 0 0, .sl 11 0 0, .sl 12 0 0, .sl 13 0 0, .sl 14 0 0, .sl 15 0 0, .sl 16 0 0, .sl 17 0 0, .sl 18 0 0]), (20, .arr 1 (ints Bd)), (21, .arr 1 []), (22, .box [.sl 20 0 Bd.length, .sl 21 0 0]), (23, .arr 1 (ints (C i))), (24, .arr 1 (ints (E be.length))), (25, .box [.sl 23 0 (C i).length, .sl 24 0 (E be.length).length])], 26⟩) (fun i => i ≤ bn.length) (fun i => bn.length - i) 0 ?_ ?_ ?_
   ·simp (disch := omega) only [go_sem, ↓reduceIte, cz]
    rfl
   ·simp
   ·intro i hi
    have cli := cl i
    by_cases e : i < bn.length
    ·have d2 : decide ((i : Int) < bn.length) = true := decide_eq_true (by omega)
     have r4 := rx i
     have sti := cs i
     have r5 := hc Bd (idx (fun y => decide ((i : Int) = y)) mn 0) (by unfold maxL; omega)
     rcases hidx i e with ⟨q1, q2⟩ | ⟨q1, q2, q3⟩
     ·generalize idx (fun y => decide ((i : Int) = y)) mn 0 = k at *
      have d3 : decide (k < 0) = true := decide_eq_true q1
      rw [if_pos (by simp [q2])] at sti
      simp (disch := omega) only [go_sem, ↓reduceIte, c_square_Initial_b30, d2]
      refine call_by r4 ?_
      simp (disch := omega) only [go_sem, ↓reduceIte, d3]
      exact ⟨i + 1, by simp [sti], by omega, by omega⟩
     ·generalize idx (fun y => decide ((i : Int) = y)) mn 0 = k at *
      have d3 : decide (k < 0) = false := decide_eq_false q1
      by_cases q4 : k ∈ Bd
      ·rw [decide_eq_true q4] at r5
       rw [if_pos (by simp [q3.1 q4])] at sti
       simp (disch := omega) only [go_sem, ↓reduceIte, c_square_Initial_b30, d2]
       refine call_by r4 ?_
       simp (disch := omega) only [go_sem, ↓reduceIte, d3]
       refine call_by r5 ?_
       simp (disch := omega) only [go_sem, ↓reduceIte]
       exact ⟨i + 1, by simp [sti], by omega, by omega⟩
      ·rw [decide_eq_false q4] at r5
       rw [if_neg (by rw [decide_eq_true q2, decide_eq_false (fun h => q4 (q3.2 h))]; simp)] at sti
       simp (disch := omega) only [go_sem, ↓reduceIte, c_square_Initial_b30, d2]
       refine call_by r4 ?_
       simp (disch := omega) only [go_sem, ↓reduceIte, d3]
       refine call_by r5 ?_
       simp (disch := omega) only [go_sem, ↓reduceIte]
       exact ⟨i + 1, by simp [sti], by omega, by omega⟩
    ·have d2 : decide ((i : Int) < bn.length) = false := decide_eq_false (by omega)
     obtain rfl : i = bn.length := by omega
     generalize ptG ⟨an, ae⟩ ⟨Bd, []⟩ = pa at *
     generalize ptG ⟨bn, be⟩ ⟨C bn.length, E be.length⟩ = pb at *
     obtain ⟨pan, pae⟩ := pa
     obtain ⟨pbn, pbe⟩ := pb
     simp only [gD, gA, mD, mA] at x1 x2
     change FC P _ [_, .agg [.lst 1 (ints Bd), .lst 1 []]] (.tup [_, .agg [.arr 1 (ints Bd), .arr 1 []], _]) _ at x1
     simp (disch := omega) only [go_sem, ↓reduceIte, c_square_Initial_b30, d2]
     refine call_by x1 ?_
     simp (disch := omega) only [go_sem, ↓reduceIte]
     refine call_by x2 ?_
     simp (disch := omega) only [go_sem, ↓reduceIte]
     have rI : ∀ i : Nat, i < Bd.length → (0 ≤ gt Bd i ∧ gt Bd i < mn.length) ∧ FC P (F "slices.Index.I") [.lst 1 (ints (C bn.length)), .int .i64 (gt mn (gt Bd i))] (.int .i64 (cntB (C bn.length) (gt mn (gt Bd i)))) [] := fun i hi => by
      obtain ⟨k, hk, e1, e2⟩ := hbm i hi
      rw [e1]
      refine ⟨by omega, ?_⟩
      rw [← idx_asc hCa e2]
      exact hx (C bn.length) (gt mn k) (by unfold maxL; omega)
     have rg1 := hcp ⟨an, ae⟩ (by simp only; omega) (by simp only; omega)
     have rg2 := hcp ⟨bn, be⟩ (by simp only; omega) (by simp only; omega)
     have rg3 := har ⟨mn, me⟩ (by simp only; omega) (by simp only; omega)
     have lE := esl be.length
     simp only [gD, gA, mD, mA] at rg1 rg2 rg3
     clear hbm hidx hcU rc rx r1 r2 rs x1 x2 hc hx hs he hcp har hv hj cs cz cl es ez esl ul us uz hab hR hE hsb
     generalize C bn.length = Cc at *
     generalize E be.length = Ec at *
     generalize hf : (fun k : Int => (cntB Cc (gt mn k) : Int)) = f at *
     have hff : ∀ k, (cntB Cc (gt mn k) : Int) = f k := fun k => by rw [← hf]
     refine W_loop (fun i : Nat => ⟨[(3, .pt 0 0), (4, .pt 1 0), (5, .pt 2 0), (6, .pt 19 0), (10, .pt 22 0), (18, .pt 25 0), (19, .pt 28 0), (21, .pt 31 0), (22, .pt 34 0), (23, .pt 37 0), (140, .sl 38 0 Bd.length), (141, .int .i64 Bd.length), (142, .int .i64 i)], [(0, .box [.lst 1 (ints an), .lst 3 (eds ae)]), (1, .box [.lst 1 (ints bn), .lst 3 (eds be)]), (2, .box [.lst 1 (ints mn), .lst 1 (ints me)]), (3, .arr 1 []), (4, .arr 3 []), (5, .arr 1 []), (6, .arr 3 []), (7, .arr 1 []), (8, .arr 3 []), (9, .arr 1 []), (10, .arr 3 []), (11, .arr 1 []), (12, .arr 1 []), (13, .arr 1 []), (14, .arr 1 []), (15, .arr 1 []), (16, .arr 1 []), (17, .arr 1 []), (18, .arr 1 []), (19, .box [.sl 3 0 0, .sl 4 0 0, .sl 5 0 0, .sl 6 0 0, .sl 7 0 0, .sl 8 0 0, .sl 9 0 0, .sl 10 0 0, .sl 11 0 0, .sl 12 0 0, .sl 13 0 0, .sl 14 0 0, .sl 15 0 0, .sl 16 0 0, .sl 17 0 0, .sl 18 0 0]), (20, .arr 1 (ints Cc)), (21, .arr 1 (ints Ec)), (22, .box [.sl 20 0 Cc.length, .sl 21 0 Ec.length]), (23, .arr 1 (ints pan)), (24, .arr 3 (eds pae)), (25, .box [.sl 23 0 pan.length, .sl 24 0 pae.length]), (26, .arr 1 (ints Bd)), (27, .arr 1 []), (28, .box [.sl 26 0 Bd.length, .sl 27 0 0]), (29, .arr 1 (ints pbn)), (30, .arr 3 (eds pbe)), (31, .box [.sl 29 0 pbn.length, .sl 30 0 pbe.length]), (32, .arr 1 (ints Cc)), (33, .arr 1 (ints Ec)), (34, .box [.sl 32 0 Cc.length, .sl 33 0 Ec.length]), (35, .arr 1 (ints ((Bd.take i).map f))), (36, .arr 1 []), (37, .box [.sl 35 0 i, .sl 36 0 0]), (38, .arr 1 (ints Bd))], 39⟩) (fun i => i ≤ Bd.length) (fun i => Bd.length - i) 0 ?_ ?_ ?_
     ·simp (disch := omega) only [go_sem, ↓reduceIte]
      rfl
     ·simp
     ·intro i hi
      have ml : ((Bd.take i).map f).length = i := by simp; omega
      by_cases e : i < Bd.length
      ·have d3 : decide ((i : Int) < Bd.length) = true := decide_eq_true (by omega)
       obtain ⟨⟨b1, b2⟩, r6⟩ := rI i e
       have st : (Bd.take (i + 1)).map f = (Bd.take i).map f ++ [(cntB Cc (gt mn (gt Bd i)) : Int)] := by rw [take_gt e, List.map_append, hff]; rfl
       simp (disch := omega) only [go_sem, ↓reduceIte, c_square_Initial_b43, d3, ml]
       refine call_by r6 ?_
       simp (disch := omega) only [go_sem, ↓reduceIte, ml]
       exact ⟨i + 1, by simp [st], by omega, by omega⟩
      ·have d3 : decide ((i : Int) < Bd.length) = false := decide_eq_false (by omega)
       obtain rfl : i = Bd.length := by omega
       rw [List.take_length] at ml ⊢
       simp (disch := omega) only [go_sem, ↓reduceIte, c_square_Initial_b43, d3]
       refine call_by rg1 ?_
       simp (disch := omega) only [go_sem, ↓reduceIte]
       refine call_by rg2 ?_
       simp (disch := omega) only [go_sem, ↓reduceIte]
       refine call_by rg3 ?_
       simp (disch := omega) only [go_sem, ↓reduceIte, ml]
       rfl
end
@[go_sem] def c_l14_awake_r0 : LL := [qb 0 false]
@[go_sem] def c_l14_awake_r1 : LL := [⟨some 7,.buildSl 1 8 (.int .i64 (0)) 2 [(0,.k (.int .i64 (0))),(1,.k (.int .i64 (0)))],none⟩,
 qu 8 [.int .i64 (0),.int .i64 (0),.int .i64 (0)] [(1,1,.k (.int .i64 (0))),(2,1,.k (.int .i64 (1)))],
 ⟨some 9,.buildSl 3 24 (.agg [.int .i64 (0),.int .i64 (0),.int .i64 (0)]) 1 [(0,.t 8)],none⟩,qu 10 [.nl 1,.nl 3] [(0,1,.t 7),(1,1,.t 9)],qa 1 [.nl 1,.nl 3],qs 2 1 10]
@[go_sem] def c_l14_awake_r2 : LL := [⟨some 11,.buildSl 1 8 (.int .i64 (0)) 1 [(0,.k (.int .i64 (0)))],none⟩,qu 12 [.nl 1,.nl 3] [(0,1,.t 11)],qa 2 [.nl 1,.nl 3],qs 2 2 12]
@[go_sem] def c_l14_awake_r3 (F : Fn) : LL := [qL 14 2 2,qL 15 2 1,⟨some 16,.buildSl 1 8 (.int .i64 (0)) 1 [(0,.k (.int .i64 (0)))],none⟩,qu 17 [.nl 1,.nl 1] [(0,1,.t 16)],qc 18 (F "square.Initial") [.t 14,.t 15,.t 17],qm 13 18,
 qx 19 13 0,qx 20 13 1,qa 3 [.nl 1,.nl 3,.nl 1,.nl 3,.nl 1,.nl 3,.nl 1,.nl 3,.nl 1,.nl 1,.nl 1,.nl 1,.nl 1,.nl 1,.nl 1,.nl 1],qs 16 3 19,qm 4 20]
@[go_sem] def c_l14_awake_r4 (F : Fn) : LL := [qL 22 16 3,qc 23 (F "square.Kind") [.t 22],qm 21 23,qx 24 21 0,qx 25 21 1,qm 5 24,qm 6 25]
@[go_sem] def c_l14_awake_r5 (F : Fn) : LL := [qm 26 4,qk .eql 27 26 0,qm 28 27,qg 28 true (qm 29 6),qg 28 true (qk .eql 30 29 0),qP 31 28 30,qm 32 31,qg 32 true (qm 33 5),qg 32 true (qk .eql 34 33 3),qP 35 32 34,qm 36 35,
 qg 36 true (qf 37 0 3),qg 36 true (qL 38 2 37),qg 36 true (qL 39 2 2),qg 36 true (qc 40 (F "r05.Same") [.t 38,.t 39]),qP 41 36 40,qm 42 41,qg 42 true (qf 43 4 3),qg 42 true (qL 44 2 43),
 qg 42 true (qL 45 2 1),qg 42 true (qc 46 (F "r05.Same") [.t 44,.t 45]),qP 47 42 46,qm 0 47]
@[go_sem] def c_l14_awake (F : Fn) : LC := (.seq (.reg c_l14_awake_r0 []) (.seq (.reg c_l14_awake_r1 [1]) (.seq (.reg c_l14_awake_r2 [1,2]) (.seq (.reg (c_l14_awake_r3 F) [1,2,3,4]) (.seq (.reg (c_l14_awake_r4 F) [1,2,3,4,5,6]) (.seq (.reg (c_l14_awake_r5 F) [0]) .ret))))))
def h_l14_awake : Hints := hOf [] (c_l14_awake fun _ => 0)
def exOne : G := ⟨[0], []⟩
def exPath : G := ⟨[0, 0], [⟨0, 0, 1⟩]⟩
section
variable (P : Program) (F : String → Nat)
def K_l14_awake : Prop := FC P (F "l14.awake") [] (.bool true) []
end
section
variable {P : Program} {F : String → Nat} {α : Type}
def exSq : Sq := ⟨⟨[0], []⟩, ⟨[0], []⟩, ⟨[0, 0], [⟨0, 0, 1⟩]⟩, ⟨[0, 0], [⟨0, 0, 1⟩]⟩, ⟨[0], []⟩, ⟨[0], []⟩, ⟨[0], []⟩, ⟨[0, 1], [0]⟩⟩
theorem ex_ini : iniR exOne exPath ⟨[0], []⟩ = (exSq, 0) := by decide +kernel
theorem ex_kind : kindR exSq = (3, 0) := by decide +kernel
set_option maxRecDepth 100000 in
theorem w_l14_awake (hi : K_square_Initial P F) (hk : K_square_Kind P F) (hg : K_r05_Same P F) : W P (c_l14_awake F) (Done [.t 0] [] (.bool true) []) (init []) := by
 refine W_of ?_
 have r1 := hi exOne exPath ⟨[0], []⟩
 rw [ex_ini] at r1
 have r2 := hk exSq
 rw [ex_kind] at r2
 have s1 := hg exOne exOne (by decide) (by decide)
 have s2 := hg exPath exPath (by decide) (by decide)
 simp only [exOne, exPath, exSq, gD, mD, sqD, sqA] at *
 simp (disch := omega) only [go_sem, ↓reduceIte]
 refine call_by r1 ?_
 simp (disch := omega) only [go_sem, ↓reduceIte, Int.cast_ofNat_Int, eq_self]
 refine call_by r2 ?_
 simp (disch := omega) only [go_sem, ↓reduceIte, Int.cast_ofNat_Int, eq_self]
 refine call_by s1 ?_
 simp (disch := omega) only [go_sem, ↓reduceIte]
 refine call_by s2 ?_
 simp (disch := omega) only [go_sem, ↓reduceIte]
end
section
variable (P : Program) (F : String → Nat)
end
section
variable {P : Program} {F : String → Nat} {α : Type}
structure PsOk (s t : Sq) : Prop where
 qs : QOk s
 qt : QOk t
 a : t.a = s.b
 c : t.c = s.d
 g : t.g = s.h
theorem PsOk.ok {s t : Sq} (h : PsOk s t) : QOk (pasS s t) := by
 refine ⟨?_, h.qs.g, h.qt.h, ?_⟩
 ·have := h.qt.f
  rw [h.a] at this
  exact then_okP h.qs.f this
 ·have := h.qt.k
  rw [h.c] at this
  exact then_okP h.qs.k this
end
def fitO (ns : List Int) (x y : E) : Bool := decide (y.t = x.t) && (decide (y.f = gt ns x.f) && decide (y.o = gt ns x.o))
def optL (a b : G) (ns : List Int) (e : Int) : List Int := sel (fun k : Nat => fitO ns (gt a.e e) (gt b.e k)) b.e.length
def aE (a b : G) (ns : List Int) : Nat → List Int → List Mo → List Mo
 | 0, es, out => if 2000 < out.length then out else out ++ [⟨ns, es⟩]
 | n + 1, es, out => if 2000 < out.length then out else (optL a b ns es.length).foldl (fun o x => aE a b ns n (es ++ [x]) o) out
section
variable (P : Program) (F : String → Nat)
end
section
variable {P : Program} {F : String → Nat} {α : Type}
end
theorem u8s_app (l m : List Int) : u8s l ++ u8s m = u8s (l ++ m) := by simp [u8s]
attribute [go_sem] u8s_app
section
variable (P : Program) (F : String → Nat)
end
section
variable {P : Program} {F : String → Nat} {α : Type}
end
def Sep (na nb nc : Nat) (f g h k : List Int) : Prop := ∀ φ ψ : Int → Int, (∀ i : Nat, i < na → φ (gt f i) = ψ (gt g i)) →
 (∀ i j : Nat, i < nb → j < nb → gt h i = gt h j → φ i = φ j) ∧ (∀ i j : Nat, i < nb → j < nc → gt h i = gt k j → φ i = ψ j) ∧ (∀ i j : Nat, i < nc → j < nc → gt k i = gt k j → ψ i = ψ j)
def Cov (nb nc nd : Nat) (h k : List Int) : Prop := ∀ j : Nat, j < nd → (∃ i : Nat, i < nb ∧ gt h i = j) ∨ ∃ i : Nat, i < nc ∧ gt k i = j
structure Psh (s : Sq) : Prop where
 q : QOk s
 c : thenM s.f s.h = thenM s.g s.k
 sn : Sep s.a.n.length s.b.n.length s.c.n.length s.f.n s.g.n s.h.n s.k.n
 se : Sep s.a.e.length s.b.e.length s.c.e.length s.f.e s.g.e s.h.e s.k.e
 cn : Cov s.b.n.length s.c.n.length s.d.n.length s.h.n s.k.n
 ce : Cov s.b.e.length s.c.e.length s.d.e.length s.h.e s.k.e
section
variable {s : Sp}
theorem poP_gtN {i : Nat} (hi : i < s.b.n.length) : gt (poP s).n i = gt (poQ s).n i := by
 simp only [poP, thenM, idM]
 rw [thr_gt (by rw [nums_len]; exact hi), nums_gt hi]
theorem poP_gtE {i : Nat} (hi : i < s.b.e.length) : gt (poP s).e i = gt (poQ s).e i := by
 simp only [poP, thenM, idM]
 rw [thr_gt (by rw [nums_len]; exact hi), nums_gt hi]
theorem poK_gtN {i : Nat} (hi : i < s.c.n.length) : gt (poK s).n i = gt (poQ s).n ((s.b.n.length + i : Nat) : Int) := by
 simp only [poK, thenM, inR]
 rw [thr_gt (by rw [nums_len]; exact hi), nums_gtF hi, show (s.b.n.length : Int) + i = ((s.b.n.length + i : Nat) : Int) by omega]
theorem poK_gtE {i : Nat} (hi : i < s.c.e.length) : gt (poK s).e i = gt (poQ s).e ((s.b.e.length + i : Nat) : Int) := by
 simp only [poK, thenM, inR]
 rw [thr_gt (by rw [nums_len]; exact hi), nums_gtF hi, show (s.b.e.length : Int) + i = ((s.b.e.length + i : Nat) : Int) by omega]
theorem SOk.sepN (hs : SOk s) : Sep s.a.n.length s.b.n.length s.c.n.length s.f.n s.g.n (poP s).n (poK s).n := by
 intro φ ψ he
 have hl := (un_len s.b s.c).1
 obtain ⟨θ, t1, t2⟩ : ∃ θ : Int → Int, (∀ i : Nat, i < s.b.n.length → θ i = φ i) ∧ ∀ i : Nat, θ ((s.b.n.length + i : Nat) : Int) = ψ i :=
  ⟨fun z => if z < s.b.n.length then φ z else ψ (z - s.b.n.length), fun i hi => if_pos (by omega), fun i => by
   simp only
   rw [if_neg (by omega)]
   congr 1
   omega⟩
 have key : ∀ u v : Nat, u < (unG s.b s.c).n.length → v < (unG s.b s.c).n.length → gt (poQ s).n u = gt (poQ s).n v → θ u = θ v := fun u v hu hv e => by
  have h1 := ((glu_cong hs.uF hs.uH).iffN hu hv).1 e
  have e2 : ∀ i : Nat, i < s.a.n.length → θ (gt (poF s).n i) = θ (gt (poH s).n i) := fun i hi => by
   obtain ⟨x, hx, ex⟩ := gtI (hs.f.nd i hi).1
   obtain ⟨y, hy, ey⟩ := gtI (hs.g.nd i hi).1
   simp only [poF, poH, thenM, idM, inR]
   rw [thr_gt (by rw [hs.f.ln]; exact hi), thr_gt (by rw [hs.g.ln]; exact hi), ex, ey, nums_gt hx, nums_gtF hy, show (s.b.n.length : Int) + y = ((s.b.n.length + y : Nat) : Int) by omega, t1 x hx, t2 y, ← ex, ← ey]
   exact he i hi
  have h2 := gluN_fun hs.uF hs.uH e2 hu
  have h3 := gluN_fun hs.uF hs.uH e2 hv
  rw [← h2, ← h3, h1]
 refine ⟨fun i j hi hj e => ?_, fun i j hi hj e => ?_, fun i j hi hj e => ?_⟩
 ·rw [poP_gtN hi, poP_gtN hj] at e
  rw [← t1 i hi, ← t1 j hj]
  exact key i j (by omega) (by omega) e
 ·rw [poP_gtN hi, poK_gtN hj] at e
  rw [← t1 i hi, ← t2 j]
  exact key i _ (by omega) (by omega) e
 ·rw [poK_gtN hi, poK_gtN hj] at e
  rw [← t2 i, ← t2 j]
  exact key _ _ (by omega) (by omega) e
theorem SOk.sepE (hs : SOk s) : Sep s.a.e.length s.b.e.length s.c.e.length s.f.e s.g.e (poP s).e (poK s).e := by
 intro φ ψ he
 have hl := (un_len s.b s.c).2
 obtain ⟨θ, t1, t2⟩ : ∃ θ : Int → Int, (∀ i : Nat, i < s.b.e.length → θ i = φ i) ∧ ∀ i : Nat, θ ((s.b.e.length + i : Nat) : Int) = ψ i :=
  ⟨fun z => if z < s.b.e.length then φ z else ψ (z - s.b.e.length), fun i hi => if_pos (by omega), fun i => by
   simp only
   rw [if_neg (by omega)]
   congr 1
   omega⟩
 have key : ∀ u v : Nat, u < (unG s.b s.c).e.length → v < (unG s.b s.c).e.length → gt (poQ s).e u = gt (poQ s).e v → θ u = θ v := fun u v hu hv e => by
  have h1 := ((glu_cong hs.uF hs.uH).iffE hu hv).1 e
  have e2 : ∀ i : Nat, i < s.a.e.length → θ (gt (poF s).e i) = θ (gt (poH s).e i) := fun i hi => by
   obtain ⟨x, hx, ex⟩ := gtI (hs.f.ed i hi).1
   obtain ⟨y, hy, ey⟩ := gtI (hs.g.ed i hi).1
   simp only [poF, poH, thenM, idM, inR]
   rw [thr_gt (by rw [hs.f.le]; exact hi), thr_gt (by rw [hs.g.le]; exact hi), ex, ey, nums_gt hx, nums_gtF hy, show (s.b.e.length : Int) + y = ((s.b.e.length + y : Nat) : Int) by omega, t1 x hx, t2 y, ← ex, ← ey]
   exact he i hi
  have h2 := gluE_fun hs.uF hs.uH e2 hu
  have h3 := gluE_fun hs.uF hs.uH e2 hv
  rw [← h2, ← h3, h1]
 refine ⟨fun i j hi hj e => ?_, fun i j hi hj e => ?_, fun i j hi hj e => ?_⟩
 ·rw [poP_gtE hi, poP_gtE hj] at e
  rw [← t1 i hi, ← t1 j hj]
  exact key i j (by omega) (by omega) e
 ·rw [poP_gtE hi, poK_gtE hj] at e
  rw [← t1 i hi, ← t2 j]
  exact key i _ (by omega) (by omega) e
 ·rw [poK_gtE hi, poK_gtE hj] at e
  rw [← t2 i, ← t2 j]
  exact key _ _ (by omega) (by omega) e
end
theorem Psh.of {s : Sq} (q : QOk s) (c : thenM s.f s.h = thenM s.g s.k) (he : poErr s.dn = 0) (h : chkP s.dn s.d s.h s.k = true) : Psh s := by
 have hs := poErr_ok.1 he
 obtain ⟨u, hu, u1, u2⟩ := hs.med q.h q.k c
 have hc := hs.chk_grown hu
 rw [u1, u2] at hc
 rw [h] at hc
 obtain ⟨c1, c2⟩ := Bool.and_eq_true _ _ ▸ hc.symm
 obtain ⟨i1, i2⟩ := (injM_ok hu).1 c1
 obtain ⟨v1, v2⟩ := (surM_ok hu).1 c2
 have l1 := hs.p.ln
 have l2 := hs.k.ln
 have l3 := hs.p.le
 have l4 := hs.k.le
 have l5 := hu.ln
 have l6 := hu.le
 have pn : ∀ i : Nat, i < s.b.n.length → ∃ t : Nat, t < u.n.length ∧ gt (poP s.dn).n i = t ∧ gt s.h.n i = gt u.n t := fun i hi => by
  obtain ⟨t, ht, et⟩ := gtI (hs.p.nd i hi).1
  refine ⟨t, by omega, et, ?_⟩
  rw [← u1]
  simp only [thenM]
  rw [thr_gt (by rw [l1]; exact hi), et]
 have kn : ∀ i : Nat, i < s.c.n.length → ∃ t : Nat, t < u.n.length ∧ gt (poK s.dn).n i = t ∧ gt s.k.n i = gt u.n t := fun i hi => by
  obtain ⟨t, ht, et⟩ := gtI (hs.k.nd i hi).1
  refine ⟨t, by omega, et, ?_⟩
  rw [← u2]
  simp only [thenM]
  rw [thr_gt (by rw [l2]; exact hi), et]
 have pe : ∀ i : Nat, i < s.b.e.length → ∃ t : Nat, t < u.e.length ∧ gt (poP s.dn).e i = t ∧ gt s.h.e i = gt u.e t := fun i hi => by
  obtain ⟨t, ht, et⟩ := gtI (hs.p.ed i hi).1
  refine ⟨t, by omega, et, ?_⟩
  rw [← u1]
  simp only [thenM]
  rw [thr_gt (by rw [l3]; exact hi), et]
 have ke : ∀ i : Nat, i < s.c.e.length → ∃ t : Nat, t < u.e.length ∧ gt (poK s.dn).e i = t ∧ gt s.k.e i = gt u.e t := fun i hi => by
  obtain ⟨t, ht, et⟩ := gtI (hs.k.ed i hi).1
  refine ⟨t, by omega, et, ?_⟩
  rw [← u2]
  simp only [thenM]
  rw [thr_gt (by rw [l4]; exact hi), et]
 refine ⟨q, c, fun φ ψ e => ?_, fun φ ψ e => ?_, fun j hj => ?_, fun j hj => ?_⟩
 ·obtain ⟨a1, a2, a3⟩ := hs.sepN φ ψ e
  refine ⟨fun i j hi hj e => a1 i j hi hj ?_, fun i j hi hj e => a2 i j hi hj ?_, fun i j hi hj e => a3 i j hi hj ?_⟩
  ·obtain ⟨t, t1, t2, t3⟩ := pn i hi
   obtain ⟨r, r1, r2, r3⟩ := pn j hj
   rw [t2, r2, gt_inj i1 t1 r1 (by rw [← t3, ← r3, e])]
  ·obtain ⟨t, t1, t2, t3⟩ := pn i hi
   obtain ⟨r, r1, r2, r3⟩ := kn j hj
   rw [t2, r2, gt_inj i1 t1 r1 (by rw [← t3, ← r3, e])]
  ·obtain ⟨t, t1, t2, t3⟩ := kn i hi
   obtain ⟨r, r1, r2, r3⟩ := kn j hj
   rw [t2, r2, gt_inj i1 t1 r1 (by rw [← t3, ← r3, e])]
 ·obtain ⟨a1, a2, a3⟩ := hs.sepE φ ψ e
  refine ⟨fun i j hi hj e => a1 i j hi hj ?_, fun i j hi hj e => a2 i j hi hj ?_, fun i j hi hj e => a3 i j hi hj ?_⟩
  ·obtain ⟨t, t1, t2, t3⟩ := pe i hi
   obtain ⟨r, r1, r2, r3⟩ := pe j hj
   rw [t2, r2, gt_inj i2 t1 r1 (by rw [← t3, ← r3, e])]
  ·obtain ⟨t, t1, t2, t3⟩ := pe i hi
   obtain ⟨r, r1, r2, r3⟩ := ke j hj
   rw [t2, r2, gt_inj i2 t1 r1 (by rw [← t3, ← r3, e])]
  ·obtain ⟨t, t1, t2, t3⟩ := ke i hi
   obtain ⟨r, r1, r2, r3⟩ := ke j hj
   rw [t2, r2, gt_inj i2 t1 r1 (by rw [← t3, ← r3, e])]
 ·obtain ⟨t, t1, t2⟩ := covers_ix.1 v1 j hj
  rcases hs.surN (j := t) (by omega) with ⟨i, h1, h2⟩ | ⟨i, h1, h2⟩
  ·obtain ⟨r, _, r2, r3⟩ := pn i h1
   refine .inl ⟨i, h1, ?_⟩
   rw [r3, ← r2, h2, t2]
  ·obtain ⟨r, _, r2, r3⟩ := kn i h1
   refine .inr ⟨i, h1, ?_⟩
   rw [r3, ← r2, h2, t2]
 ·obtain ⟨t, t1, t2⟩ := covers_ix.1 v2 j hj
  rcases hs.surE (j := t) (by omega) with ⟨i, h1, h2⟩ | ⟨i, h1, h2⟩
  ·obtain ⟨r, _, r2, r3⟩ := pe i h1
   refine .inl ⟨i, h1, ?_⟩
   rw [r3, ← r2, h2, t2]
  ·obtain ⟨r, _, r2, r3⟩ := ke i h1
   refine .inr ⟨i, h1, ?_⟩
   rw [r3, ← r2, h2, t2]
section
variable {na nb nc nd : Nat} {f g h k : List Int}
theorem Sep.ext (hS : Sep na nb nc f g h k) {φ ψ : Int → Int} (he : ∀ i : Nat, i < na → φ (gt f i) = ψ (gt g i)) : ∃ χ : Int → Int, (∀ x : Nat, x < nb → χ (gt h x) = φ x) ∧ ∀ y : Nat, y < nc → χ (gt k y) = ψ y := by
 classical
 obtain ⟨a1, a2, a3⟩ := hS φ ψ he
 refine ⟨fun d => if H : ∃ x : Nat, x < nb ∧ gt h x = d then φ (Classical.choose H : Nat) else if H : ∃ y : Nat, y < nc ∧ gt k y = d then ψ (Classical.choose H : Nat) else 0, fun x hx => ?_, fun y hy => ?_⟩
 ·have H : ∃ z : Nat, z < nb ∧ gt h z = gt h x := ⟨x, hx, rfl⟩
  simp only
  rw [dif_pos H]
  obtain ⟨c1, c2⟩ := Classical.choose_spec H
  exact a1 _ _ c1 hx c2
 ·simp only
  by_cases H : ∃ z : Nat, z < nb ∧ gt h z = gt k y
  ·rw [dif_pos H]
   obtain ⟨c1, c2⟩ := Classical.choose_spec H
   exact a2 _ _ c1 hy c2
  ·have H2 : ∃ z : Nat, z < nc ∧ gt k z = gt k y := ⟨y, hy, rfl⟩
   rw [dif_neg H, dif_pos H2]
   obtain ⟨c1, c2⟩ := Classical.choose_spec H2
   exact a3 _ _ c1 hy c2
theorem Sep.of (H : ∀ φ ψ : Int → Int, (∀ i : Nat, i < na → φ (gt f i) = ψ (gt g i)) → ∃ χ : Int → Int, (∀ x : Nat, x < nb → χ (gt h x) = φ x) ∧ ∀ y : Nat, y < nc → χ (gt k y) = ψ y) : Sep na nb nc f g h k := by
 intro φ ψ he
 obtain ⟨χ, c1, c2⟩ := H φ ψ he
 refine ⟨fun i j hi hj e => ?_, fun i j hi hj e => ?_, fun i j hi hj e => ?_⟩
 ·rw [← c1 i hi, ← c1 j hj, e]
 ·rw [← c1 i hi, ← c2 j hj, e]
 ·rw [← c2 i hi, ← c2 j hj, e]
end
section
variable {s t : Sq}
end
section
variable {na nb nc nd nb' nd' : Nat} {f g h k f' h' k' : List Int}
end
section
variable {s t : Sq} (e1 : t.a = s.b) (e2 : t.c = s.d) (e3 : t.g = s.h)
include e1 e2 e3
end
structure Dt where
 d : Dr
 b : Dr
 c : Dr
def Dt.ok (x : Dt) : Prop := (x.d.ok ∧ x.b.ok ∧ x.c.ok) ∧ (x.d.n.length ≤ maxL ∧ x.d.e.length ≤ maxL) ∧ (x.b.n.length ≤ maxL ∧ x.b.e.length ≤ maxL) ∧ x.c.n.length ≤ maxL ∧ x.c.e.length ≤ maxL
section
variable (P : Program) (F : String → Nat)
end
section
variable {P : Program} {F : String → Nat} {α : Type}
end
end Go.Am
