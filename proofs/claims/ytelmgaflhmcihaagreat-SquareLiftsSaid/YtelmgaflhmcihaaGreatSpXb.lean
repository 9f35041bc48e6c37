/- Pushouts: the program's and the reference's functions. -/
import Derived.Test.YtelmgaflhmcihaaGreatSpPa
import Derived.Test.YtelmgaflhmcihaaGreatSpPb
import Derived.Test.YtelmgaflhmcihaaGreatSpPc
import Derived.Test.YtelmgaflhmcihaaGreatSpPd
import Derived.Test.YtelmgaflhmcihaaGreatSpPe
import Derived.Test.YtelmgaflhmcihaaGreatSpXa
namespace Go.Am
open Go
set_option linter.unusedVariables false
set_option linter.unusedSimpArgs false
attribute [local irreducible] W
@[go_sem] def c_r10_Span_r0 : LL := [qB 1 0,qi 2 0]
@[go_sem] def c_r10_Span_r1 (F : Fn) : LL := [qf 4 0 1,qL 5 2 4,qf 6 2 1,qL 7 2 6,qf 8 6 1,qL 9 2 8,qc 10 (F "r06.Valid") [.t 5,.t 7,.t 9],qm 3 10]
@[go_sem] def c_r10_Span_r2 : LL := [qm 11 3,qk .neq 12 11 0]
@[go_sem] def c_r10_Span_r3 : LL := [qm 13 3,qm 2 13]
@[go_sem] def c_r10_Span_r4 (F : Fn) : LL := [qf 14 0 1,qL 15 2 14,qf 16 4 1,qL 17 2 16,qf 18 8 1,qL 19 2 18,qc 20 (F "r06.Valid") [.t 15,.t 17,.t 19],qm 2 20]
@[go_sem] def c_r10_Span (F : Fn) : LC := (.seq (.reg c_r10_Span_r0 [1]) (.seq (.seq (.reg (c_r10_Span_r1 F) [1,3]) (.seq (.reg c_r10_Span_r2 [1,3,12]) (.cond (.t 12) (.seq (.reg c_r10_Span_r3 [2]) .ret) .skip))) (.seq (.reg (c_r10_Span_r4 F) [2]) .ret)))
def h_r10_Span : Hints := hOf [] (c_r10_Span fun _ => 0)
@[go_sem] def c_r10_Of_r0 : LL := [qB 1 0,qa 2 [.nl 1,.nl 3],qa 3 [.nl 1,.nl 1],qa 4 [.nl 1,.nl 1],qi 5 0]
@[go_sem] def c_r10_Of_r1 (F : Fn) : LL := [qL 13 10 1,qc 14 (F "r10.Span") [.t 13],qm 6 14]
@[go_sem] def c_r10_Of_r2 : LL := [qm 15 6,qk .neq 16 15 0]
@[go_sem] def c_r10_Of_r3 : LL := [qu 17 [.nl 1,.nl 3] [],qu 18 [.nl 1,.nl 1] [],qu 19 [.nl 1,.nl 1] [],qm 20 6,qs 2 2 17,qs 2 3 18,qs 2 4 19,qm 5 20]
@[go_sem] def c_r10_Of_r4 (F : Fn) : LL := [qf 22 2 1,qL 23 2 22,qf 24 4 1,qL 25 2 24,qc 26 (F "r05.Union") [.t 23,.t 25],qm 21 26,qx 27 21 0,qx 28 21 1,qx 29 21 2,qx 30 21 3,qa 7 [.nl 1,.nl 3],qa 8 [.nl 1,.nl 1],qa 9 [.nl 1,.nl 1],
 qs 2 7 27,qs 2 8 28,qs 2 9 29,qm 10 30]
@[go_sem] def c_r10_Of_r5 : LL := [qm 31 10,qk .neq 32 31 0]
@[go_sem] def c_r10_Of_r6 : LL := [qu 33 [.nl 1,.nl 3] [],qu 34 [.nl 1,.nl 1] [],qu 35 [.nl 1,.nl 1] [],qm 36 10,qs 2 2 33,qs 2 3 34,qs 2 4 35,qm 5 36]
@[go_sem] def c_r10_Of_r7 (F : Fn) : LL := [qL 38 2 7,qf 39 6 1,qL 40 2 39,qL 41 2 8,qc 42 (F "r06.Then") [.t 40,.t 41],qf 43 8 1,qL 44 2 43,qL 45 2 9,qc 46 (F "r06.Then") [.t 44,.t 45],qc 47 (F "r10.glue") [.t 38,.t 42,.t 46],qm 37 47,qx 48 37 0,
 qx 49 37 1,qa 11 [.nl 1,.nl 3],qa 12 [.nl 1,.nl 1],qs 2 11 48,qs 2 12 49]
@[go_sem] def c_r10_Of_r8 (F : Fn) : LL := [qL 50 2 11,qL 51 2 8,qL 52 2 12,qc 53 (F "r06.Then") [.t 51,.t 52],qL 54 2 9,qL 55 2 12,qc 56 (F "r06.Then") [.t 54,.t 55],qs 2 2 50,qs 2 3 53,qs 2 4 56,qi 5 0]
@[go_sem] def c_r10_Of (F : Fn) : LC := (.seq (.reg c_r10_Of_r0 [1,2,3,4]) (.seq (.seq (.reg (c_r10_Of_r1 F) [1,2,3,4,6]) (.seq (.reg c_r10_Of_r2 [1,2,3,4,6,16]) (.cond (.t 16) (.seq (.reg c_r10_Of_r3 [2,3,4,5]) .ret) .skip))) (.seq (.reg (c_r10_Of_r4 F) [1,2,3,4,7,8,9,10]) (.seq (.seq (.reg c_r10_Of_r5 [1,2,3,4,7,8,9,10,32]) (.cond (.t 32) (.seq (.reg c_r10_Of_r6 [2,3,4,5]) .ret) .skip)) (.seq (.dreg [(0,none,[],true),(4,none,[0],true),(6,(some 32),[4],false),(7,(some 0),[4],false),(8,none,[0],false)] (c_r10_Of_r7 F) [2,3,4,8,9,11,12]) (.seq (.dreg [(0,none,[],true),(3,none,[0],true),(4,(some 0),[3],false),(5,(some 0),[3],false),(6,none,[0],false)] (c_r10_Of_r8 F) [2,3,4,5]) .ret))))))
def h_r10_Of : Hints := hOf [] (c_r10_Of fun _ => 0)
section
variable (P : Program) (F : String → Nat)
def K_r10_Span : Prop := ∀ s : Sp, FC P (F "r10.Span") [spD s] (.int .i64 (spE s)) []
def K_r10_Of : Prop := ∀ s : Sp, FC P (F "r10.Of") [spD s] (poD (poR s)) []
end
section
variable {P : Program} {F : String → Nat} {α : Type}
theorem w_r10_Span (hv : K_r06_Valid P F) (s : Sp) : W P (c_r10_Span F) (Done [.t 2] [] (.int .i64 (spE s)) []) (init [spD s]) := by
 refine W_of ?_
 have r1 := hv s.a s.b s.f
 have r2 := hv s.a s.c s.g
 have : spE s = if validM s.a s.b s.f ≠ 0 then validM s.a s.b s.f else validM s.a s.c s.g := rfl
 rw [this]
 generalize validM s.a s.b s.f = u at *
 generalize validM s.a s.c s.g = v at *
 simp only [gD, mD] at r1 r2
 simp (disch := omega) only [go_sem, ↓reduceIte, spD]
 refine call_by r1 ?_
 simp (disch := omega) only [go_sem, ↓reduceIte]
 refine bran_ndec (fun c => ?_) (fun c => ?_)
 ·simp (disch := omega) only [go_sem, ↓reduceIte]
  try simp [c]
 ·subst c
  simp (disch := omega) only [go_sem, ↓reduceIte]
  refine call_by r2 ?_
  simp (disch := omega) only [go_sem, ↓reduceIte]
  try simp
set_option maxHeartbeats 1000000 in
theorem w_r10_Of (hp : K_r10_Span P F) (hu : K_r05_Union P F) (ht : K_r06_Then P F) (hg : K_r10_glue P F) (s : Sp) : W P (c_r10_Of F) (Done [.c 2 true 2, .c 3 true 2, .c 4 true 2, .t 5] [] (poD (poR s)) []) (init [spD s]) := by
 refine W_of ?_
 have r0 := hp s
 by_cases he : spE s = 0
 ·obtain ⟨hf, hgg⟩ := spE_ok.1 he
  rw [he] at r0
  have r1 := hu s.b s.c
  rw [uniG_ok hf.vb hgg.vb] at r1
  by_cases hb : Big s.b s.c
  ·rw [if_pos hb] at r1
   rw [poR_big he hb]
   simp only [uniD, gD, gA, mA, g0, m0, spD] at *
   simp (disch := omega) only [go_sem, ↓reduceIte]
   refine call_by r0 ?_
   simp (disch := omega) only [go_sem, ↓reduceIte]
   refine call_by r1 ?_
   simp (disch := omega) only [go_sem, ↓reduceIte]
   refine bran_ndec (fun _ => ?_) (fun h => absurd h (by decide))
   simp (disch := omega) only [go_sem, ↓reduceIte]
   simp [poD, g0, m0, gA, mA, ints, eds]
  ·rw [if_neg hb] at r1
   have hs : SOk s := ⟨hf, hgg, hb⟩
   rw [poR_ok hs]
   have il := inL_ok hf.vb hgg.vb hb
   have ir := inR_ok hf.vb hgg.vb hb
   have va := valid_spec hf.va
   have vb := valid_spec hf.vb
   have vc := valid_spec hgg.vb
   have ln := hf.ln
   have le := hf.le
   have mn := hgg.ln
   have me := hgg.le
   have bf := validM_bd (mok.2 hf)
   have bg := validM_bd (mok.2 hgg)
   have bi := validM_bd (mok.2 il)
   have br := validM_bd (mok.2 ir)
   have iln := il.ln
   have ile := il.le
   have irn := ir.ln
   have ire := ir.le
   have t1 := ht s.f (idM s.b) (by omega) (by omega) (by rw [iln]; exact bf.1) (by rw [ile]; exact bf.2)
   have t2 := ht s.g (inR s.b s.c) (by omega) (by omega) (by rw [irn]; exact bg.1) (by rw [ire]; exact bg.2)
   have q := hg s.a (unG s.b s.c) (poF s) (poH s) hs.uF hs.uH
   rw [show gluG (unG s.b s.c) (poF s) (poH s) = poG s from rfl, show gluM (unG s.b s.c) (poF s) (poH s) = poQ s from rfl] at q
   have qn := hs.q.ln
   have qe := hs.q.le
   have t3 := ht (idM s.b) (poQ s) (by omega) (by omega) (by rw [qn]; exact bi.1) (by rw [qe]; exact bi.2)
   have t4 := ht (inR s.b s.c) (poQ s) (by omega) (by omega) (by rw [qn]; exact br.1) (by rw [qe]; exact br.2)
   rw [show thenM (idM s.b) (poQ s) = poP s from rfl] at t3
   rw [show thenM (inR s.b s.c) (poQ s) = poK s from rfl] at t4
   rw [show thenM s.f (idM s.b) = poF s from rfl] at t1
   rw [show thenM s.g (inR s.b s.c) = poH s from rfl] at t2
   clear bf bg bi br il ir hs va vb vc hf hgg he hb iln ile irn ire qn qe
   generalize poG s = d at *
   generalize poQ s = qq at *
   generalize poP s = pp at *
   generalize poK s = kk at *
   generalize poF s = ff at *
   generalize poH s = hh at *
   generalize unG s.b s.c = uu at *
   generalize idM s.b = ii at *
   generalize inR s.b s.c = jj at *
   obtain ⟨dn, de⟩ := d
   obtain ⟨un, ue⟩ := uu
   obtain ⟨qn, qe⟩ := qq
   obtain ⟨pn, pe⟩ := pp
   obtain ⟨kn, ke⟩ := kk
   obtain ⟨i1, i2⟩ := ii
   obtain ⟨j1, j2⟩ := jj
   obtain ⟨f1, f2⟩ := ff
   obtain ⟨h1, h2⟩ := hh
   simp only [uniD, gD, gA, mD, mA, spD, poD] at *
   simp (disch := omega) only [go_sem, ↓reduceIte]
   refine call_by r0 ?_
   simp (disch := omega) only [go_sem, ↓reduceIte]
   refine call_by r1 ?_
   simp (disch := omega) only [go_sem, ↓reduceIte]
   refine call_by t1 ?_
   simp (disch := omega) only [go_sem, ↓reduceIte]
   refine call_by t2 ?_
   simp (disch := omega) only [go_sem, ↓reduceIte]
   refine call_by q ?_
   simp (disch := omega) only [go_sem, ↓reduceIte]
   refine call_by t3 ?_
   simp (disch := omega) only [go_sem, ↓reduceIte]
   refine call_by t4 ?_
   simp (disch := omega) only [go_sem, ↓reduceIte]
   try rfl
 ·have : poR s = (g0, m0, m0, spE s) := by
   have : poErr s = spE s := by unfold poErr; rw [if_pos he]
   unfold poR; rw [this, if_neg he]
  rw [this]
  generalize spE s = e at *
  simp only [spD] at *
  simp (disch := omega) only [go_sem, ↓reduceIte]
  refine call_by r0 ?_
  simp (disch := omega) only [go_sem, ↓reduceIte, he]
  simp [poD, g0, m0, gA, mA, ints, eds]
end
section
variable (P : Program) (F : String → Nat)
end
section
variable {P : Program} {F : String → Nat} {α : Type}
theorem idx_mem {l : List Pr} {q : Pr} : 0 ≤ idx (fun p => decide (p = q)) l 0 ↔ q ∈ l := by
 have := idx_ge (fun p => decide (p = q)) l 0 (by omega)
 rw [← decide_eq_true_iff (p := 0 ≤ idx (fun p => decide (p = q)) l 0), this, List.any_eq_true]
 simp
theorem pairsL_in {f g : List Int} {a b : Int} (ha : 0 ≤ a ∧ a < f.length) (hb : 0 ≤ b ∧ b < g.length) : (⟨a, b⟩ : Pr) ∈ pairsL f g ↔ gt f a = gt g b := by
 rw [pairsL_mem]
 constructor
 ·rintro ⟨i, k, h1, h2, h3, h4⟩
  simp only [Pr.mk.injEq] at h4
  rw [h4.1, h4.2]; exact h3
 ·intro h
  refine ⟨a.toNat, b.toNat, by omega, by omega, ?_, ?_⟩
  ·rw [Int.toNat_of_nonneg ha.1, Int.toNat_of_nonneg hb.1]; exact h
  ·rw [Int.toNat_of_nonneg ha.1, Int.toNat_of_nonneg hb.1]
end
@[go_sem] def c_r06_Image_r0 : LL := [qB 2 0,qa 4 [.nl 1,.nl 3],qa 5 [.nl 1,.nl 1]]
@[go_sem] def c_r06_Image_r1 (F : Fn) : LL := [qm 20 1,qc 21 (F "r06.numbers") [.t 20],qm 6 21]
@[go_sem] def c_r06_Image_r2 (F : Fn) : LL := [qf 22 0 2,ql 23 1 22,qz 24 23,qc 25 (F "r02.Finest") [.t 24],qm 7 25]
@[go_sem] def c_r06_Image_r3 : LL := [qi 8 1]
@[go_sem] def c_r06_Image_r4 : LL := [qm 26 8,qf 27 0 2,ql 28 1 27,qz 29 28,qo .lss 30 26 29]
@[go_sem] def c_r06_Image_r5 : LL := [qm 33 6,qm 34 8,qm 35 6,qz 36 35,qo .rem 37 34 36,qd 38 1 33 37,ql 39 1 38,qm 40 8,qk .add 41 40 1,qo .rem 42 39 41,qm 9 42]
@[go_sem] def c_r06_Image_r6 : LL := [qm 43 9,qm 44 8,qo .lss 45 43 44,qm 46 45,qg 46 true (qf 47 0 2),qg 46 true (ql 48 1 47),qg 46 true (qm 49 9),qg 46 true (qd 50 1 48 49),qg 46 true (ql 51 1 50),
 qg 46 true (qf 52 0 2),qg 46 true (ql 53 1 52),qg 46 true (qm 54 8),qg 46 true (qd 55 1 53 54),qg 46 true (ql 56 1 55),qg 46 true (qo .eql 57 51 56),qP 58 46 57]
@[go_sem] def c_r06_Image_r7 (F : Fn) : LL := [qm 59 7,qm 60 9,qm 61 8,qc 62 (F "r02.Merge") [.t 59,.t 60,.t 61],qm 7 62]
@[go_sem] def c_r06_Image_r8 : LL := [qm 31 8,qk .add 32 31 1,qm 8 32]
def c_r06_Image_b9 (F : Fn) : LC := (.seq (.seq (.reg c_r06_Image_r4 [2,4,5,6,7,8,30]) (.cond (.t 30) .skip (.exit 0))) (.seq (.block 1 (.seq (.reg c_r06_Image_r5 [2,4,5,6,7,8,9]) (.seq (.dreg [] c_r06_Image_r6 [2,4,5,6,7,8,9,58]) (.cond (.t 58) (.reg (c_r06_Image_r7 F) [2,4,5,6,7,8]) .skip)))) (.reg c_r06_Image_r8 [2,4,5,6,7,8])))
@[go_sem] def c_r06_Image_r10 (F : Fn) : LL := [qm 64 7,qc 65 (F "r02.Quotient") [.t 64],qm 63 65,qx 66 63 0,qx 67 63 1,qx 68 63 2,qm 10 66,qm 11 67,qm 12 68]
@[go_sem] def c_r06_Image_r11 : LL := [qm 69 11,⟨some 70,.makeSl 1 8 (.int .i64 (0)) (.t 69),none⟩,qu 71 [.nl 1,.nl 3] [(0,1,.t 70)],qa 13 [.nl 1,.nl 3],qs 2 13 71]
@[go_sem] def c_r06_Image_r12 : LL := [qm 72 10,qu 73 [.nl 1,.nl 1] [(0,1,.t 72)],qa 14 [.nl 1,.nl 1],qs 2 14 73]
@[go_sem] def c_r06_Image_r13 : LL := [qi 15 0]
@[go_sem] def c_r06_Image_r14 : LL := [qm 74 15,qf 75 0 2,ql 76 1 75,qz 77 76,qo .lss 78 74 77]
@[go_sem] def c_r06_Image_r15 : LL := [qf 81 0 13,ql 82 1 81,qm 83 10,qm 84 15,qd 85 1 83 84,ql 86 1 85,qf 87 0 2,ql 88 1 87,qm 89 15,qd 90 1 88 89,ql 91 1 90,qd 92 1 82 86,qs 1 92 91]
@[go_sem] def c_r06_Image_r16 : LL := [qm 79 15,qk .add 80 79 1,qm 15 80]
def c_r06_Image_b17 : LC := (.seq (.seq (.reg c_r06_Image_r14 [2,4,5,6,10,13,14,15,78]) (.cond (.t 78) .skip (.exit 2))) (.seq (.block 3 (.dreg [] c_r06_Image_r15 [2,4,5,6,10,13,14,15])) (.reg c_r06_Image_r16 [2,4,5,6,10,13,14,15])))
@[go_sem] def c_r06_Image_r18 : LL := [qi 16 0]
@[go_sem] def c_r06_Image_r19 : LL := [qm 93 16,qf 94 1 2,ql 95 1 94,qz 96 95,qo .lss 97 93 96]
@[go_sem] def c_r06_Image_r20 : LL := [qf 100 1 2,ql 101 1 100,qm 102 16,qd 103 3 101 102,qf 104 0 103,ql 105 1 104,qm 106 10,qf 107 1 2,ql 108 1 107,qm 109 16,qd 110 3 108 109,qf 111 1 110,ql 112 1 111,qd 113 1 106 112,
 ql 114 1 113,qm 115 10,qf 116 1 2,ql 117 1 116,qm 118 16,qd 119 3 117 118,qf 120 2 119,ql 121 1 120,qd 122 1 115 121,ql 123 1 122,
 qu 124 [.int .i64 (0),.int .i64 (0),.int .i64 (0)] [(0,1,.t 105),(1,1,.t 114),(2,1,.t 123)],qa 17 [.int .i64 (0),.int .i64 (0),.int .i64 (0)],qs 3 17 124]
@[go_sem] def c_r06_Image_r21 : LL := [qi 18 (-1)]
@[go_sem] def c_r06_Image_r22 : LL := [qi 19 0]
@[go_sem] def c_r06_Image_r23 : LL := [qm 125 19,qf 126 1 13,ql 127 1 126,qz 128 127,qo .lss 129 125 128]
@[go_sem] def c_r06_Image_r24 : LL := [qf 132 1 13,ql 133 1 132,qm 134 19,qd 135 3 133 134,qL 136 3 135,qL 137 3 17,⟨some 138,.eqA 3 false (.t 136) (.t 137),none⟩,qm 139 138,qg 139 true (qm 140 6),
 qg 139 true (qm 141 16),qg 139 true (qm 142 19),qg 139 true (qo .add 143 141 142),qg 139 true (qm 144 6),qg 139 true (qz 145 144),qg 139 true (qo .rem 146 143 145),
 qg 139 true (qd 147 1 140 146),qg 139 true (ql 148 1 147),qg 139 true (qk .rem 149 148 2),qg 139 true (qk .eql 150 149 0),qP 151 139 150]
@[go_sem] def c_r06_Image_r25 : LL := [qm 152 19,qm 18 152]
@[go_sem] def c_r06_Image_r26 : LL := [qm 130 19,qk .add 131 130 1,qm 19 131]
def c_r06_Image_b27 : LC := (.seq (.seq (.reg c_r06_Image_r23 [2,4,5,6,10,13,14,16,17,18,19,129]) (.cond (.t 129) .skip (.exit 6))) (.seq (.block 7 (.seq (.dreg [] c_r06_Image_r24 [2,4,5,6,10,13,14,16,17,18,19,151]) (.cond (.t 151) (.reg c_r06_Image_r25 [2,4,5,6,10,13,14,16,17,18,19]) .skip))) (.reg c_r06_Image_r26 [2,4,5,6,10,13,14,16,17,18,19])))
@[go_sem] def c_r06_Image_r28 : LL := [qm 153 18,qk .lss 154 153 0]
@[go_sem] def c_r06_Image_r29 : LL := [qf 155 1 13,ql 156 1 155,qz 157 156,qm 18 157]
@[go_sem] def c_r06_Image_r30 : LL := [qf 158 1 13,ql 159 1 158,qL 160 3 17,⟨some 161,.buildSl 3 24 (.agg [.int .i64 (0),.int .i64 (0),.int .i64 (0)]) 1 [(0,.t 160)],none⟩,qp 162 3 24 159 161,qf 163 1 13,
 qs 1 163 162]
@[go_sem] def c_r06_Image_r31 : LL := [qf 164 1 14,ql 165 1 164,qm 166 18,⟨some 167,.buildSl 1 8 (.int .i64 (0)) 1 [(0,.t 166)],none⟩,qp 168 1 8 165 167,qf 169 1 14,qs 1 169 168]
@[go_sem] def c_r06_Image_r32 : LL := [qm 98 16,qk .add 99 98 1,qm 16 99]
def c_r06_Image_b33 : LC := (.seq (.seq (.reg c_r06_Image_r19 [2,4,5,6,10,13,14,16,97]) (.cond (.t 97) .skip (.exit 4))) (.seq (.block 5 (.seq (.dreg [] c_r06_Image_r20 [2,4,5,6,10,13,14,16,17]) (.seq (.reg c_r06_Image_r21 [2,4,5,6,10,13,14,16,17,18]) (.seq (.seq (.reg c_r06_Image_r22 [2,4,5,6,10,13,14,16,17,18,19]) (.block 6 (.loop [2,4,5,6,10,13,14,16,17,18,19] c_r06_Image_b27))) (.seq (.seq (.reg c_r06_Image_r28 [2,4,5,6,10,13,14,16,17,18,154]) (.cond (.t 154) (.seq (.reg c_r06_Image_r29 [2,4,5,6,10,13,14,16,17,18]) (.reg c_r06_Image_r30 [2,4,5,6,10,13,14,16,18])) .skip)) (.reg c_r06_Image_r31 [2,4,5,6,10,13,14,16])))))) (.reg c_r06_Image_r32 [2,4,5,6,10,13,14,16])))
@[go_sem] def c_r06_Image_r34 : LL := [qL 170 2 13,qL 171 2 14,qs 2 4 170,qs 2 5 171]
@[go_sem] def c_r06_Image (F : Fn) : LC := (.seq (.reg c_r06_Image_r0 [1,2,4,5]) (.seq (.reg (c_r06_Image_r1 F) [2,4,5,6]) (.seq (.reg (c_r06_Image_r2 F) [2,4,5,6,7]) (.seq (.seq (.reg c_r06_Image_r3 [2,4,5,6,7,8]) (.block 0 (.loop [2,4,5,6,7,8] (c_r06_Image_b9 F)))) (.seq (.reg (c_r06_Image_r10 F) [2,4,5,6,10,11]) (.seq (.reg c_r06_Image_r11 [2,4,5,6,10,13]) (.seq (.reg c_r06_Image_r12 [2,4,5,6,10,13,14]) (.seq (.seq (.reg c_r06_Image_r13 [2,4,5,6,10,13,14,15]) (.block 2 (.loop [2,4,5,6,10,13,14,15] c_r06_Image_b17))) (.seq (.seq (.reg c_r06_Image_r18 [2,4,5,6,10,13,14,16]) (.block 4 (.loop [2,4,5,6,10,13,14,16] c_r06_Image_b33))) (.seq (.dreg [(1,none,[],true),(2,none,[1],false)] c_r06_Image_r34 [4,5]) .ret))))))))))
def h_r06_Image : Hints := hn [] [(0,[1,2,4,5]),(1,[2,4,5,6]),(2,[2,4,5,6,7]),(3,[2,4,5,6,7,8]),(4,[2,4,5,6,7,8,30]),(5,[2,4,5,6,7,8]),(6,[2,4,5,6,7,8,9]),(7,[2,4,5,6,7,8,9,58]),(8,[2,4,5,6,7,8]),(9,[2,4,5,6,10,11]),(10,[2,4,5,6,10,13]),(11,[2,4,5,6,10,13,14]),(12,[2,4,5,6,10,13,14,15]),(13,[2,4,5,6,10,13,14,15,78]),(14,[2,4,5,6,10,13,14,15]),(15,[2,4,5,6,10,13,14,15]),(16,[2,4,5,6,10,13,14,16]),(17,[2,4,5,6,10,13,14,16,97]),(18,[2,4,5,6,10,13,14,16]),(19,[2,4,5,6,10,13,14,16,17]),(20,[2,4,5,6,10,13,14,16,17,18]),(21,[2,4,5,6,10,13,14,16,17,18,19]),(22,[2,4,5,6,10,13,14,16,17,18,19,129]),(23,[2,4,5,6,10,13,14,16,17,18,19]),(24,[2,4,5,6,10,13,14,16,17,18,19,151]),(25,[2,4,5,6,10,13,14,16,17,18,19]),(26,[2,4,5,6,10,13,14,16,17,18,154]),(27,[2,4,5,6,10,13,14,16,17,18]),(28,[2,4,5,6,10,13,14,16,18]),(29,[2,4,5,6,10,13,14,16]),(30,[4,5])] [(4,[2,4,5,6,7,8]),(13,[2,4,5,6,10,13,14,15]),(17,[2,4,5,6,10,13,14,16]),(22,[2,4,5,6,10,13,14,16,17,18,19])]
section
variable (P : Program) (F : String → Nat)
def K_r06_Image : Prop := ∀ (g : G) (l : List Int), validG g = 0 → l.length ≤ 2000000 → (∀ v ∈ l, Byte v) → FC P (F "r06.Image") [gD g, .lst 1 (u8s l)] (.tup [gA (imG g l), mA (imMo g l)]) []
end
section
variable {P : Program} {F : String → Nat} {α : Type}
theorem codeL_le {l : List Int} (h : l.length ≤ 2000000) : (codeL l).length ≤ 2000000 := by
 unfold codeL
 split
 ·simp
 ·exact h
set_option maxRecDepth 100000 in
set_option maxHeartbeats 4000000 in
theorem w_r06_Image (hn : K_r06_numbers P F) (hfi : K_r02_Finest P F) (hm : K_r02_Merge P F) (hq : K_r02_Quotient P F) (g : G) (l : List Int) (hv : validG g = 0) (hl : l.length ≤ 2000000) (hb : ∀ v ∈ l, Byte v) :
  W P (c_r06_Image F) (Done [.c 4 true 2, .c 5 true 2] [] (.tup [gA (imG g l), mA (imMo g l)]) []) (init [gD g, .lst 1 (u8s l)]) := by
 refine W_of ?_
 have r1 := hn l hl hb
 have vs := valid_spec hv
 have r2 := hfi g.n.length (by omega)
 have hG : imG g l = ⟨outN g (imgQ g l) (imgC g l) g.n.length, (imgE g (imgQ g l) (codeL l) g.e.length).1⟩ := rfl
 have hM : imMo g l = ⟨imgQ g l, (imgE g (imgQ g l) (codeL l) g.e.length).2⟩ := rfl
 have hP : imgP g l = part g (codeL l) (g.n.length - 1) := rfl
 have hQV : QV g g.n.length (imgQ g l, imgC g l) := quo_QV (part_PV (codeL_len l) (codeL_ok hb) _ (Nat.le_refl _)) _ (Nat.le_refl _)
 have hQ : (quo (part g (codeL l) (g.n.length - 1)) g.n.length) = (imgQ g l, imgC g l) := rfl
 have hpv : ∀ k : Nat, k ≤ g.n.length - 1 → PV g (part g (codeL l) k) := part_PV (codeL_len l) (codeL_ok hb)
 have hkb := key_bd (codeL_len l) (codeL_ok hb)
 have hcl := codeL_len l
 have hcm := codeL_le hl
 have hcb := codeL_ok hb
 have hEV : ∀ n : Nat, n ≤ g.e.length → EV g (imgQ g l) (imgC g l) n (imgE g (imgQ g l) (codeL l) n) := imgE_EV hv hQV.b
 generalize imG g l = ig at *
 generalize imMo g l = im at *
 generalize imgP g l = ip at *
 generalize imgQ g l = q at *
 generalize imgC g l = qc at *
 generalize codeL l = c at *
 have en : g.n = g.n := rfl
 obtain ⟨gn, ge⟩ := g
 simp only [gD, gA, mA] at *
 simp (disch := omega) only [go_sem, ↓reduceIte]
 refine call_by r1 ?_
 simp (disch := omega) only [go_sem, ↓reduceIte]
 refine call_by r2 ?_
 simp (disch := omega) only [go_sem, ↓reduceIte]
 refine W_loop (fun k : Nat => ⟨[(2, .pt 0 0), (4, .pt 3 0), (5, .pt 6 0), (6, .sl 7 0 c.length), (7, .sl 8 0 gn.length), (8, .int .i64 ((k : Int) + 1))],
  [(0, .box [.lst 1 (ints gn), .lst 3 (eds ge)]), (1, .arr 1 []), (2, .arr 3 []), (3, .box [.sl 1 0 0, .sl 2 0 0]), (4, .arr 1 []), (5, .arr 1 []), (6, .box [.sl 4 0 0, .sl 5 0 0]), (7, .arr 1 (ints c)), (8, .arr 1 (ints (part ⟨gn, ge⟩ c k)))], 9⟩)
  (fun k => k ≤ gn.length - 1) (fun k => gn.length - k) 0 ?_ ?_ ?_
 ·simp (disch := omega) only [go_sem, ↓reduceIte, part]
  simp only [nums_len]
  rfl
 ·omega
 ·intro k hk
  have pv := hpv k hk
  have hpl := pv.l
  simp only at hpl
  by_cases f : k + 1 < gn.length
  ·have g1 : decide ((k : Int) + 1 < gn.length) = true := decide_eq_true (by omega)
   have b1 := tmod_bd (x := (k : Int) + 1) (m := (c.length : Int)) (by omega) (by omega)
   have b2 := hkb (k + 1)
   have z1 : ¬ ((c.length : Int) = 0) := by omega
   have z2 : ¬ ((k : Int) + 1 + 1 = 0) := by omega
   have hky : (gt c (((k : Int) + 1).tmod c.length)).tmod ((k : Int) + 1 + 1) = keyI c (k + 1) := rfl
   have hs : part ⟨gn, ge⟩ c (k + 1) = if keyI c (k + 1) < ((k : Int) + 1) ∧ gt gn (keyI c (k + 1)) = gt gn ((k : Int) + 1) then mergeL (part ⟨gn, ge⟩ c k) (keyI c (k + 1)) ((k : Int) + 1) else part ⟨gn, ge⟩ c k := rfl
   generalize keyI c (k + 1) = ky at *
   generalize hkd : ((k : Int) + 1).tmod c.length = kd at *
   generalize part ⟨gn, ge⟩ c k = p at *
   generalize hp' : part ⟨gn, ge⟩ c (k + 1) = p' at *
   by_cases c1 : ky < (k : Int) + 1
   ·have g2 : decide (ky < (k : Int) + 1) = true := decide_eq_true c1
    by_cases c2 : gt gn ky = gt gn ((k : Int) + 1)
    ·have g3 : decide (gt gn ky = gt gn ((k : Int) + 1)) = true := decide_eq_true c2
     rw [if_pos ⟨c1, c2⟩] at hs
     obtain ⟨m, rfl⟩ : ∃ m : Nat, ky = m := ⟨ky.toNat, by omega⟩
     have r := hm p m (k + 1) (by omega) (by omega) (by omega)
     rw [show ((k + 1 : Nat) : Int) = (k : Int) + 1 from rfl] at r
     have ml := merge_len p m ((k : Int) + 1)
     rw [← hs] at r ml
     clear hs
     simp (disch := omega) only [go_sem, ↓reduceIte, c_r06_Image_b9, g1, g2, g3, z1, z2, hkd, hky]
     refine call_by r ?_
     simp (disch := omega) only [go_sem, ↓reduceIte, ml, hpl]
     exact ⟨k + 1, by simp [hp'], by omega, by omega⟩
    ·have g3 : decide (gt gn ky = gt gn ((k : Int) + 1)) = false := decide_eq_false c2
     rw [if_neg (fun h => c2 h.2)] at hs
     subst hs
     simp (disch := omega) only [go_sem, ↓reduceIte, c_r06_Image_b9, g1, g2, g3, z1, z2, hkd, hky]
     exact ⟨k + 1, by simp [hp'], by omega, by omega⟩
   ·have g2 : decide (ky < (k : Int) + 1) = false := decide_eq_false c1
    rw [if_neg (fun h => c1 h.1)] at hs
    subst hs
    simp (disch := omega) only [go_sem, ↓reduceIte, c_r06_Image_b9, g1, g2, z1, z2, hkd, hky]
    exact ⟨k + 1, by simp [hp'], by omega, by omega⟩
  ·have g1 : decide ((k : Int) + 1 < gn.length) = false := decide_eq_false (by omega)
   obtain rfl : k = gn.length - 1 := by omega
   have r3 := hq (part ⟨gn, ge⟩ c (gn.length - 1)) ⟨by omega, fun i hi => ⟨(pv.h i (by simp only; omega)).1, (pv.h i (by simp only; omega)).2.1⟩⟩
   rw [hpl] at r3
   rw [hQ] at r3
   simp only at r3
   have hql := hQV.l
   have hqb := hQV.b
   have hqc := hQV.c
   simp only at hql hqb hqc
   clear hQ hkb hpv
   generalize part ⟨gn, ge⟩ c (gn.length - 1) = p at *
   simp (disch := omega) only [go_sem, ↓reduceIte, c_r06_Image_b9, g1, hpl]
   refine call_by r3 ?_
   simp (disch := omega) only [go_sem, ↓reduceIte, hql]
   have ol := outN_len ⟨gn, ge⟩ q qc
   refine W_loop (fun i : Nat => ⟨[(2, .pt 0 0), (4, .pt 3 0), (5, .pt 6 0), (6, .sl 7 0 c.length), (10, .sl 8 0 gn.length), (13, .pt 11 0), (14, .pt 13 0), (15, .int .i64 i)],
    [(0, .box [.lst 1 (ints gn), .lst 3 (eds ge)]), (1, .arr 1 []), (2, .arr 3 []), (3, .box [.sl 1 0 0, .sl 2 0 0]), (4, .arr 1 []), (5, .arr 1 []), (6, .box [.sl 4 0 0, .sl 5 0 0]), (7, .arr 1 (ints c)), (8, .arr 1 (ints q)),
     (9, .arr 1 (ints (outN ⟨gn, ge⟩ q qc i))), (10, .arr 3 []), (11, .box [.sl 9 0 qc, .sl 10 0 0]), (12, .arr 1 []), (13, .box [.sl 8 0 gn.length, .sl 12 0 0])], 14⟩)
    (fun i => i ≤ gn.length) (fun i => gn.length - i) 0 ?_ ?_ ?_
   ·simp (disch := omega) only [go_sem, ↓reduceIte, outN, hql]
    rfl
   ·omega
   ·intro i hi
    have oli := ol i
    by_cases f : i < gn.length
    ·have g1 : decide ((i : Int) < gn.length) = true := decide_eq_true (by omega)
     have hs : outN ⟨gn, ge⟩ q qc (i + 1) = (outN ⟨gn, ge⟩ q qc i).set (gt q i).toNat (gt gn i) := rfl
     have b1 := hqb i f
     simp (disch := omega) only [go_sem, ↓reduceIte, c_r06_Image_b17, g1, hql, oli]
     exact ⟨i + 1, by simp [hs], by omega, by omega⟩
    ·have g1 : decide ((i : Int) < gn.length) = false := decide_eq_false (by omega)
     obtain rfl : i = gn.length := by omega
     simp (disch := omega) only [go_sem, ↓reduceIte, c_r06_Image_b17, g1, hql, oli]
     generalize outN ⟨gn, ge⟩ q qc gn.length = ou at *
     have hel : ge.length ≤ 80 := vs.2.1
     refine W_loop (fun i : Nat => ⟨[(2, .pt 0 0), (4, .pt 3 0), (5, .pt 6 0), (6, .sl 7 0 c.length), (10, .sl 8 0 gn.length), (13, .pt 11 0), (14, .pt 13 0), (16, .int .i64 i)],
      [(0, .box [.lst 1 (ints gn), .lst 3 (eds ge)]), (1, .arr 1 []), (2, .arr 3 []), (3, .box [.sl 1 0 0, .sl 2 0 0]), (4, .arr 1 []), (5, .arr 1 []), (6, .box [.sl 4 0 0, .sl 5 0 0]), (7, .arr 1 (ints c)), (8, .arr 1 (ints q)),
       (9, .arr 1 (ints ou)), (10, .arr 3 (eds (imgE ⟨gn, ge⟩ q c i).1)), (11, .box [.sl 9 0 qc, .sl 10 0 (imgE ⟨gn, ge⟩ q c i).1.length]), (12, .arr 1 (ints (imgE ⟨gn, ge⟩ q c i).2)), (13, .box [.sl 8 0 gn.length, .sl 12 0 i])], 14⟩)
      (fun i => i ≤ ge.length) (fun i => ge.length - i) 0 ?_ ?_ ?_
     ·simp (disch := omega) only [go_sem, ↓reduceIte, imgE, hql, oli]
      rfl
     ·omega
     ·intro i hi
      have ev := hEV i hi
      have evl := ev.l
      have evm := ev.m
      by_cases f : i < ge.length
      ·have g1 : decide ((i : Int) < ge.length) = true := decide_eq_true (by omega)
       have hs : imgE ⟨gn, ge⟩ q c (i + 1) = if findE (imgE ⟨gn, ge⟩ q c i).1 (imgX ⟨gn, ge⟩ q i) c i (imgE ⟨gn, ge⟩ q c i).1.length < 0 then ((imgE ⟨gn, ge⟩ q c i).1 ++ [imgX ⟨gn, ge⟩ q i], (imgE ⟨gn, ge⟩ q c i).2 ++ [((imgE ⟨gn, ge⟩ q c i).1.length : Int)])
        else ((imgE ⟨gn, ge⟩ q c i).1, (imgE ⟨gn, ge⟩ q c i).2 ++ [findE (imgE ⟨gn, ge⟩ q c i).1 (imgX ⟨gn, ge⟩ q i) c i (imgE ⟨gn, ge⟩ q c i).1.length]) := rfl
       generalize hE1 : imgE ⟨gn, ge⟩ q c (i + 1) = s' at *
       generalize hE0 : imgE ⟨gn, ge⟩ q c i = s at *
       obtain ⟨oe, me⟩ := s
       simp only at hs evl evm
       obtain ⟨_, e1, e2⟩ := edge_fits hv (i := i) (by simp only; omega)
       simp only at e1 e2
       have hx : imgX ⟨gn, ge⟩ q i = ⟨(gt ge i).t, gt q (gt ge i).f, gt q (gt ge i).o⟩ := rfl
       have hfo := fun k => @find_ok oe (imgX ⟨gn, ge⟩ q i) c i k
       rw [hx] at hs hfo
       clear hx
       simp (disch := omega) only [go_sem, ↓reduceIte, c_r06_Image_b33, g1, hql, evl]
       generalize (gt ge i).t = xt at *
       generalize gt q (gt ge i).f = xf at *
       generalize gt q (gt ge i).o = xo at *
       refine W_loop (fun k : Nat => ⟨[(2, .pt 0 0), (4, .pt 3 0), (5, .pt 6 0), (6, .sl 7 0 c.length), (10, .sl 8 0 gn.length), (13, .pt 11 0), (14, .pt 13 0), (16, .int .i64 i), (17, .pt 14 0), (18, .int .i64 (findE oe ⟨xt, xf, xo⟩ c i k)), (19, .int .i64 k)],
        [(0, .box [.lst 1 (ints gn), .lst 3 (eds ge)]), (1, .arr 1 []), (2, .arr 3 []), (3, .box [.sl 1 0 0, .sl 2 0 0]), (4, .arr 1 []), (5, .arr 1 []), (6, .box [.sl 4 0 0, .sl 5 0 0]), (7, .arr 1 (ints c)), (8, .arr 1 (ints q)),
         (9, .arr 1 (ints ou)), (10, .arr 3 (eds oe)), (11, .box [.sl 9 0 qc, .sl 10 0 oe.length]), (12, .arr 1 (ints me)), (13, .box [.sl 8 0 gn.length, .sl 12 0 i]), (14, .box [.int .i64 xt, .int .i64 xf, .int .i64 xo])], 15⟩)
        (fun k => k ≤ oe.length) (fun k => oe.length - k) 0 ?_ ?_ ?_
       ·simp (disch := omega) only [go_sem, ↓reduceIte, findE, evl, hql]
        rfl
       ·omega
       ·intro k hk
        by_cases fk : k < oe.length
        ·have g2 : decide ((k : Int) < oe.length) = true := decide_eq_true (by omega)
         have b1 := tmod_bd (x := (i : Int) + k) (m := (c.length : Int)) (by omega) (by omega)
         have z1 : ¬ ((c.length : Int) = 0) := by omega
         have hfs : findE oe ⟨xt, xf, xo⟩ c i (k + 1) = if gt oe k = ⟨xt, xf, xo⟩ ∧ (gt c (((i : Int) + k).tmod c.length)).tmod 2 = 0 then (k : Int) else findE oe ⟨xt, xf, xo⟩ c i k := rfl
         generalize hkd : ((i : Int) + k).tmod c.length = kd at *
         have g4 : (decide ((gt oe k).t = xt) && (decide ((gt oe k).f = xf) && decide ((gt oe k).o = xo))) = decide (gt oe k = ⟨xt, xf, xo⟩) := by
          generalize gt oe (k : Int) = e
          obtain ⟨a, b, d⟩ := e
          rw [Bool.eq_iff_iff]
          simp
         have z2 : ¬ ((2 : Int) = 0) := by omega
         by_cases c1 : gt oe k = ⟨xt, xf, xo⟩
         ·have g5 := g4.trans (decide_eq_true c1)
          by_cases c2 : (gt c kd).tmod 2 = 0
          ·have g6 : decide ((gt c kd).tmod 2 = 0) = true := decide_eq_true c2
           rw [if_pos ⟨c1, c2⟩] at hfs
           simp (disch := omega) only [go_sem, ↓reduceIte, c_r06_Image_b27, g2, z1, z2, hkd, g5, g6]
           exact ⟨k + 1, by simp [hfs], by omega, by omega⟩
          ·have g6 : decide ((gt c kd).tmod 2 = 0) = false := decide_eq_false c2
           rw [if_neg (fun h => c2 h.2)] at hfs
           simp (disch := omega) only [go_sem, ↓reduceIte, c_r06_Image_b27, g2, z1, z2, hkd, g5, g6]
           exact ⟨k + 1, by simp [hfs], by omega, by omega⟩
         ·have g5 := g4.trans (decide_eq_false c1)
          rw [if_neg (fun h => c1 h.1)] at hfs
          simp (disch := omega) only [go_sem, ↓reduceIte, c_r06_Image_b27, g2, z1, z2, hkd, g5]
          exact ⟨k + 1, by simp [hfs], by omega, by omega⟩
        ·have g2 : decide ((k : Int) < oe.length) = false := decide_eq_false (by omega)
         obtain rfl : k = oe.length := by omega
         have hfo := hfo oe.length (Nat.le_refl _)
         generalize findE oe ⟨xt, xf, xo⟩ c i oe.length = at_ at *
         by_cases c1 : at_ < 0
         ·have g3 : decide (at_ < 0) = true := decide_eq_true c1
          rw [if_pos c1] at hs
          simp (disch := omega) only [go_sem, ↓reduceIte, c_r06_Image_b27, g2, g3, evl]
          exact ⟨i + 1, by simp [hE1, hs], by omega, by omega⟩
         ·have g3 : decide (at_ < 0) = false := decide_eq_false c1
          rw [if_neg c1] at hs
          simp (disch := omega) only [go_sem, ↓reduceIte, c_r06_Image_b27, g2, g3, evl]
          exact ⟨i + 1, by simp [hE1, hs], by omega, by omega⟩
      ·have g1 : decide ((i : Int) < ge.length) = false := decide_eq_false (by omega)
       obtain rfl : i = ge.length := by omega
       generalize imgE ⟨gn, ge⟩ q c ge.length = s at *
       obtain ⟨oe, me⟩ := s
       simp only at evl evm
       subst hG hM
       simp (disch := omega) only [go_sem, ↓reduceIte, c_r06_Image_b33, g1, hql, oli, evl]
       rfl
end
@[go_sem] def c_r10_Grown_r0 : LL := [qB 2 0,qa 4 [.nl 1,.nl 3],qa 5 [.nl 1,.nl 1]]
@[go_sem] def c_r10_Grown_r1 (F : Fn) : LL := [qL 10 2 2,qc 11 (F "r05.Copied") [.t 10],qL 12 2 2,qc 13 (F "r06.Of") [.t 12],qa 6 [.nl 1,.nl 3],qa 7 [.nl 1,.nl 1],qs 2 6 11,qs 2 7 13]
@[go_sem] def c_r10_Grown_r2 : LL := [qm 14 1,qz 15 14,qk .gtr 16 15 0,qm 17 16,qg 17 true (qm 18 1),⟨some 19,.iad 1 (.t 18) (.k (.int .i64 (0))),some (17,true)⟩,qg 17 true (ql 20 1 19),
 ⟨some 21,.bin .lss (.t 20) (.k (.int .u8 (255))),some (17,true)⟩,qP 22 17 21]
@[go_sem] def c_r10_Grown_r3 (F : Fn) : LL := [qL 24 2 2,qm 25 1,qc 26 (F "r06.Image") [.t 24,.t 25],qm 23 26,qx 27 23 0,qx 28 23 1,qs 2 6 27,qs 2 7 28]
@[go_sem] def c_r10_Grown_r4 (F : Fn) : LL := [qL 29 2 6,qc 30 (F "r05.Copied") [.t 29],qs 2 6 30]
@[go_sem] def c_r10_Grown_r5 : LL := [qi 8 1]
@[go_sem] def c_r10_Grown_r6 : LL := [qm 31 8,qm 32 1,qz 33 32,qo .lss 34 31 33,qm 35 34,qg 35 true (qm 36 8),qg 35 true (qk .leq 37 36 3),qP 38 35 37]
@[go_sem] def c_r10_Grown_r7 : LL := [qm 41 1,qm 42 8,qd 43 1 41 42,ql 44 1 43,⟨some 45,.bin .rem (.t 44) (.k (.int .u8 (2))),none⟩,⟨some 46,.bin .eql (.t 45) (.k (.int .u8 (1))),none⟩]
@[go_sem] def c_r10_Grown_r8 : LL := [qf 47 0 6,ql 48 1 47,qm 49 1,qm 50 8,qd 51 1 49 50,ql 52 1 51,⟨some 53,.bin .quo (.t 52) (.k (.int .u8 (2))),none⟩,⟨some 54,.conv .i64 (.t 53),none⟩,qk .rem 55 54 3,
 ⟨some 56,.buildSl 1 8 (.int .i64 (0)) 1 [(0,.t 55)],none⟩,qp 57 1 8 48 56,qf 58 0 6,qs 1 58 57]
@[go_sem] def c_r10_Grown_r9 : LL := [qm 39 8,qk .add 40 39 1,qm 8 40]
def c_r10_Grown_b10 : LC := (.seq (.seq (.reg c_r10_Grown_r6 [1,4,5,6,7,8,38]) (.cond (.t 38) .skip (.exit 0))) (.seq (.block 1 (.seq (.reg c_r10_Grown_r7 [1,4,5,6,7,8,46]) (.cond (.t 46) (.dreg [(1,none,[],true),(9,none,[1],false)] c_r10_Grown_r8 [1,4,5,6,7,8]) .skip))) (.reg c_r10_Grown_r9 [1,4,5,6,7,8])))
@[go_sem] def c_r10_Grown_r11 : LL := [qi 9 4]
@[go_sem] def c_r10_Grown_r12 : LL := [qm 59 9,qm 60 1,qz 61 60,qo .lss 62 59 61,qm 63 62,qg 63 true (qm 64 9),qg 63 true (qk .leq 65 64 7),qP 66 63 65,qm 67 66,qg 67 true (qf 68 0 6),qg 67 true (ql 69 1 68),
 qg 67 true (qz 70 69),qg 67 true (qk .gtr 71 70 0),qP 72 67 71]
@[go_sem] def c_r10_Grown_r13 : LL := [qf 75 1 6,ql 76 1 75,qm 77 1,qm 78 9,qd 79 1 77 78,ql 80 1 79,⟨some 81,.conv .i64 (.t 80),none⟩,qk .rem 82 81 2,qm 83 1,qm 84 9,qd 85 1 83 84,ql 86 1 85,
 ⟨some 87,.bin .quo (.t 86) (.k (.int .u8 (2))),none⟩,⟨some 88,.conv .i64 (.t 87),none⟩,qf 89 0 6,ql 90 1 89,qz 91 90,qo .rem 92 88 91,qm 93 1,qm 94 9,qd 95 1 93 94,ql 96 1 95,
 ⟨some 97,.bin .quo (.t 96) (.k (.int .u8 (16))),none⟩,⟨some 98,.conv .i64 (.t 97),none⟩,qf 99 0 6,ql 100 1 99,qz 101 100,qo .rem 102 98 101,
 qu 103 [.int .i64 (0),.int .i64 (0),.int .i64 (0)] [(0,1,.t 82),(1,1,.t 92),(2,1,.t 102)],
 ⟨some 104,.buildSl 3 24 (.agg [.int .i64 (0),.int .i64 (0),.int .i64 (0)]) 1 [(0,.t 103)],none⟩,qp 105 3 24 76 104,qf 106 1 6,qs 1 106 105]
@[go_sem] def c_r10_Grown_r14 : LL := [qm 73 9,qk .add 74 73 1,qm 9 74]
def c_r10_Grown_b15 : LC := (.seq (.seq (.reg c_r10_Grown_r12 [1,4,5,6,7,9,72]) (.cond (.t 72) .skip (.exit 2))) (.seq (.block 3 (.dreg [(1,none,[],true),(29,none,[1],false)] c_r10_Grown_r13 [1,4,5,6,7,9])) (.reg c_r10_Grown_r14 [1,4,5,6,7,9])))
@[go_sem] def c_r10_Grown_r16 : LL := [qL 107 2 6,qL 108 2 7,qs 2 4 107,qs 2 5 108]
@[go_sem] def c_r10_Grown (F : Fn) : LC := (.seq (.reg c_r10_Grown_r0 [1,2,4,5]) (.seq (.dreg [(1,none,[],true),(2,(some 0),[1],false)] (c_r10_Grown_r1 F) [1,2,4,5,6,7]) (.seq (.seq (.reg c_r10_Grown_r2 [1,2,4,5,6,7,22]) (.cond (.t 22) (.reg (c_r10_Grown_r3 F) [1,4,5,6,7]) .skip)) (.seq (.reg (c_r10_Grown_r4 F) [1,4,5,6,7]) (.seq (.seq (.reg c_r10_Grown_r5 [1,4,5,6,7,8]) (.block 0 (.loop [1,4,5,6,7,8] c_r10_Grown_b10))) (.seq (.seq (.reg c_r10_Grown_r11 [1,4,5,6,7,9]) (.block 2 (.loop [1,4,5,6,7,9] c_r10_Grown_b15))) (.seq (.dreg [(1,none,[],true),(2,none,[1],false)] c_r10_Grown_r16 [4,5]) .ret)))))))
def h_r10_Grown : Hints := hn [] [(0,[1,2,4,5]),(1,[1,2,4,5,6,7]),(2,[1,2,4,5,6,7,22]),(3,[1,4,5,6,7]),(4,[1,4,5,6,7]),(5,[1,4,5,6,7,8]),(6,[1,4,5,6,7,8,38]),(7,[1,4,5,6,7,8]),(8,[1,4,5,6,7,8,46]),(9,[1,4,5,6,7,8]),(10,[1,4,5,6,7,9]),(11,[1,4,5,6,7,9,72]),(12,[1,4,5,6,7,9]),(13,[1,4,5,6,7,9]),(14,[4,5])] [(6,[1,4,5,6,7,8]),(11,[1,4,5,6,7,9])]
def growN (c : List Int) : Nat → List Int
 | 0 => []
 | i + 1 => if (gt c (((i + 1 : Nat) : Int))).tmod 2 = 1 then growN c i ++ [((gt c (((i + 1 : Nat) : Int))).tdiv 2).tmod 3] else growN c i
def growE (c : List Int) (n : Int) : Nat → List E
 | 0 => []
 | i + 1 => growE c n i ++ [⟨(gt c (((i + 4 : Nat) : Int))).tmod 2, ((gt c (((i + 4 : Nat) : Int))).tdiv 2).tmod n, ((gt c (((i + 4 : Nat) : Int))).tdiv 16).tmod n⟩]
def grB (a : G) (c : List Int) : G × Mo := if 0 < c.length ∧ gt c 0 < 255 then (imG a c, imMo a c) else (a, idM a)
def grN (c : List Int) : List Int := growN c (min (c.length - 1) 3)
def grE (n : Nat) (c : List Int) : List E := if n = 0 then [] else growE c n (min (c.length - 4) 4)
def grG (a : G) (c : List Int) : G := ⟨(grB a c).1.n ++ grN c, (grB a c).1.e ++ grE ((grB a c).1.n ++ grN c).length c⟩
def grM (a : G) (c : List Int) : Mo := (grB a c).2
section
variable (P : Program) (F : String → Nat)
def K_r10_Grown : Prop := ∀ (a : G) (c : List Int), validG a = 0 → c.length ≤ 2000000 → (∀ v ∈ c, Byte v) → FC P (F "r10.Grown") [gD a, .lst 1 (u8s c)] (.tup [gA (grG a c), mA (grM a c)]) []
end
section
variable {P : Program} {F : String → Nat} {α : Type}
theorem wrap_u8 {n : Int} (h : 0 ≤ n) (h' : n ≤ 255) : IntKind.u8.wrap n = n := by
 unfold IntKind.wrap
 simp [IntKind.bits, IntKind.signed]
 omega
theorem tdiv_bd {x : Int} (h : Byte x) (m : Int) (hm : 0 ≤ m := by omega) : 0 ≤ x.tdiv m ∧ x.tdiv m ≤ 255 := by
 obtain ⟨h1, h2⟩ := h
 refine ⟨Int.tdiv_nonneg h1 hm, ?_⟩
 rw [Int.tdiv_eq_ediv_of_nonneg h1]
 exact Int.le_trans (Int.ediv_le_self _ h1) h2
theorem growN_len (c : List Int) : ∀ i, (growN c i).length ≤ i
 | 0 => by simp [growN]
 | i + 1 => by rw [growN]; have := growN_len c i; split <;> simp <;> omega
theorem growE_len (c : List Int) (n : Int) : ∀ i, (growE c n i).length = i
 | 0 => by simp [growE]
 | i + 1 => by rw [growE, List.length_append, growE_len c n i]; rfl
theorem grN_len (c : List Int) : (grN c).length ≤ 3 := by
 have := growN_len c (min (c.length - 1) 3)
 unfold grN; omega
theorem grE_len (n : Nat) (c : List Int) : (grE n c).length ≤ 4 := by
 unfold grE
 split
 ·simp
 ·rw [growE_len]; omega
theorem growN_ok {c : List Int} (hc : ∀ v ∈ c, Byte v) : ∀ i : Nat, i < c.length → ∀ x ∈ growN c i, okN x = true
 | 0, _, x, hx => by simp [growN] at hx
 | i + 1, hi, x, hx => by
  rw [growN] at hx
  have hb := hc _ (gt_mem (l := c) (j := ((i + 1 : Nat) : Int)) (by omega) (by omega))
  split at hx
  ·rcases List.mem_append.1 hx with hx | hx
   ·exact growN_ok hc i (by omega) x hx
   ·rw [List.mem_singleton] at hx
    have := tdiv_bd hb 2
    have := tmod_bd (x := (gt c (((i + 1 : Nat) : Int))).tdiv 2) (m := 3) this.1 (by omega)
    rw [hx]
    simp only [okN, decide_eq_true_eq]
    omega
  ·exact growN_ok hc i (by omega) x hx
theorem growE_ok {c : List Int} (hc : ∀ v ∈ c, Byte v) {n : Nat} (hn : 0 < n) : ∀ i : Nat, i ≤ c.length - 4 → ∀ x ∈ growE c n i, fitsE n x = true
 | 0, _, x, hx => by simp [growE] at hx
 | i + 1, hi, x, hx => by
  rw [growE] at hx
  have hb := hc _ (gt_mem (l := c) (j := ((i + 4 : Nat) : Int)) (by omega) (by omega))
  rcases List.mem_append.1 hx with hx | hx
  ·exact growE_ok hc hn i (by omega) x hx
  ·rw [List.mem_singleton] at hx
   have h1 := tmod_bd (x := gt c (((i + 4 : Nat) : Int))) (m := 2) hb.1 (by omega)
   have h2 := tmod_bd (x := (gt c (((i + 4 : Nat) : Int))).tdiv 2) (m := n) (tdiv_bd hb 2).1 (by omega)
   have h3 := tmod_bd (x := (gt c (((i + 4 : Nat) : Int))).tdiv 16) (m := n) (tdiv_bd hb 16).1 (by omega)
   rw [hx]
   exact fits_mk (by simp only; omega) h2 h3
theorem grB_ok {a : G} {c : List Int} (hv : validG a = 0) (hc : ∀ v ∈ c, Byte v) : MOk a (grB a c).1 (grB a c).2 ∧ (grB a c).1.n.length ≤ a.n.length ∧ (grB a c).1.e.length ≤ a.e.length := by
 unfold grB
 split
 ·have := img_sz hc hv
  exact ⟨img_okM hv hc, this.2.1, this.2.2⟩
 ·exact ⟨idM_ok hv, Nat.le_refl _, Nat.le_refl _⟩
theorem ext_okM {a b : G} {m : Mo} {ns : List Int} {es : List E} (hm : MOk a b m) (hv : validG ⟨b.n ++ ns, b.e ++ es⟩ = 0) : MOk a ⟨b.n ++ ns, b.e ++ es⟩ m := by
 refine ⟨hm.va, hv, hm.ln, hm.le, fun i hi => ?_, fun i hi => ?_⟩
 ·obtain ⟨h1, h2⟩ := hm.nd i hi
  obtain ⟨k, hk, hk2⟩ := gtI h1
  simp only
  rw [hk2] at h1 h2 ⊢
  rw [gt_appL hk]
  exact ⟨by simp; omega, h2⟩
 ·obtain ⟨h1, h2⟩ := hm.ed i hi
  obtain ⟨k, hk, hk2⟩ := gtI h1
  simp only
  rw [hk2] at h1 h2 ⊢
  rw [gt_appL hk]
  exact ⟨by simp; omega, h2⟩
theorem gr_ok {a : G} {c : List Int} (hv : validG a = 0) (hc : ∀ v ∈ c, Byte v) (s1 : a.n.length ≤ 37) (s2 : a.e.length ≤ 76) :
  MOk a (grG a c) (grM a c) ∧ (grG a c).n.length ≤ a.n.length + 3 ∧ (grG a c).e.length ≤ a.e.length + 4 := by
 obtain ⟨hm, l1, l2⟩ := grB_ok hv hc
 have n1 := grN_len c
 have n2 := grE_len ((grB a c).1.n ++ grN c).length c
 have vs := valid_spec hm.vb
 refine ⟨ext_okM hm (valid_mk ?_ ?_ (fun x hx => ?_) (fun x hx => ?_)), ?_, ?_⟩
 ·simp only [List.length_append]; omega
 ·simp only [List.length_append] at n2 ⊢; omega
 ·rcases List.mem_append.1 hx with hx | hx
  ·exact vs.2.2.1 x hx
  ·by_cases c0 : c.length = 0
   ·have : grN c = [] := by unfold grN; rw [show min (c.length - 1) 3 = 0 by omega]; rfl
    rw [this] at hx; simp at hx
   ·exact growN_ok hc _ (by omega) x hx
 ·rcases List.mem_append.1 hx with hx | hx
  ·have := fits_spec (vs.2.2.2 x hx)
   have e : (((grB a c).1.n ++ grN c).length : Int) = (grB a c).1.n.length + (grN c).length := by simp
   exact fits_mk this.1 (by show 0 ≤ x.f ∧ x.f < (((grB a c).1.n ++ grN c).length : Int); rw [e]; omega) (by show 0 ≤ x.o ∧ x.o < (((grB a c).1.n ++ grN c).length : Int); rw [e]; omega)
  ·unfold grE at hx
   split at hx
   ·simp at hx
   ·rename_i h0
    exact growE_ok hc (Nat.pos_of_ne_zero h0) (min (c.length - 4) 4) (by omega) x hx
 ·simp only [grG, List.length_append]; omega
 ·simp only [grG, List.length_append] at n2 ⊢; omega
set_option maxHeartbeats 4000000 in
set_option maxRecDepth 100000 in
theorem w_r10_Grown (hcp : K_r05_Copied P F) (hof : K_r06_Of P F) (hi : K_r06_Image P F) (a : G) (c : List Int) (hv : validG a = 0) (hl : c.length ≤ 2000000) (hb : ∀ v ∈ c, Byte v) : W P (c_r10_Grown F) (Done [.c 4 true 2, .c 5 true 2] [] (.tup [gA (grG a c), mA (grM a c)]) []) (init [gD a, .lst 1 (u8s c)]) := by
 refine W_of ?_
 have vs := valid_spec hv
 have r1 := hcp a (by omega) (by omega)
 have r2 := hof a (by omega) (by omega)
 have r3 := hi a c hv hl hb
 obtain ⟨hm, b1, b2⟩ := grB_ok hv hb
 have r4 := hcp (grB a c).1 (by omega) (by omega)
 have hB : grB a c = if 0 < c.length ∧ gt c 0 < 255 then (imG a c, imMo a c) else (a, idM a) := rfl
 have hG : grG a c = ⟨(grB a c).1.n ++ grN c, (grB a c).1.e ++ grE ((grB a c).1.n ++ grN c).length c⟩ := rfl
 have hM : grM a c = (grB a c).2 := rfl
 have hN : grN c = growN c (min (c.length - 1) 3) := rfl
 have hE : ∀ n, grE n c = if n = 0 then [] else growE c n (min (c.length - 4) 4) := fun n => rfl
 have n1 := growN_len c
 have n2 := growE_len c
 have n0 : growN c 0 = [] := rfl
 have e0 : ∀ n, growE c n 0 = [] := fun n => rfl
 have nS : ∀ i : Nat, growN c (i + 1) = if (gt c (((i + 1 : Nat) : Int))).tmod 2 = 1 then growN c i ++ [((gt c (((i + 1 : Nat) : Int))).tdiv 2).tmod 3] else growN c i := fun i => rfl
 have eS : ∀ (n : Int) (i : Nat), growE c n (i + 1) = growE c n i ++ [⟨(gt c (((i + 4 : Nat) : Int))).tmod 2, ((gt c (((i + 4 : Nat) : Int))).tdiv 2).tmod n, ((gt c (((i + 4 : Nat) : Int))).tdiv 16).tmod n⟩] := fun n i => rfl
 rw [hG, hM]
 clear hG hM hm
 generalize imG a c = ig at *
 generalize imMo a c = im at *
 generalize idM a = ia at *
 generalize grB a c = b at *
 generalize growN c = gN at *
 generalize growE c = gE at *
 generalize grN c = gNc at *
 generalize (fun n => grE n c) = gEc at *
 obtain ⟨⟨on, oe⟩, ⟨qn, qe⟩⟩ := b
 obtain ⟨an, ae⟩ := a
 simp only at *
 have cases3 : (c.length = 0 ∧ on = an ∧ oe = ae ∧ ia = ⟨qn, qe⟩) ∨ (0 < c.length ∧ ¬ gt c 0 < 255 ∧ on = an ∧ oe = ae ∧ ia = ⟨qn, qe⟩) ∨ (0 < c.length ∧ gt c 0 < 255 ∧ ig = ⟨on, oe⟩ ∧ im = ⟨qn, qe⟩) := by
  by_cases h1 : 0 < c.length
  ·by_cases h2 : gt c 0 < 255
   ·rw [if_pos ⟨h1, h2⟩] at hB
    simp only [Prod.mk.injEq] at hB
    exact .inr (.inr ⟨h1, h2, hB.1.symm, hB.2.symm⟩)
   ·rw [if_neg (fun h => h2 h.2)] at hB
    simp only [Prod.mk.injEq, G.mk.injEq] at hB
    exact .inr (.inl ⟨h1, h2, hB.1.1, hB.1.2, hB.2.symm⟩)
  ·rw [if_neg (fun h => h1 h.1)] at hB
   simp only [Prod.mk.injEq, G.mk.injEq] at hB
   exact .inl ⟨by omega, hB.1.1, hB.1.2, hB.2.symm⟩
 clear hB
 rcases cases3 with ⟨h1, h2, h3, h4⟩ | ⟨h1, h1', h2, h3, h4⟩ | ⟨h1, h1', h2, h3⟩
 case' inl =>
  have d1 : decide ((0 : Int) < c.length) = false := decide_eq_false (by omega)
  subst h2 h3 h4
  simp only [gD, gA, mA, mD] at *
  simp (disch := omega) only [go_sem, ↓reduceIte]
  refine call_by r1 ?_
  simp (disch := omega) only [go_sem, ↓reduceIte]
  refine call_by r2 ?_
  simp (disch := omega) only [go_sem, ↓reduceIte, d1]
  refine call_by r4 ?_
  simp (disch := omega) only [go_sem, ↓reduceIte]
 case' inr.inl =>
  have d1 : decide ((0 : Int) < c.length) = true := decide_eq_true (by omega)
  have d2 : decide (gt c ((0 : Nat) : Int) < 255) = false := decide_eq_false h1'
  subst h2 h3 h4
  simp only [gD, gA, mA, mD] at *
  simp (disch := omega) only [go_sem, ↓reduceIte]
  refine call_by r1 ?_
  simp (disch := omega) only [go_sem, ↓reduceIte]
  refine call_by r2 ?_
  simp (disch := omega) only [go_sem, ↓reduceIte, d1, d2]
  refine call_by r4 ?_
  simp (disch := omega) only [go_sem, ↓reduceIte]
 case' inr.inr =>
  have d1 : decide ((0 : Int) < c.length) = true := decide_eq_true (by omega)
  have d2 : decide (gt c ((0 : Nat) : Int) < 255) = true := decide_eq_true h1'
  subst h2 h3
  obtain ⟨iN, iE⟩ := ia
  simp only [gD, gA, mA, mD] at *
  simp (disch := omega) only [go_sem, ↓reduceIte]
  refine call_by r1 ?_
  simp (disch := omega) only [go_sem, ↓reduceIte]
  refine call_by r2 ?_
  simp (disch := omega) only [go_sem, ↓reduceIte, d1, d2]
  refine call_by r3 ?_
  simp (disch := omega) only [go_sem, ↓reduceIte]
  refine call_by r4 ?_
  simp (disch := omega) only [go_sem, ↓reduceIte]
 all_goals
  clear h1
  refine W_loop (fun i : Nat => ⟨[(1, .lst 1 (u8s c)), (4, .pt 2 0), (5, .pt 5 0), (6, .pt 8 0), (7, .pt 11 0), (8, .int .i64 (((i + 1 : Nat) : Int)))],
   [(0, .arr 1 []), (1, .arr 3 []), (2, .box [.sl 0 0 0, .sl 1 0 0]), (3, .arr 1 []), (4, .arr 1 []), (5, .box [.sl 3 0 0, .sl 4 0 0]), (6, .arr 1 (ints (on ++ gN i))), (7, .arr 3 (eds oe)), (8, .box [.sl 6 0 (on.length + (gN i).length), .sl 7 0 oe.length]),
    (9, .arr 1 (ints qn)), (10, .arr 1 (ints qe)), (11, .box [.sl 9 0 qn.length, .sl 10 0 qe.length])], 12⟩) (fun i => i ≤ min (c.length - 1) 3) (fun i => 4 - i) 0 ?_ ?_ ?_
  ·simp (disch := omega) only [go_sem, ↓reduceIte, n0]
   rfl
  ·simp
  ·intro i hi
   have n1i := n1 i
   have al : (on ++ gN i).length = on.length + (gN i).length := List.length_append
   by_cases f : i + 1 < c.length ∧ i + 1 ≤ 3
   ·have g1 : decide (((i + 1 : Nat) : Int) < c.length) = true := decide_eq_true (by omega)
    have g2 : decide (((i + 1 : Nat) : Int) ≤ 3) = true := decide_eq_true (by omega)
    have hbi := hb _ (gt_mem (l := c) (j := ((i + 1 : Nat) : Int)) (by omega) (by omega))
    have q1 := tdiv_bd hbi 2
    have w1 : IntKind.u8.wrap ((gt c (((i + 1 : Nat) : Int))).tdiv 2) = (gt c (((i + 1 : Nat) : Int))).tdiv 2 := wrap_u8 q1.1 q1.2
    have w2 : IntKind.i64.wrap ((gt c (((i + 1 : Nat) : Int))).tdiv 2) = (gt c (((i + 1 : Nat) : Int))).tdiv 2 := wrap_i64 (by omega) (by omega)
    have z1 : ¬ ((2 : Int) = 0) := by omega
    have z2 : ¬ ((3 : Int) = 0) := by omega
    have hS := nS i
    by_cases e : (gt c (((i + 1 : Nat) : Int))).tmod 2 = 1
    ·have g3 : decide ((gt c (((i + 1 : Nat) : Int))).tmod 2 = 1) = true := decide_eq_true e
     rw [if_pos e] at hS
     have el : (gN i ++ [((gt c (((i + 1 : Nat) : Int))).tdiv 2).tmod 3]).length = (gN i).length + 1 := by simp
     simp (disch := omega) only [go_sem, ↓reduceIte, c_r10_Grown_b10, g1, g2, g3, z1, z2, w1, w2, al]
     exact ⟨i + 1, by simp [hS, Nat.add_assoc]; omega, by omega, by omega⟩
    ·have g3 : decide ((gt c (((i + 1 : Nat) : Int))).tmod 2 = 1) = false := decide_eq_false e
     rw [if_neg e] at hS
     simp (disch := omega) only [go_sem, ↓reduceIte, c_r10_Grown_b10, g1, g2, g3, z1, al]
     exact ⟨i + 1, by simp [hS], by omega, by omega⟩
   ·have hi' : i = min (c.length - 1) 3 := by omega
    have hg : (decide (((i + 1 : Nat) : Int) < c.length) = true ∧ decide (((i + 1 : Nat) : Int) ≤ 3) = false) ∨ decide (((i + 1 : Nat) : Int) < c.length) = false := by
     by_cases x : ((i + 1 : Nat) : Int) < c.length
     ·exact .inl ⟨decide_eq_true x, decide_eq_false (by omega)⟩
     ·exact .inr (decide_eq_false x)
    rw [← hi'] at hN
    rw [← hN] at al n1i ⊢
    rcases hg with ⟨g1, g2⟩ | g1
    case' inl => simp (disch := omega) only [go_sem, ↓reduceIte, c_r10_Grown_b10, g1, g2, al]
    case' inr => simp (disch := omega) only [go_sem, ↓reduceIte, c_r10_Grown_b10, g1, al]
    all_goals
     have hEn := hE (on ++ gNc).length
     rw [al] at hEn
     generalize hon : on ++ gNc = og at *
     generalize hnn : on.length + gNc.length = nn at *
     refine W_loop (fun j : Nat => ⟨[(1, .lst 1 (u8s c)), (4, .pt 2 0), (5, .pt 5 0), (6, .pt 8 0), (7, .pt 11 0), (9, .int .i64 (((j + 4 : Nat) : Int)))],
      [(0, .arr 1 []), (1, .arr 3 []), (2, .box [.sl 0 0 0, .sl 1 0 0]), (3, .arr 1 []), (4, .arr 1 []), (5, .box [.sl 3 0 0, .sl 4 0 0]), (6, .arr 1 (ints og)), (7, .arr 3 (eds (oe ++ gE nn j))), (8, .box [.sl 6 0 nn, .sl 7 0 (oe.length + j)]),
       (9, .arr 1 (ints qn)), (10, .arr 1 (ints qe)), (11, .box [.sl 9 0 qn.length, .sl 10 0 qe.length])], 12⟩) (fun j => j ≤ min (c.length - 4) 4 ∧ (nn = 0 → j = 0)) (fun j => 5 - j) 0 ?_ ?_ ?_
     ·simp (disch := omega) only [go_sem, ↓reduceIte, e0, al]
      rfl
     ·simp
     ·rintro j ⟨hj, hj0⟩
      have el : (oe ++ gE nn j).length = oe.length + j := by rw [List.length_append, n2]
      by_cases f2 : j + 4 < c.length ∧ j + 4 ≤ 7 ∧ 0 < nn
      ·have g1 : decide (((j + 4 : Nat) : Int) < c.length) = true := decide_eq_true (by omega)
       have g2 : decide (((j + 4 : Nat) : Int) ≤ 7) = true := decide_eq_true (by omega)
       have g3 : decide ((0 : Int) < nn) = true := decide_eq_true (by omega)
       have hbi := hb _ (gt_mem (l := c) (j := ((j + 4 : Nat) : Int)) (by omega) (by omega))
       have q1 := tdiv_bd hbi 2
       have q2 := tdiv_bd hbi 16
       have w1 : IntKind.u8.wrap ((gt c (((j + 4 : Nat) : Int))).tdiv 2) = (gt c (((j + 4 : Nat) : Int))).tdiv 2 := wrap_u8 q1.1 q1.2
       have w2 : IntKind.i64.wrap ((gt c (((j + 4 : Nat) : Int))).tdiv 2) = (gt c (((j + 4 : Nat) : Int))).tdiv 2 := wrap_i64 (by omega) (by omega)
       have w3 : IntKind.u8.wrap ((gt c (((j + 4 : Nat) : Int))).tdiv 16) = (gt c (((j + 4 : Nat) : Int))).tdiv 16 := wrap_u8 q2.1 q2.2
       have w4 : IntKind.i64.wrap ((gt c (((j + 4 : Nat) : Int))).tdiv 16) = (gt c (((j + 4 : Nat) : Int))).tdiv 16 := wrap_i64 (by omega) (by omega)
       have w5 : IntKind.i64.wrap (gt c (((j + 4 : Nat) : Int))) = gt c (((j + 4 : Nat) : Int)) := wrap_i64 (by have := hbi.1; omega) (by have := hbi.2; omega)
       have z1 : ¬ ((2 : Int) = 0) := by omega
       have z2 : ¬ ((16 : Int) = 0) := by omega
       have z3 : ¬ ((nn : Int) = 0) := by omega
       have hS := eS nn j
       simp (disch := omega) only [go_sem, ↓reduceIte, c_r10_Grown_b15, g1, g2, g3, z1, z2, z3, w1, w2, w3, w4, w5, al, el]
       exact ⟨j + 1, by simp [hS, Nat.add_assoc]; omega, ⟨by omega, by omega⟩, by omega⟩
      ·have hg : (decide (((j + 4 : Nat) : Int) < c.length) = true ∧ decide (((j + 4 : Nat) : Int) ≤ 7) = true ∧ decide ((0 : Int) < nn) = false) ∨ (decide (((j + 4 : Nat) : Int) < c.length) = true ∧ decide (((j + 4 : Nat) : Int) ≤ 7) = false) ∨ decide (((j + 4 : Nat) : Int) < c.length) = false := by
        by_cases x : ((j + 4 : Nat) : Int) < c.length
        ·by_cases y : ((j + 4 : Nat) : Int) ≤ 7
         ·exact .inl ⟨decide_eq_true x, decide_eq_true y, decide_eq_false (by omega)⟩
         ·exact .inr (.inl ⟨decide_eq_true x, decide_eq_false y⟩)
        ·exact .inr (.inr (decide_eq_false x))
       have hfin : grE nn c = gE nn j := by
        rw [hEn]
        by_cases x : nn = 0
        ·rw [if_pos x, hj0 x, e0]
        ·rw [if_neg x, show min (c.length - 4) 4 = j by omega]
       rw [al, hfin]
       rcases hg with ⟨g1, g2, g3⟩ | ⟨g1, g2⟩ | g1
       ·simp (disch := omega) only [go_sem, ↓reduceIte, c_r10_Grown_b15, g1, g2, g3, al, el]
        rfl
       ·simp (disch := omega) only [go_sem, ↓reduceIte, c_r10_Grown_b15, g1, g2, al, el]
        rfl
       ·simp (disch := omega) only [go_sem, ↓reduceIte, c_r10_Grown_b15, g1, al, el]
        rfl
end
section
section
variable {s : Sp}
def Sp.sw (s : Sp) : Sp := ⟨s.a, s.c, s.b, s.g, s.f⟩
theorem SOk.sw (hs : SOk s) : SOk s.sw := ⟨hs.g, hs.f, fun h => hs.s (by simp only [Big, Sp.sw] at *; omega)⟩
end
end
section
variable (P : Program) (F : String → Nat)
end
section
variable {P : Program} {F : String → Nat} {α : Type}
theorem u_inj {U P K H Q : List Int} (u1 : thr P U = H) (u2 : thr K U = Q) (cv : ∀ j : Nat, j < U.length → (∃ i : Nat, i < P.length ∧ gt P i = j) ∨ ∃ i : Nat, i < K.length ∧ gt K i = j)
  (n1 : ∀ i j : Nat, i < P.length → j < P.length → gt H i = gt H j → gt P i = gt P j) (n2 : ∀ i j : Nat, i < P.length → j < K.length → gt H i = gt Q j → gt P i = gt K j) (n3 : ∀ i j : Nat, i < K.length → j < K.length → gt Q i = gt Q j → gt K i = gt K j) : U.Nodup := by
 subst u1 u2
 have e1 : ∀ i : Nat, i < P.length → gt (thr P U) i = gt U (gt P i) := fun i hi => thr_gt hi
 have e2 : ∀ i : Nat, i < K.length → gt (thr K U) i = gt U (gt K i) := fun i hi => thr_gt hi
 refine nodup_ix fun i j hi hj e => ?_
 have key : ((i : Int)) = j := by
  rcases cv i hi with ⟨a, a1, a2⟩ | ⟨a, a1, a2⟩ <;> rcases cv j hj with ⟨b, b1, b2⟩ | ⟨b, b1, b2⟩
  ·rw [← a2, ← b2]; exact n1 a b a1 b1 (by rw [e1 a a1, e1 b b1, a2, b2, e])
  ·rw [← a2, ← b2]; exact n2 a b a1 b1 (by rw [e1 a a1, e2 b b1, a2, b2, e])
  ·rw [← a2, ← b2]; exact (n2 b a b1 a1 (by rw [e1 b b1, e2 a a1, a2, b2, e])).symm
  ·rw [← a2, ← b2]; exact n3 a b a1 b1 (by rw [e2 a a1, e2 b b1, a2, b2, e])
 omega
theorem u_cov {U P K H Q : List Int} {n : Nat} (u1 : thr P U = H) (u2 : thr K U = Q) (hP : ∀ i : Nat, i < P.length → 0 ≤ gt P i ∧ gt P i < U.length) (hK : ∀ i : Nat, i < K.length → 0 ≤ gt K i ∧ gt K i < U.length)
  (cv : ∀ j : Nat, j < n → (∃ i : Nat, i < P.length ∧ gt H i = j) ∨ ∃ i : Nat, i < K.length ∧ gt Q i = j) : covers U n = true := by
 subst u1 u2
 refine covers_ix.2 fun j hj => ?_
 rcases cv j hj with ⟨a, a1, a2⟩ | ⟨a, a1, a2⟩
 ·obtain ⟨k, h1, h2⟩ := gtI (hP a a1)
  rw [thr_gt a1, h2] at a2
  exact ⟨k, h1, a2⟩
 ·obtain ⟨k, h1, h2⟩ := gtI (hK a a1)
  rw [thr_gt a1, h2] at a2
  exact ⟨k, h1, a2⟩
theorem SOk.chk_same {s : Sp} (hs : SOk s) {x : G} {h k : Mo} (hh : MOk s.b x h) (hk : MOk s.c x k) (e : thenM s.f h = thenM s.g k)
  (n1 : ∀ i j : Nat, i < s.b.n.length → j < s.b.n.length → gt h.n i = gt h.n j → gt (poP s).n i = gt (poP s).n j) (n2 : ∀ i j : Nat, i < s.b.n.length → j < s.c.n.length → gt h.n i = gt k.n j → gt (poP s).n i = gt (poK s).n j)
  (n3 : ∀ i j : Nat, i < s.c.n.length → j < s.c.n.length → gt k.n i = gt k.n j → gt (poK s).n i = gt (poK s).n j)
  (c1 : ∀ j : Nat, j < x.n.length → (∃ i : Nat, i < s.b.n.length ∧ gt h.n i = j) ∨ ∃ i : Nat, i < s.c.n.length ∧ gt k.n i = j)
  (m1 : ∀ i j : Nat, i < s.b.e.length → j < s.b.e.length → gt h.e i = gt h.e j → gt (poP s).e i = gt (poP s).e j) (m2 : ∀ i j : Nat, i < s.b.e.length → j < s.c.e.length → gt h.e i = gt k.e j → gt (poP s).e i = gt (poK s).e j)
  (m3 : ∀ i j : Nat, i < s.c.e.length → j < s.c.e.length → gt k.e i = gt k.e j → gt (poK s).e i = gt (poK s).e j)
  (c2 : ∀ j : Nat, j < x.e.length → (∃ i : Nat, i < s.b.e.length ∧ gt h.e i = j) ∨ ∃ i : Nat, i < s.c.e.length ∧ gt k.e i = j) : chkP s x h k = true := by
 obtain ⟨u, hu, u1, u2⟩ := hs.med hh hk e
 have := hs.chk_grown hu
 rw [u1, u2] at this
 rw [this]
 have v1 : thr (poP s).n u.n = h.n := by rw [← u1]; rfl
 have v2 : thr (poK s).n u.n = k.n := by rw [← u2]; rfl
 have w1 : thr (poP s).e u.e = h.e := by rw [← u1]; rfl
 have w2 : thr (poK s).e u.e = k.e := by rw [← u2]; rfl
 have l1 := hs.p.ln
 have l2 := hs.k.ln
 have l3 := hs.p.le
 have l4 := hs.k.le
 have l5 := hu.ln
 have l6 := hu.le
 rw [Bool.and_eq_true]
 refine ⟨(injM_ok hu).2 ⟨u_inj v1 v2 (by rw [l1, l2, l5]; exact fun j hj => hs.surN hj) (by rw [l1]; exact n1) (by rw [l1, l2]; exact n2) (by rw [l2]; exact n3),
   u_inj w1 w2 (by rw [l3, l4, l6]; exact fun j hj => hs.surE hj) (by rw [l3]; exact m1) (by rw [l3, l4]; exact m2) (by rw [l4]; exact m3)⟩,
  (surM_ok hu).2 ⟨u_cov v1 v2 (by rw [l1, l5]; exact fun i hi => (hs.p.nd i hi).1) (by rw [l2, l5]; exact fun i hi => (hs.k.nd i hi).1) (by rw [l1, l2]; exact c1),
   u_cov w1 w2 (by rw [l3, l6]; exact fun i hi => (hs.p.ed i hi).1) (by rw [l4, l6]; exact fun i hi => (hs.k.ed i hi).1) (by rw [l3, l4]; exact c2)⟩⟩
end
@[go_sem] def c_r14_Glued_r0 : LL := [qB 1 0,qa 2 [.nl 1,.nl 3,.nl 1,.nl 3,.nl 1,.nl 3,.nl 1,.nl 3,.nl 1,.nl 1,.nl 1,.nl 1,.nl 1,.nl 1,.nl 1,.nl 1]]
@[go_sem] def c_r14_Glued_r1 (F : Fn) : LL := [qL 8 10 1,qc 9 (F "r10.Of") [.t 8],qm 7 9,qx 10 7 0,qx 11 7 1,qx 12 7 2,qx 13 7 3,qa 3 [.nl 1,.nl 3],qa 4 [.nl 1,.nl 1],qa 5 [.nl 1,.nl 1],qs 2 3 10,qs 2 4 11,qs 2 5 12,qm 6 13]
@[go_sem] def c_r14_Glued_r2 : LL := [qf 14 0 1,qL 15 2 14,qf 16 2 1,qL 17 2 16,qf 18 4 1,qL 19 2 18,qL 20 2 3,qf 21 6 1,qL 22 2 21,qf 23 8 1,qL 24 2 23,qL 25 2 4,qL 26 2 5,
 qu 27 [.nl 1,.nl 3,.nl 1,.nl 3,.nl 1,.nl 3,.nl 1,.nl 3,.nl 1,.nl 1,.nl 1,.nl 1,.nl 1,.nl 1,.nl 1,.nl 1] [(0,2,.t 15),(2,2,.t 17),(4,2,.t 19),(6,2,.t 20),(8,2,.t 22),(10,2,.t 24),(12,2,.t 25),(14,2,.t 26)],
 qs 16 2 27]
@[go_sem] def c_r14_Glued (F : Fn) : LC := (.seq (.reg c_r14_Glued_r0 [1,2]) (.seq (.reg (c_r14_Glued_r1 F) [1,2,3,4,5]) (.seq (.reg c_r14_Glued_r2 [2]) .ret)))
def h_r14_Glued : Hints := hOf [] (c_r14_Glued fun _ => 0)
def gluS (s : Sp) : Sq := ⟨s.a, s.b, s.c, (poR s).1, s.f, s.g, (poR s).2.1, (poR s).2.2.1⟩
section
variable (P : Program) (F : String → Nat)
def SqBd (s : Sq) : Prop := (s.a.n.length ≤ maxL ∧ s.a.e.length ≤ maxL) ∧ (s.b.n.length ≤ maxL ∧ s.b.e.length ≤ maxL) ∧ (s.c.n.length ≤ maxL ∧ s.c.e.length ≤ maxL) ∧ (s.d.n.length ≤ maxL ∧ s.d.e.length ≤ maxL) ∧ s.sm
end
section
variable {P : Program} {F : String → Nat} {α : Type}
end
section
variable (P : Program) (F : String → Nat)
end
section
variable {P : Program} {F : String → Nat} {α : Type}
theorem QOk.bd {s : Sq} (h : QOk s) : SqBd s := by
 have a := valid_spec h.f.va
 have b := valid_spec h.f.vb
 have c := valid_spec h.g.vb
 have d := valid_spec h.h.vb
 have f := h.f.fit h.h
 have g := h.g.fit h.k
 have l1 := h.h.ln
 have l2 := h.h.le
 have l3 := h.k.ln
 have l4 := h.k.le
 refine ⟨⟨?_, ?_⟩, ⟨?_, ?_⟩, ⟨?_, ?_⟩, ⟨?_, ?_⟩, ⟨?_, ?_⟩, ⟨?_, ?_⟩, ⟨?_, ?_⟩, ?_, ?_⟩ <;> unfold maxL <;> omega
end
section
theorem idx_spec {l : List Pr} {q : Pr} (h : q ∈ l) : (0 ≤ idx (fun p => decide (p = q)) l 0 ∧ idx (fun p => decide (p = q)) l 0 < l.length) ∧ gt l (idx (fun p => decide (p = q)) l 0) = q := by
 have h0 := idx_mem.2 h
 obtain ⟨k, h1, h2, h3, _⟩ := idx_some (fun p => decide (p = q)) l 0 (by omega)
 rw [h1]
 refine ⟨by omega, ?_⟩
 simpa using h3
theorem idx_own {l : List Pr} (hn : l.Nodup) {i : Nat} (hi : i < l.length) : idx (fun p => decide (p = gt l i)) l 0 = i := by
 obtain ⟨⟨h1, h2⟩, h3⟩ := idx_spec (gt_mem (l := l) (j := i) (by omega) (by omega))
 generalize idx (fun p => decide (p = gt l i)) l 0 = y at *
 have : gt l ((y.toNat : Nat) : Int) = gt l i := by rw [Int.toNat_of_nonneg h1]; exact h3
 have := gt_inj hn (by omega) hi this
 omega
theorem nodup_flatMap_range {α : Type} {f : Nat → List α} : ∀ n, (∀ i, i < n → (f i).Nodup) → (∀ i j, i < j → j < n → ∀ x ∈ f i, x ∉ f j) → ((List.range n).flatMap f).Nodup
 | 0, _, _ => by simp
 | n + 1, h1, h2 => by
  rw [List.range_succ, List.flatMap_append, List.nodup_append]
  refine ⟨nodup_flatMap_range n (fun i hi => h1 i (by omega)) fun i j hij hj => h2 i j hij (by omega), by simpa using h1 n (by omega), ?_⟩
  intro a ha b hb hab
  subst hab
  simp only [List.flatMap_cons, List.flatMap_nil, List.append_nil] at hb
  obtain ⟨i, hi, hai⟩ := List.mem_flatMap.1 ha
  exact h2 i n (by simpa using hi) (by omega) a hai hb
theorem rowP_nodup (f g : List Int) (i k : Nat) : (rowP f g i k).Nodup := by
 unfold rowP List.Nodup
 rw [List.pairwise_map]
 exact ((List.nodup_range (n := k)).filter _).imp fun h e => by simp at e; omega
theorem pairsL_nodup (f g : List Int) : (pairsL f g).Nodup := by
 unfold pairsL pairsI
 refine nodup_flatMap_range _ (fun i _ => rowP_nodup f g i _) fun i j hij _ x hx hy => ?_
 unfold rowP at hx hy
 obtain ⟨k, _, rfl⟩ := List.mem_map.1 hx
 obtain ⟨k', _, h⟩ := List.mem_map.1 hy
 simp at h; omega
structure PB (s : Cs) : Prop where
 f : MOk s.b s.d s.f
 g : MOk s.c s.d s.g
 p : MOk (pbG0 s) s.b ⟨asA (pbN s), asA (pbE s)⟩
 q : MOk (pbG0 s) s.c ⟨asB (pbN s), asB (pbE s)⟩
theorem pbN_in {s : Cs} (hf : MOk s.b s.d s.f) (hg : MOk s.c s.d s.g) {a b : Int} (ha : 0 ≤ a ∧ a < s.b.n.length) (hb : 0 ≤ b ∧ b < s.c.n.length) : (⟨a, b⟩ : Pr) ∈ pbN s ↔ gt s.f.n a = gt s.g.n b := by
 unfold pbN
 exact pairsL_in (by rw [hf.ln]; exact ha) (by rw [hg.ln]; exact hb)
theorem pbE_in {s : Cs} (hf : MOk s.b s.d s.f) (hg : MOk s.c s.d s.g) {a b : Int} (ha : 0 ≤ a ∧ a < s.b.e.length) (hb : 0 ≤ b ∧ b < s.c.e.length) : (⟨a, b⟩ : Pr) ∈ pbE s ↔ gt s.f.e a = gt s.g.e b := by
 unfold pbE
 exact pairsL_in (by rw [hf.le]; exact ha) (by rw [hg.le]; exact hb)
theorem pbN_bd {s : Cs} (hf : MOk s.b s.d s.f) (hg : MOk s.c s.d s.g) {p : Pr} (h : p ∈ pbN s) : (0 ≤ p.a ∧ p.a < s.b.n.length) ∧ (0 ≤ p.b ∧ p.b < s.c.n.length) ∧ gt s.f.n p.a = gt s.g.n p.b := by
 have hb := pairsL_bd h
 rw [hf.ln, hg.ln] at hb
 exact ⟨hb.1, hb.2, (pbN_in hf hg hb.1 hb.2).1 h⟩
theorem pbE_bd {s : Cs} (hf : MOk s.b s.d s.f) (hg : MOk s.c s.d s.g) {p : Pr} (h : p ∈ pbE s) : (0 ≤ p.a ∧ p.a < s.b.e.length) ∧ (0 ≤ p.b ∧ p.b < s.c.e.length) ∧ gt s.f.e p.a = gt s.g.e p.b := by
 have hb := pairsL_bd h
 rw [hf.le, hg.le] at hb
 exact ⟨hb.1, hb.2, (pbE_in hf hg hb.1 hb.2).1 h⟩
theorem pb_ends {s : Cs} (hf : MOk s.b s.d s.f) (hg : MOk s.c s.d s.g) {p : Pr} (h : p ∈ pbE s) : (⟨(gt s.b.e p.a).f, (gt s.c.e p.b).f⟩ : Pr) ∈ pbN s ∧ (⟨(gt s.b.e p.a).o, (gt s.c.e p.b).o⟩ : Pr) ∈ pbN s ∧ (gt s.b.e p.a).t = (gt s.c.e p.b).t := by
 obtain ⟨ha, hb, he⟩ := pbE_bd hf hg h
 obtain ⟨_, b1, b2⟩ := edge_fits hf.va ha
 obtain ⟨_, c1, c2⟩ := edge_fits hg.va hb
 obtain ⟨i, hi, hi2⟩ := gtI ha
 obtain ⟨k, hk, hk2⟩ := gtI hb
 obtain ⟨_, f1, f2, f3⟩ := hf.ed i hi
 obtain ⟨_, g1, g2, g3⟩ := hg.ed k hk
 rw [← hi2] at f1 f2 f3
 rw [← hk2] at g1 g2 g3
 refine ⟨(pbN_in hf hg b1 c1).2 ?_, (pbN_in hf hg b2 c2).2 ?_, ?_⟩
 ·rw [f2, g2, he]
 ·rw [f3, g3, he]
 ·rw [f1, g1, he]
theorem pb_of {s : Cs} (h : pbErr s = 0) : PB s := by
 obtain ⟨l1, l2, hg0⟩ := pbN_len h
 obtain ⟨v1, v2⟩ := givenE_spec hg0
 have hf := mok.1 v1
 have hg := mok.1 v2
 have vb := valid_spec hf.va
 have hnl : (pbG0 s).n.length = (pbN s).length := by simp [pbG0]
 have hel : (pbG0 s).e.length = (pbE s).length := by simp [pbG0]
 have hedge : ∀ i : Nat, i < (pbE s).length → gt (pbG0 s).e i = pbEdge s.b.e s.c.e (pbN s) (gt (pbE s) i) := fun i hi => gt_map hi
 have hA : ∀ (l : List Pr) (i : Nat), i < l.length → gt (asA l) i = (gt l i).a := fun l i hi => gt_map hi
 have hB : ∀ (l : List Pr) (i : Nat), i < l.length → gt (asB l) i = (gt l i).b := fun l i hi => gt_map hi
 have va : validG (pbG0 s) = 0 := by
  refine valid_mk (by omega) (by omega) (fun x hx => ?_) (fun x hx => ?_)
  ·simp only [pbG0, List.mem_map] at hx
   obtain ⟨p, hp, rfl⟩ := hx
   have := pbN_bd hf hg hp
   exact vb.2.2.1 _ (gt_mem this.1.1 this.1.2)
  ·simp only [pbG0, List.mem_map] at hx
   obtain ⟨p, hp, rfl⟩ := hx
   obtain ⟨ha, hb, _⟩ := pbE_bd hf hg hp
   obtain ⟨e1, e2, _⟩ := pb_ends hf hg hp
   have t1 := edge_fits hf.va ha
   have i1 := idx_spec e1
   have i2 := idx_spec e2
   rw [hnl]
   exact fits_mk t1.1 i1.1 i2.1
 have hend : ∀ i : Nat, i < (pbE s).length → (gt (pbN s) (gt (pbG0 s).e i).f = ⟨(gt s.b.e (gt (pbE s) i).a).f, (gt s.c.e (gt (pbE s) i).b).f⟩ ∧ 0 ≤ (gt (pbG0 s).e i).f ∧ (gt (pbG0 s).e i).f < (pbN s).length) ∧
   gt (pbN s) (gt (pbG0 s).e i).o = ⟨(gt s.b.e (gt (pbE s) i).a).o, (gt s.c.e (gt (pbE s) i).b).o⟩ ∧ 0 ≤ (gt (pbG0 s).e i).o ∧ (gt (pbG0 s).e i).o < (pbN s).length := fun i hi => by
  obtain ⟨e1, e2, _⟩ := pb_ends hf hg (gt_mem (l := pbE s) (j := i) (by omega) (by omega))
  have i1 := idx_spec e1
  have i2 := idx_spec e2
  rw [hedge i hi]
  exact ⟨⟨i1.2, i1.1⟩, ⟨i2.2, i2.1⟩⟩
 refine ⟨hf, hg, ⟨va, hf.va, by simp [asA, hnl], by simp [asA, hel], fun i hi => ?_, fun i hi => ?_⟩, ⟨va, hg.va, by simp [asB, hnl], by simp [asB, hel], fun i hi => ?_, fun i hi => ?_⟩⟩
 ·rw [hnl] at hi
  have := pbN_bd hf hg (gt_mem (l := pbN s) (j := i) (by omega) (by omega))
  simp only
  rw [hA _ i hi]
  have e : gt (pbG0 s).n i = gt s.b.n (gt (pbN s) i).a := gt_map hi
  exact ⟨this.1, e.symm⟩
 ·rw [hel] at hi
  have hm := gt_mem (l := pbE s) (j := i) (by omega) (by omega)
  have hb := pbE_bd hf hg hm
  obtain ⟨⟨n1, n2⟩, n3, n4⟩ := hend i hi
  simp only
  rw [hA _ i hi]
  refine ⟨hb.1, by rw [hedge i hi]; rfl, ?_, ?_⟩
  ·obtain ⟨j, hj, hj2⟩ := gtI n2
   rw [hj2] at n1 ⊢
   rw [hA _ j hj, n1]
  ·obtain ⟨j, hj, hj2⟩ := gtI n4
   rw [hj2] at n3 ⊢
   rw [hA _ j hj, n3]
 ·rw [hnl] at hi
  have hb := pbN_bd hf hg (gt_mem (l := pbN s) (j := i) (by omega) (by omega))
  simp only
  rw [hB _ i hi]
  refine ⟨hb.2.1, ?_⟩
  have e : gt (pbG0 s).n i = gt s.b.n (gt (pbN s) i).a := gt_map hi
  rw [e]
  obtain ⟨k, hk, hk2⟩ := gtI hb.2.1
  obtain ⟨j, hj, hj2⟩ := gtI hb.1
  have := hb.2.2
  rw [hk2, hj2] at *
  rw [← (hg.nd k hk).2, ← (hf.nd j hj).2, this]
 ·rw [hel] at hi
  have hm := gt_mem (l := pbE s) (j := i) (by omega) (by omega)
  have hb := pbE_bd hf hg hm
  obtain ⟨_, _, ht⟩ := pb_ends hf hg hm
  obtain ⟨⟨n1, n2⟩, n3, n4⟩ := hend i hi
  simp only
  rw [hB _ i hi]
  refine ⟨hb.2.1, by rw [← ht, hedge i hi]; rfl, ?_, ?_⟩
  ·obtain ⟨j, hj, hj2⟩ := gtI n2
   rw [hj2] at n1 ⊢
   rw [hB _ j hj, n1]
  ·obtain ⟨j, hj, hj2⟩ := gtI n4
   rw [hj2] at n3 ⊢
   rw [hB _ j hj, n3]
end
@[go_sem] def c_square_pull_r0 : LL := [qB 5 0,qB 6 1,qB 7 2,qB 8 3,qB 9 4,qa 10 [.nl 1,.nl 3,.nl 1,.nl 3,.nl 1,.nl 3,.nl 1,.nl 1,.nl 1,.nl 1,.nl 1,.nl 3,.nl 1,.nl 1,.nl 1,.nl 1],qi 11 0]
@[go_sem] def c_square_pull_r1 : LL := [qL 17 2 5,qL 18 2 7,qL 19 2 6,qL 20 2 8,qL 21 2 9,
 qu 22 [.nl 1,.nl 3,.nl 1,.nl 3,.nl 1,.nl 3,.nl 1,.nl 1,.nl 1,.nl 1] [(0,2,.t 17),(2,2,.t 18),(4,2,.t 19),(6,2,.t 20),(8,2,.t 21)],
 qa 12 [.nl 1,.nl 3,.nl 1,.nl 3,.nl 1,.nl 3,.nl 1,.nl 1,.nl 1,.nl 1],qs 10 12 22]
@[go_sem] def c_square_pull_r2 (F : Fn) : LL := [qL 24 10 12,qc 25 (F "pullback.Of") [.t 24],qm 23 25,qx 26 23 0,qx 27 23 1,qx 28 23 2,qx 29 23 3,qa 13 [.nl 1,.nl 3],qa 14 [.nl 1,.nl 1],qa 15 [.nl 1,.nl 1],qs 2 13 26,qs 2 14 27,qs 2 15 28,
 qm 16 29]
@[go_sem] def c_square_pull_r3 : LL := [qL 30 10 12,qL 31 2 13,qL 32 2 14,qL 33 2 15,
 qu 34 [.nl 1,.nl 3,.nl 1,.nl 3,.nl 1,.nl 3,.nl 1,.nl 1,.nl 1,.nl 1,.nl 1,.nl 3,.nl 1,.nl 1,.nl 1,.nl 1] [(0,10,.t 30),(10,2,.t 31),(12,2,.t 32),(14,2,.t 33)],
 qm 35 16,qs 16 10 34,qm 11 35]
@[go_sem] def c_square_pull (F : Fn) : LC := (.seq (.reg c_square_pull_r0 [5,6,7,8,9,10]) (.seq (.reg c_square_pull_r1 [10,12]) (.seq (.reg (c_square_pull_r2 F) [10,12,13,14,15,16]) (.seq (.reg c_square_pull_r3 [10,11]) .ret))))
def h_square_pull : Hints := hOf [] (c_square_pull fun _ => 0)
@[go_sem] def c_square_Lift_r0 : LL := [qB 3 0,qB 4 1,qB 5 2,qa 6 [.nl 1,.nl 3,.nl 1,.nl 3,.nl 1,.nl 3,.nl 1,.nl 3,.nl 1,.nl 1,.nl 1,.nl 1,.nl 1,.nl 1,.nl 1,.nl 1],qi 7 0]
@[go_sem] def c_square_Lift_r1 (F : Fn) : LL := [qL 16 16 3,qc 17 (F "square.valid") [.t 16],qm 8 17]
@[go_sem] def c_square_Lift_r2 : LL := [qm 18 8,qk .neq 19 18 0]
@[go_sem] def c_square_Lift_r3 : LL := [qu 20 [.nl 1,.nl 3,.nl 1,.nl 3,.nl 1,.nl 3,.nl 1,.nl 3,.nl 1,.nl 1,.nl 1,.nl 1,.nl 1,.nl 1,.nl 1,.nl 1] [],qm 21 8,qs 16 6 20,qm 7 21]
@[go_sem] def c_square_Lift_r4 (F : Fn) : LL := [qL 22 2 4,qf 23 6 3,qL 24 2 23,qL 25 2 5,qc 26 (F "morphism.Valid") [.t 22,.t 24,.t 25],qm 9 26]
@[go_sem] def c_square_Lift_r5 : LL := [qm 27 9,qk .neq 28 27 0]
@[go_sem] def c_square_Lift_r6 : LL := [qu 29 [.nl 1,.nl 3,.nl 1,.nl 3,.nl 1,.nl 3,.nl 1,.nl 3,.nl 1,.nl 1,.nl 1,.nl 1,.nl 1,.nl 1,.nl 1,.nl 1] [],qm 30 9,qs 16 6 29,qm 7 30]
@[go_sem] def c_square_Lift_r7 (F : Fn) : LL := [qL 31 16 3,qc 32 (F "square.commutes") [.t 31],qv 33 32]
@[go_sem] def c_square_Lift_r8 : LL := [qu 34 [.nl 1,.nl 3,.nl 1,.nl 3,.nl 1,.nl 3,.nl 1,.nl 3,.nl 1,.nl 1,.nl 1,.nl 1,.nl 1,.nl 1,.nl 1,.nl 1] [],qs 16 6 34,qi 7 11]
@[go_sem] def c_square_Lift_r9 (F : Fn) : LL := [qf 36 2 3,qL 37 2 36,qf 38 6 3,qL 39 2 38,qL 40 2 4,qf 41 12 3,qL 42 2 41,qL 43 2 5,qc 44 (F "square.pull") [.t 37,.t 39,.t 40,.t 42,.t 43],qm 35 44,qx 45 35 0,qx 46 35 1,
 qa 10 [.nl 1,.nl 3,.nl 1,.nl 3,.nl 1,.nl 3,.nl 1,.nl 1,.nl 1,.nl 1,.nl 1,.nl 3,.nl 1,.nl 1,.nl 1,.nl 1],qs 16 10 45,qm 11 46]
@[go_sem] def c_square_Lift_r10 : LL := [qm 47 11,qk .neq 48 47 0]
@[go_sem] def c_square_Lift_r11 : LL := [qu 49 [.nl 1,.nl 3,.nl 1,.nl 3,.nl 1,.nl 3,.nl 1,.nl 3,.nl 1,.nl 1,.nl 1,.nl 1,.nl 1,.nl 1,.nl 1,.nl 1] [],qm 50 11,qs 16 6 49,qm 7 50]
@[go_sem] def c_square_Lift_r12 (F : Fn) : LL := [qf 52 4 3,qL 53 2 52,qf 54 6 3,qL 55 2 54,qL 56 2 4,qf 57 14 3,qL 58 2 57,qL 59 2 5,qc 60 (F "square.pull") [.t 53,.t 55,.t 56,.t 58,.t 59],qm 51 60,qx 61 51 0,qx 62 51 1,
 qa 12 [.nl 1,.nl 3,.nl 1,.nl 3,.nl 1,.nl 3,.nl 1,.nl 1,.nl 1,.nl 1,.nl 1,.nl 3,.nl 1,.nl 1,.nl 1,.nl 1],qs 16 12 61,qm 11 62]
@[go_sem] def c_square_Lift_r13 : LL := [qm 63 11,qk .neq 64 63 0]
@[go_sem] def c_square_Lift_r14 : LL := [qu 65 [.nl 1,.nl 3,.nl 1,.nl 3,.nl 1,.nl 3,.nl 1,.nl 3,.nl 1,.nl 1,.nl 1,.nl 1,.nl 1,.nl 1,.nl 1,.nl 1] [],qm 66 11,qs 16 6 65,qm 7 66]
@[go_sem] def c_square_Lift_r15 (F : Fn) : LL := [qf 68 0 3,qL 69 2 68,qf 70 6 3,qL 71 2 70,qL 72 2 4,qf 73 8 3,qL 74 2 73,qf 75 12 3,qL 76 2 75,qc 77 (F "square.then") [.t 74,.t 76],qL 78 2 5,qc 79 (F "square.pull") [.t 69,.t 71,.t 72,.t 77,.t 78],
 qm 67 79,qx 80 67 0,qx 81 67 1,qa 13 [.nl 1,.nl 3,.nl 1,.nl 3,.nl 1,.nl 3,.nl 1,.nl 1,.nl 1,.nl 1,.nl 1,.nl 3,.nl 1,.nl 1,.nl 1,.nl 1],qs 16 13 80,qm 11 81]
@[go_sem] def c_square_Lift_r16 : LL := [qm 82 11,qk .neq 83 82 0]
@[go_sem] def c_square_Lift_r17 : LL := [qu 84 [.nl 1,.nl 3,.nl 1,.nl 3,.nl 1,.nl 3,.nl 1,.nl 3,.nl 1,.nl 1,.nl 1,.nl 1,.nl 1,.nl 1,.nl 1,.nl 1] [],qm 85 11,qs 16 6 84,qm 7 85]
@[go_sem] def c_square_Lift_r18 (F : Fn) : LL := [qf 87 0 10,qL 88 10 87,qf 89 10 13,qL 90 2 89,qf 91 12 13,qL 92 2 91,qf 93 8 3,qL 94 2 93,qc 95 (F "square.then") [.t 92,.t 94],qf 96 14 13,qL 97 2 96,qc 98 (F "pullback.Mediate") [.t 88,.t 90,.t 95,.t 97],
 qm 86 98,qx 99 86 0,qx 100 86 1,qa 14 [.nl 1,.nl 1],qs 2 14 99,qm 11 100]
@[go_sem] def c_square_Lift_r19 : LL := [qm 101 11,qk .neq 102 101 0]
@[go_sem] def c_square_Lift_r20 : LL := [qu 103 [.nl 1,.nl 3,.nl 1,.nl 3,.nl 1,.nl 3,.nl 1,.nl 3,.nl 1,.nl 1,.nl 1,.nl 1,.nl 1,.nl 1,.nl 1,.nl 1] [],qm 104 11,qs 16 6 103,qm 7 104]
@[go_sem] def c_square_Lift_r21 (F : Fn) : LL := [qf 106 0 12,qL 107 10 106,qf 108 10 13,qL 109 2 108,qf 110 12 13,qL 111 2 110,qf 112 10 3,qL 113 2 112,qc 114 (F "square.then") [.t 111,.t 113],qf 115 14 13,qL 116 2 115,
 qc 117 (F "pullback.Mediate") [.t 107,.t 109,.t 114,.t 116],qm 105 117,qx 118 105 0,qx 119 105 1,qa 15 [.nl 1,.nl 1],qs 2 15 118,qm 11 119]
@[go_sem] def c_square_Lift_r22 : LL := [qm 120 11,qk .neq 121 120 0]
@[go_sem] def c_square_Lift_r23 : LL := [qu 122 [.nl 1,.nl 3,.nl 1,.nl 3,.nl 1,.nl 3,.nl 1,.nl 3,.nl 1,.nl 1,.nl 1,.nl 1,.nl 1,.nl 1,.nl 1,.nl 1] [],qm 123 11,qs 16 6 122,qm 7 123]
@[go_sem] def c_square_Lift_r24 (F : Fn) : LL := [qf 124 10 13,qL 125 2 124,qf 126 10 10,qL 127 2 126,qf 128 10 12,qL 129 2 128,qL 130 2 4,qc 131 (F "square.copied") [.t 130],qL 132 2 14,qL 133 2 15,qf 134 14 10,qL 135 2 134,qf 136 14 12,
 qL 137 2 136,
 qu 138 [.nl 1,.nl 3,.nl 1,.nl 3,.nl 1,.nl 3,.nl 1,.nl 3,.nl 1,.nl 1,.nl 1,.nl 1,.nl 1,.nl 1,.nl 1,.nl 1] [(0,2,.t 125),(2,2,.t 127),(4,2,.t 129),(6,2,.t 131),(8,2,.t 132),(10,2,.t 133),(12,2,.t 135),(14,2,.t 137)],
 qs 16 6 138,qi 7 0]
@[go_sem] def c_square_Lift (F : Fn) : LC := (.seq (.reg c_square_Lift_r0 [3,4,5,6]) (.seq (.seq (.reg (c_square_Lift_r1 F) [3,4,5,6,8]) (.seq (.reg c_square_Lift_r2 [3,4,5,6,8,19]) (.cond (.t 19) (.seq (.reg c_square_Lift_r3 [6,7]) .ret) .skip))) (.seq (.seq (.reg (c_square_Lift_r4 F) [3,4,5,6,9]) (.seq (.reg c_square_Lift_r5 [3,4,5,6,9,28]) (.cond (.t 28) (.seq (.reg c_square_Lift_r6 [6,7]) .ret) .skip))) (.seq (.seq (.reg (c_square_Lift_r7 F) [3,4,5,6,33]) (.cond (.t 33) (.seq (.reg c_square_Lift_r8 [6,7]) .ret) .skip)) (.seq (.reg (c_square_Lift_r9 F) [3,4,5,6,10,11]) (.seq (.seq (.reg c_square_Lift_r10 [3,4,5,6,10,11,48]) (.cond (.t 48) (.seq (.reg c_square_Lift_r11 [6,7]) .ret) .skip)) (.seq (.reg (c_square_Lift_r12 F) [3,4,5,6,10,11,12]) (.seq (.seq (.reg c_square_Lift_r13 [3,4,5,6,10,11,12,64]) (.cond (.t 64) (.seq (.reg c_square_Lift_r14 [6,7]) .ret) .skip)) (.seq (.dreg [(1,none,[],true),(3,none,[],true),(4,none,[],true),(9,none,[1,3,4],true),(10,(some 0),[9],false)] (c_square_Lift_r15 F) [3,4,6,10,11,12,13]) (.seq (.seq (.reg c_square_Lift_r16 [3,4,6,10,11,12,13,83]) (.cond (.t 83) (.seq (.reg c_square_Lift_r17 [6,7]) .ret) .skip)) (.seq (.dreg [(1,none,[],true),(3,none,[],true),(8,none,[1,3],true),(10,(some 512),[8],false)] (c_square_Lift_r18 F) [3,4,6,10,11,12,13,14]) (.seq (.seq (.reg c_square_Lift_r19 [3,4,6,10,11,12,13,14,102]) (.cond (.t 102) (.seq (.reg c_square_Lift_r20 [6,7]) .ret) .skip)) (.seq (.dreg [(1,none,[],true),(3,none,[],true),(8,none,[1,3],true),(10,(some 512),[8],false)] (c_square_Lift_r21 F) [4,6,10,11,12,13,14,15]) (.seq (.seq (.reg c_square_Lift_r22 [4,6,10,11,12,13,14,15,121]) (.cond (.t 121) (.seq (.reg c_square_Lift_r23 [6,7]) .ret) .skip)) (.seq (.dreg [(1,none,[],true),(3,none,[],true),(5,none,[],true),(7,none,[1,3,5],true),(8,(some 0),[7],false),(9,(some 0),[7],false),(11,(some 1024),[7],false),(13,(some 4096),[7],false)] (c_square_Lift_r24 F) [6,7]) .ret)))))))))))))))
def h_square_Lift : Hints := hOf [] (c_square_Lift fun _ => 0)
def Sq.oB (s : Sq) (x : G) (m : Mo) : Cs := ⟨s.b, x, s.d, s.h, m⟩
def Sq.oC (s : Sq) (x : G) (m : Mo) : Cs := ⟨s.c, x, s.d, s.k, m⟩
def Sq.oA (s : Sq) (x : G) (m : Mo) : Cs := ⟨s.a, x, s.d, thenM s.f s.h, m⟩
def lifF (s : Sq) (x : G) (m : Mo) : Mo × Int := medM (s.oB x m) (pbG (s.oA x m)) (thenM (pbP (s.oA x m)) s.f) (pbQ (s.oA x m))
def lifG (s : Sq) (x : G) (m : Mo) : Mo × Int := medM (s.oC x m) (pbG (s.oA x m)) (thenM (pbP (s.oA x m)) s.g) (pbQ (s.oA x m))
def liftE (s : Sq) (x : G) (m : Mo) : Int := if sqE s ≠ 0 then sqE s else if validM x s.d m ≠ 0 then validM x s.d m else if comB s = false then 11 else if pbErr (s.oB x m) ≠ 0 then pbErr (s.oB x m) else if pbErr (s.oC x m) ≠ 0 then pbErr (s.oC x m) else
 if pbErr (s.oA x m) ≠ 0 then pbErr (s.oA x m) else if (lifF s x m).2 ≠ 0 then (lifF s x m).2 else (lifG s x m).2
def lifS (s : Sq) (x : G) (m : Mo) : Sq := ⟨pbG (s.oA x m), pbG (s.oB x m), pbG (s.oC x m), x, (lifF s x m).1, (lifG s x m).1, pbQ (s.oB x m), pbQ (s.oC x m)⟩
def liftR (s : Sq) (x : G) (m : Mo) : Sq × Int := if liftE s x m = 0 then (lifS s x m, 0) else (sq0, liftE s x m)
def pulD (s : Cs) : D := .agg [.lst 1 (ints s.b.n), .lst 3 (eds s.b.e), .lst 1 (ints s.c.n), .lst 3 (eds s.c.e), .lst 1 (ints s.d.n), .lst 3 (eds s.d.e), .lst 1 (ints s.f.n), .lst 1 (ints s.f.e), .lst 1 (ints s.g.n), .lst 1 (ints s.g.e),
 .arr 1 (ints (pbG s).n), .arr 3 (eds (pbG s).e), .arr 1 (ints (pbP s).n), .arr 1 (ints (pbP s).e), .arr 1 (ints (pbQ s).n), .arr 1 (ints (pbQ s).e)]
section
variable (P : Program) (F : String → Nat)
def K_square_pull : Prop := ∀ s : Cs, FC P (F "square.pull") [gD s.b, gD s.d, gD s.c, mD s.f, mD s.g] (.tup [pulD s, .int .i64 (pbErr s)]) []
def K_square_Lift : Prop := ∀ (s : Sq) (x : G) (m : Mo), x.n.length ≤ 1000000 → x.e.length ≤ 1000000 → FC P (F "square.Lift") [sqD s, gD x, mD m] (.tup [sqA (liftR s x m).1, .int .i64 (liftR s x m).2]) []
end
section
variable {P : Program} {F : String → Nat} {α : Type}
theorem w_square_pull (ho : K_pullback_Of P F) (s : Cs) : W P (c_square_pull F) (Done [.c 10 true 16, .t 11] [] (.tup [pulD s, .int .i64 (pbErr s)]) []) (init [gD s.b, gD s.d, gD s.c, mD s.f, mD s.g]) := by
 refine W_of ?_
 have r1 := ho s
 simp only [gD, mD, gA, mA, csD] at *
 simp (disch := omega) only [go_sem, ↓reduceIte]
 refine call_by r1 ?_
 simp (disch := omega) only [go_sem, ↓reduceIte]
 try rfl
theorem csD_oB (s : Sq) (x : G) (m : Mo) : csD (s.oB x m) = .agg [.lst 1 (ints s.b.n), .lst 3 (eds s.b.e), .lst 1 (ints x.n), .lst 3 (eds x.e), .lst 1 (ints s.d.n), .lst 3 (eds s.d.e), .lst 1 (ints s.h.n), .lst 1 (ints s.h.e), .lst 1 (ints m.n), .lst 1 (ints m.e)] := rfl
theorem pulD_oB (s : Sq) (x : G) (m : Mo) : pulD (s.oB x m) = .agg [.lst 1 (ints s.b.n), .lst 3 (eds s.b.e), .lst 1 (ints x.n), .lst 3 (eds x.e), .lst 1 (ints s.d.n), .lst 3 (eds s.d.e), .lst 1 (ints s.h.n), .lst 1 (ints s.h.e), .lst 1 (ints m.n), .lst 1 (ints m.e), .arr 1 (ints (pbG (s.oB x m)).n), .arr 3 (eds (pbG (s.oB x m)).e), .arr 1 (ints (pbP (s.oB x m)).n), .arr 1 (ints (pbP (s.oB x m)).e), .arr 1 (ints (pbQ (s.oB x m)).n), .arr 1 (ints (pbQ (s.oB x m)).e)] := rfl
theorem csD_oC (s : Sq) (x : G) (m : Mo) : csD (s.oC x m) = .agg [.lst 1 (ints s.c.n), .lst 3 (eds s.c.e), .lst 1 (ints x.n), .lst 3 (eds x.e), .lst 1 (ints s.d.n), .lst 3 (eds s.d.e), .lst 1 (ints s.k.n), .lst 1 (ints s.k.e), .lst 1 (ints m.n), .lst 1 (ints m.e)] := rfl
theorem pulD_oC (s : Sq) (x : G) (m : Mo) : pulD (s.oC x m) = .agg [.lst 1 (ints s.c.n), .lst 3 (eds s.c.e), .lst 1 (ints x.n), .lst 3 (eds x.e), .lst 1 (ints s.d.n), .lst 3 (eds s.d.e), .lst 1 (ints s.k.n), .lst 1 (ints s.k.e), .lst 1 (ints m.n), .lst 1 (ints m.e), .arr 1 (ints (pbG (s.oC x m)).n), .arr 3 (eds (pbG (s.oC x m)).e), .arr 1 (ints (pbP (s.oC x m)).n), .arr 1 (ints (pbP (s.oC x m)).e), .arr 1 (ints (pbQ (s.oC x m)).n), .arr 1 (ints (pbQ (s.oC x m)).e)] := rfl
theorem csD_oA (s : Sq) (x : G) (m : Mo) : csD (s.oA x m) = .agg [.lst 1 (ints s.a.n), .lst 3 (eds s.a.e), .lst 1 (ints x.n), .lst 3 (eds x.e), .lst 1 (ints s.d.n), .lst 3 (eds s.d.e), .lst 1 (ints (thenM s.f s.h).n), .lst 1 (ints (thenM s.f s.h).e), .lst 1 (ints m.n), .lst 1 (ints m.e)] := rfl
theorem pulD_oA (s : Sq) (x : G) (m : Mo) : pulD (s.oA x m) = .agg [.lst 1 (ints s.a.n), .lst 3 (eds s.a.e), .lst 1 (ints x.n), .lst 3 (eds x.e), .lst 1 (ints s.d.n), .lst 3 (eds s.d.e), .lst 1 (ints (thenM s.f s.h).n), .lst 1 (ints (thenM s.f s.h).e), .lst 1 (ints m.n), .lst 1 (ints m.e), .arr 1 (ints (pbG (s.oA x m)).n), .arr 3 (eds (pbG (s.oA x m)).e), .arr 1 (ints (pbP (s.oA x m)).n), .arr 1 (ints (pbP (s.oA x m)).e), .arr 1 (ints (pbQ (s.oA x m)).n), .arr 1 (ints (pbQ (s.oA x m)).e)] := rfl
theorem liftR_bad {s : Sq} {x : G} {m : Mo} {v : Int} (h : liftE s x m = v) (hn : v ≠ 0) : liftR s x m = (sq0, v) := by unfold liftR; rw [h, if_neg hn]
theorem liftR_ok {s : Sq} {x : G} {m : Mo} (h : liftE s x m = 0) : liftR s x m = (lifS s x m, 0) := by unfold liftR; rw [if_pos h]
theorem pbP_ok {s : Cs} (h : pbErr s = 0) : MOk (pbG s) s.b (pbP s) ∧ MOk (pbG s) s.c (pbQ s) := by
 have := pb_of h
 unfold pbG pbP pbQ
 rw [if_pos h, if_pos h, if_pos h]
 exact ⟨this.p, this.q⟩
set_option maxHeartbeats 4000000 in
theorem w_square_Lift (hv : K_square_valid P F) (hm : K_morphism_Valid P F) (hc : K_square_commutes P F) (ho : K_square_pull P F) (ht : K_square_then P F) (hmd : K_pullback_Mediate P F) (hcp : K_square_copied P F) (s : Sq) (x : G) (m : Mo) (hx1 : x.n.length ≤ 1000000) (hx2 : x.e.length ≤ 1000000) : W P (c_square_Lift F) (Done [.c 6 true 16, .t 7] [] (.tup [sqA (liftR s x m).1, .int .i64 (liftR s x m).2]) []) (init [sqD s, gD x, mD m]) := by
 refine W_of ?_
 have r1 := hv s
 have hE : liftE s x m = if sqE s ≠ 0 then sqE s else if validM x s.d m ≠ 0 then validM x s.d m else if comB s = false then 11 else if pbErr (s.oB x m) ≠ 0 then pbErr (s.oB x m) else if pbErr (s.oC x m) ≠ 0 then pbErr (s.oC x m) else
  if pbErr (s.oA x m) ≠ 0 then pbErr (s.oA x m) else if (lifF s x m).2 ≠ 0 then (lifF s x m).2 else (lifG s x m).2 := rfl
 by_cases c1 : sqE s = 0
 case neg =>
  rw [if_pos c1] at hE
  rw [liftR_bad hE c1]
  clear hE
  generalize sqE s = v at *
  simp only [sqD, gD, mD] at *
  simp (disch := omega) only [go_sem, ↓reduceIte]
  refine call_by r1 ?_
  simp (disch := omega) only [go_sem, ↓reduceIte]
  refine bran_ndec (fun c => ?_) (fun c => absurd c c1)
  simp (disch := omega) only [go_sem, ↓reduceIte]
  simp [sqA, sq0, g0, m0, ints, eds]
 rw [if_neg (by simp [c1])] at hE
 have r2 := hm x s.d m
 by_cases c2 : validM x s.d m = 0
 case neg =>
  rw [if_pos c2] at hE
  rw [liftR_bad hE c2]
  rw [c1] at r1
  clear hE
  generalize validM x s.d m = v at *
  simp only [sqD, gD, mD] at *
  simp (disch := omega) only [go_sem, ↓reduceIte]
  refine call_by r1 ?_
  simp (disch := omega) only [go_sem, ↓reduceIte]
  refine call_by r2 ?_
  simp (disch := omega) only [go_sem, ↓reduceIte]
  refine bran_ndec (fun c => ?_) (fun c => absurd c c2)
  simp (disch := omega) only [go_sem, ↓reduceIte]
  simp [sqA, sq0, g0, m0, ints, eds]
 rw [if_neg (by simp [c2])] at hE
 have r3 := hc s c1
 have q := sqE_ok.1 c1
 have qm := mok.1 c2
 rw [c1] at r1
 rw [c2] at r2
 by_cases c3 : comB s = false
 ·rw [if_pos c3] at hE
  rw [liftR_bad hE (by decide)]
  rw [c3] at r3
  clear hE
  simp only [sqD, gD, mD] at *
  simp (disch := omega) only [go_sem, ↓reduceIte]
  refine call_by r1 ?_
  simp (disch := omega) only [go_sem, ↓reduceIte]
  refine call_by r2 ?_
  simp (disch := omega) only [go_sem, ↓reduceIte]
  refine call_by r3 ?_
  simp (disch := omega) only [go_sem, ↓reduceIte]
  simp [sqA, sq0, g0, m0, ints, eds]
 rw [if_neg c3] at hE
 rw [Bool.not_eq_false] at c3
 rw [c3] at r3
 have f1 := q.f.fit q.h
 have r7 := ht s.f s.h (by omega) (by omega) f1.2.1 f1.2.2
 have r4 : FC P (F "square.pull") [gD s.b, gD s.d, gD x, mD s.h, mD m] (.tup [pulD (s.oB x m), .int .i64 (pbErr (s.oB x m))]) [] := ho (s.oB x m)
 have r5 : FC P (F "square.pull") [gD s.c, gD s.d, gD x, mD s.k, mD m] (.tup [pulD (s.oC x m), .int .i64 (pbErr (s.oC x m))]) [] := ho (s.oC x m)
 have r6 : FC P (F "square.pull") [gD s.a, gD s.d, gD x, mD (thenM s.f s.h), mD m] (.tup [pulD (s.oA x m), .int .i64 (pbErr (s.oA x m))]) [] := ho (s.oA x m)
 have p6 := @pbP_ok (s.oA x m)
 have r8 : pbErr (s.oA x m) = 0 → _ := fun h => ht (pbP (s.oA x m)) s.f (by have := ((p6 h).1.fit q.f); omega) (by have := ((p6 h).1.fit q.f); omega) ((p6 h).1.fit q.f).2.1 ((p6 h).1.fit q.f).2.2
 have r9 : pbErr (s.oA x m) = 0 → _ := fun h => ht (pbP (s.oA x m)) s.g (by have := ((p6 h).1.fit q.g); omega) (by have := ((p6 h).1.fit q.g); omega) ((p6 h).1.fit q.g).2.1 ((p6 h).1.fit q.g).2.2
 have r10 := hmd (s.oB x m) (pbG (s.oA x m)) (thenM (pbP (s.oA x m)) s.f) (pbQ (s.oA x m))
 have r11 := hmd (s.oC x m) (pbG (s.oA x m)) (thenM (pbP (s.oA x m)) s.g) (pbQ (s.oA x m))
 have r12 := hcp x (by omega) (by omega)
 have hS : lifS s x m = ⟨pbG (s.oA x m), pbG (s.oB x m), pbG (s.oC x m), x, (lifF s x m).1, (lifG s x m).1, pbQ (s.oB x m), pbQ (s.oC x m)⟩ := rfl
 rw [show medM (s.oB x m) (pbG (s.oA x m)) (thenM (pbP (s.oA x m)) s.f) (pbQ (s.oA x m)) = lifF s x m from rfl] at r10
 rw [show medM (s.oC x m) (pbG (s.oA x m)) (thenM (pbP (s.oA x m)) s.g) (pbQ (s.oA x m)) = lifG s x m from rfl] at r11
 have hok : liftE s x m = 0 → liftR s x m = (lifS s x m, 0) := liftR_ok
 have hbad := fun v => @liftR_bad s x m v
 clear f1 p6 q qm hv hm hc ho ht hmd hcp
 rw [hS] at hok
 clear hS
 simp only [pulD_oA, pulD_oB, pulD_oC, csD_oA, csD_oB, csD_oC] at r4 r5 r6 r10 r11
 generalize lifF s x m = LF at *
 generalize lifG s x m = LG at *
 generalize liftE s x m = le at *
 generalize liftR s x m = R at *
 generalize pbErr (s.oB x m) = eb at *
 generalize pbG (s.oB x m) = gb at *
 generalize pbP (s.oB x m) = pb at *
 generalize pbQ (s.oB x m) = qb at *
 generalize pbErr (s.oC x m) = ec at *
 generalize pbG (s.oC x m) = gc at *
 generalize pbP (s.oC x m) = pc at *
 generalize pbQ (s.oC x m) = qc at *
 generalize pbErr (s.oA x m) = ea at *
 generalize pbG (s.oA x m) = ga at *
 generalize pbP (s.oA x m) = pa at *
 generalize pbQ (s.oA x m) = qa at *
 generalize thenM s.f s.h = fh at *
 generalize thenM pa s.f = tf at *
 generalize thenM pa s.g = tg at *
 obtain ⟨⟨lfn, lfe⟩, lfv⟩ := LF
 obtain ⟨⟨lgn, lge⟩, lgv⟩ := LG
 obtain ⟨gbn, gbe⟩ := gb
 obtain ⟨gcn, gce⟩ := gc
 obtain ⟨gan, gae⟩ := ga
 obtain ⟨fhn, fhe⟩ := fh
 obtain ⟨tfn, tfe⟩ := tf
 obtain ⟨tgn, tge⟩ := tg
 simp only at hE
 simp only [sqD, gD, mD, gA, mA] at r1 r2 r3 r4 r5 r6 r7 r8 r9 r10 r11 r12 ⊢
 by_cases c_eb : eb = 0
 case neg =>
  rw [if_pos c_eb] at hE
  rw [hbad _ hE c_eb]
  simp (disch := omega) only [go_sem, ↓reduceIte]
  refine call_by r1 ?_
  simp (disch := omega) only [go_sem, ↓reduceIte]
  refine call_by r2 ?_
  simp (disch := omega) only [go_sem, ↓reduceIte]
  refine call_by r3 ?_
  simp (disch := omega) only [go_sem, ↓reduceIte]
  refine call_fz r4 ?_
  simp (disch := omega) only [go_sem, ↓reduceIte]
  refine bran_ndec (fun c => ?_) (fun c => absurd c c_eb)
  simp (disch := omega) only [go_sem, ↓reduceIte]
  simp [sqA, sq0, g0, m0, ints, eds]
 rw [if_neg (by simp [c_eb])] at hE
 subst c_eb
 by_cases c_ec : ec = 0
 case neg =>
  rw [if_pos c_ec] at hE
  rw [hbad _ hE c_ec]
  simp (disch := omega) only [go_sem, ↓reduceIte]
  refine call_by r1 ?_
  simp (disch := omega) only [go_sem, ↓reduceIte]
  refine call_by r2 ?_
  simp (disch := omega) only [go_sem, ↓reduceIte]
  refine call_by r3 ?_
  simp (disch := omega) only [go_sem, ↓reduceIte]
  refine call_fz r4 ?_
  simp (disch := omega) only [go_sem, ↓reduceIte]
  refine call_fz r5 ?_
  simp (disch := omega) only [go_sem, ↓reduceIte]
  refine bran_ndec (fun c => ?_) (fun c => absurd c c_ec)
  simp (disch := omega) only [go_sem, ↓reduceIte]
  simp [sqA, sq0, g0, m0, ints, eds]
 rw [if_neg (by simp [c_ec])] at hE
 subst c_ec
 by_cases c_ea : ea = 0
 case neg =>
  rw [if_pos c_ea] at hE
  rw [hbad _ hE c_ea]
  simp (disch := omega) only [go_sem, ↓reduceIte]
  refine call_by r1 ?_
  simp (disch := omega) only [go_sem, ↓reduceIte]
  refine call_by r2 ?_
  simp (disch := omega) only [go_sem, ↓reduceIte]
  refine call_by r3 ?_
  simp (disch := omega) only [go_sem, ↓reduceIte]
  refine call_fz r4 ?_
  simp (disch := omega) only [go_sem, ↓reduceIte]
  refine call_fz r5 ?_
  simp (disch := omega) only [go_sem, ↓reduceIte]
  refine call_by r7 ?_
  simp (disch := omega) only [go_sem, ↓reduceIte]
  refine call_fz r6 ?_
  simp (disch := omega) only [go_sem, ↓reduceIte]
  refine bran_ndec (fun c => ?_) (fun c => absurd c c_ea)
  simp (disch := omega) only [go_sem, ↓reduceIte]
  simp [sqA, sq0, g0, m0, ints, eds]
 rw [if_neg (by simp [c_ea])] at hE
 have t8 := r8 c_ea
 have t9 := r9 c_ea
 clear r8 r9
 subst c_ea
 by_cases c_f : lfv = 0
 case neg =>
  rw [if_pos c_f] at hE
  rw [hbad _ hE c_f]
  simp (disch := omega) only [go_sem, ↓reduceIte]
  refine call_by r1 ?_
  simp (disch := omega) only [go_sem, ↓reduceIte]
  refine call_by r2 ?_
  simp (disch := omega) only [go_sem, ↓reduceIte]
  refine call_by r3 ?_
  simp (disch := omega) only [go_sem, ↓reduceIte]
  refine call_fz r4 ?_
  simp (disch := omega) only [go_sem, ↓reduceIte]
  refine call_fz r5 ?_
  simp (disch := omega) only [go_sem, ↓reduceIte]
  refine call_by r7 ?_
  simp (disch := omega) only [go_sem, ↓reduceIte]
  refine call_fz r6 ?_
  simp (disch := omega) only [go_sem, ↓reduceIte]
  refine call_by t8 ?_
  simp (disch := omega) only [go_sem, ↓reduceIte]
  refine call_by r10 ?_
  simp (disch := omega) only [go_sem, ↓reduceIte]
  refine bran_ndec (fun c => ?_) (fun c => absurd c c_f)
  simp (disch := omega) only [go_sem, ↓reduceIte]
  simp [sqA, sq0, g0, m0, ints, eds]
 rw [if_neg (by simp [c_f])] at hE
 subst c_f
 by_cases c_g : lgv = 0
 case neg =>
  rw [hbad _ hE c_g]
  simp (disch := omega) only [go_sem, ↓reduceIte]
  refine call_by r1 ?_
  simp (disch := omega) only [go_sem, ↓reduceIte]
  refine call_by r2 ?_
  simp (disch := omega) only [go_sem, ↓reduceIte]
  refine call_by r3 ?_
  simp (disch := omega) only [go_sem, ↓reduceIte]
  refine call_fz r4 ?_
  simp (disch := omega) only [go_sem, ↓reduceIte]
  refine call_fz r5 ?_
  simp (disch := omega) only [go_sem, ↓reduceIte]
  refine call_by r7 ?_
  simp (disch := omega) only [go_sem, ↓reduceIte]
  refine call_fz r6 ?_
  simp (disch := omega) only [go_sem, ↓reduceIte]
  refine call_by t8 ?_
  simp (disch := omega) only [go_sem, ↓reduceIte]
  refine call_by r10 ?_
  simp (disch := omega) only [go_sem, ↓reduceIte]
  refine call_by t9 ?_
  simp (disch := omega) only [go_sem, ↓reduceIte]
  refine call_by r11 ?_
  simp (disch := omega) only [go_sem, ↓reduceIte]
  refine bran_ndec (fun c => ?_) (fun c => absurd c c_g)
  simp (disch := omega) only [go_sem, ↓reduceIte]
  simp [sqA, sq0, g0, m0, ints, eds]
 subst c_g
 rw [hok hE]
 simp (disch := omega) only [go_sem, ↓reduceIte]
 refine call_by r1 ?_
 simp (disch := omega) only [go_sem, ↓reduceIte]
 refine call_by r2 ?_
 simp (disch := omega) only [go_sem, ↓reduceIte]
 refine call_by r3 ?_
 simp (disch := omega) only [go_sem, ↓reduceIte]
 refine call_fz r4 ?_
 simp (disch := omega) only [go_sem, ↓reduceIte]
 refine call_fz r5 ?_
 simp (disch := omega) only [go_sem, ↓reduceIte]
 refine call_by r7 ?_
 simp (disch := omega) only [go_sem, ↓reduceIte]
 refine call_fz r6 ?_
 simp (disch := omega) only [go_sem, ↓reduceIte]
 refine call_by t8 ?_
 simp (disch := omega) only [go_sem, ↓reduceIte]
 refine call_by r10 ?_
 simp (disch := omega) only [go_sem, ↓reduceIte]
 refine call_by t9 ?_
 simp (disch := omega) only [go_sem, ↓reduceIte]
 refine call_by r11 ?_
 simp (disch := omega) only [go_sem, ↓reduceIte]
 refine call_by r12 ?_
 simp (disch := omega) only [go_sem, ↓reduceIte]
 try rfl
end
end Go.Am
