/- Pushouts: the program's and the reference's functions. -/
import Derived.Test.YtelmgaflhmcihaaGreatSpPa
import Derived.Test.YtelmgaflhmcihaaGreatSpPb
import Derived.Test.YtelmgaflhmcihaaGreatSpPc
import Derived.Test.YtelmgaflhmcihaaGreatSpPd
import Derived.Test.YtelmgaflhmcihaaGreatSpPe
import Derived.Test.YtelmgaflhmcihaaGreatSpXa
namespace Go.Am
open Go
set_option linter.unusedVariables false
set_option linter.unusedSimpArgs false
attribute [local irreducible] W
@[go_sem] def c_r10_Span_r0 : LL := [qB 1 0,qi 2 0]
@[go_sem] def c_r10_Span_r1 (F : Fn) : LL := [qf 4 0 1,qL 5 2 4,qf 6 2 1,qL 7 2 6,qf 8 6 1,qL 9 2 8,qc 10 (F "r06.Valid") [.t 5,.t 7,.t 9],qm 3 10]
@[go_sem] def c_r10_Span_r2 : LL := [qm 11 3,qk .neq 12 11 0]
@[go_sem] def c_r10_Span_r3 : LL := [qm 13 3,qm 2 13]
@[go_sem] def c_r10_Span_r4 (F : Fn) : LL := [qf 14 0 1,qL 15 2 14,qf 16 4 1,qL 17 2 16,qf 18 8 1,qL 19 2 18,qc 20 (F "r06.Valid") [.t 15,.t 17,.t 19],qm 2 20]
@[go_sem] def c_r10_Span (F : Fn) : LC := (.seq (.reg c_r10_Span_r0 [1]) (.seq (.seq (.reg (c_r10_Span_r1 F) [1,3]) (.seq (.reg c_r10_Span_r2 [1,3,12]) (.cond (.t 12) (.seq (.reg c_r10_Span_r3 [2]) .ret) .skip))) (.seq (.reg (c_r10_Span_r4 F) [2]) .ret)))
def h_r10_Span : Hints := hOf [] (c_r10_Span fun _ => 0)
@[go_sem] def c_r10_Of_r0 : LL := [qB 1 0,qa 2 [.nl 1,.nl 3],qa 3 [.nl 1,.nl 1],qa 4 [.nl 1,.nl 1],qi 5 0]
@[go_sem] def c_r10_Of_r1 (F : Fn) : LL := [qL 13 10 1,qc 14 (F "r10.Span") [.t 13],qm 6 14]
@[go_sem] def c_r10_Of_r2 : LL := [qm 15 6,qk .neq 16 15 0]
@[go_sem] def c_r10_Of_r3 : LL := [qu 17 [.nl 1,.nl 3] [],qu 18 [.nl 1,.nl 1] [],qu 19 [.nl 1,.nl 1] [],qm 20 6,qs 2 2 17,qs 2 3 18,qs 2 4 19,qm 5 20]
@[go_sem] def c_r10_Of_r4 (F : Fn) : LL := [qf 22 2 1,qL 23 2 22,qf 24 4 1,qL 25 2 24,qc 26 (F "r05.Union") [.t 23,.t 25],qm 21 26,qx 27 21 0,qx 28 21 1,qx 29 21 2,qx 30 21 3,qa 7 [.nl 1,.nl 3],qa 8 [.nl 1,.nl 1],qa 9 [.nl 1,.nl 1],
 qs 2 7 27,qs 2 8 28,qs 2 9 29,qm 10 30]
@[go_sem] def c_r10_Of_r5 : LL := [qm 31 10,qk .neq 32 31 0]
@[go_sem] def c_r10_Of_r6 : LL := [qu 33 [.nl 1,.nl 3] [],qu 34 [.nl 1,.nl 1] [],qu 35 [.nl 1,.nl 1] [],qm 36 10,qs 2 2 33,qs 2 3 34,qs 2 4 35,qm 5 36]
@[go_sem] def c_r10_Of_r7 (F : Fn) : LL := [qL 38 2 7,qf 39 6 1,qL 40 2 39,qL 41 2 8,qc 42 (F "r06.Then") [.t 40,.t 41],qf 43 8 1,qL 44 2 43,qL 45 2 9,qc 46 (F "r06.Then") [.t 44,.t 45],qc 47 (F "r10.glue") [.t 38,.t 42,.t 46],qm 37 47,qx 48 37 0,
 qx 49 37 1,qa 11 [.nl 1,.nl 3],qa 12 [.nl 1,.nl 1],qs 2 11 48,qs 2 12 49]
@[go_sem] def c_r10_Of_r8 (F : Fn) : LL := [qL 50 2 11,qL 51 2 8,qL 52 2 12,qc 53 (F "r06.Then") [.t 51,.t 52],qL 54 2 9,qL 55 2 12,qc 56 (F "r06.Then") [.t 54,.t 55],qs 2 2 50,qs 2 3 53,qs 2 4 56,qi 5 0]
@[go_sem] def c_r10_Of (F : Fn) : LC := (.seq (.reg c_r10_Of_r0 [1,2,3,4]) (.seq (.seq (.reg (c_r10_Of_r1 F) [1,2,3,4,6]) (.seq (.reg c_r10_Of_r2 [1,2,3,4,6,16]) (.cond (.t 16) (.seq (.reg c_r10_Of_r3 [2,3,4,5]) .ret) .skip))) (.seq (.reg (c_r10_Of_r4 F) [1,2,3,4,7,8,9,10]) (.seq (.seq (.reg c_r10_Of_r5 [1,2,3,4,7,8,9,10,32]) (.cond (.t 32) (.seq (.reg c_r10_Of_r6 [2,3,4,5]) .ret) .skip)) (.seq (.dreg [(0,none,[],true),(4,none,[0],true),(6,(some 32),[4],false),(7,(some 0),[4],false),(8,none,[0],false)] (c_r10_Of_r7 F) [2,3,4,8,9,11,12]) (.seq (.dreg [(0,none,[],true),(3,none,[0],true),(4,(some 0),[3],false),(5,(some 0),[3],false),(6,none,[0],false)] (c_r10_Of_r8 F) [2,3,4,5]) .ret))))))
def h_r10_Of : Hints := hOf [] (c_r10_Of fun _ => 0)
section
variable (P : Program) (F : String → Nat)
def K_r10_Span : Prop := ∀ s : Sp, FC P (F "r10.Span") [spD s] (.int .i64 (spE s)) []
def K_r10_Of : Prop := ∀ s : Sp, FC P (F "r10.Of") [spD s] (poD (poR s)) []
end
section
variable {P : Program} {F : String → Nat} {α : Type}
theorem w_r10_Span (hv : K_r06_Valid P F) (s : Sp) : W P (c_r10_Span F) (Done [.t 2] [] (.int .i64 (spE s)) []) (init [spD s]) := by
 refine W_of ?_
 have r1 := hv s.a s.b s.f
 have r2 := hv s.a s.c s.g
 have : spE s = if validM s.a s.b s.f ≠ 0 then validM s.a s.b s.f else validM s.a s.c s.g := rfl
 rw [this]
 generalize validM s.a s.b s.f = u at *
 generalize validM s.a s.c s.g = v at *
 simp only [gD, mD] at r1 r2
 simp (disch := omega) only [go_sem, ↓reduceIte, spD]
 refine call_by r1 ?_
 simp (disch := omega) only [go_sem, ↓reduceIte]
 refine bran_ndec (fun c => ?_) (fun c => ?_)
 ·simp (disch := omega) only [go_sem, ↓reduceIte]
  try simp [c]
 ·subst c
  simp (disch := omega) only [go_sem, ↓reduceIte]
  refine call_by r2 ?_
  simp (disch := omega) only [go_sem, ↓reduceIte]
  try simp
set_option maxHeartbeats 1000000 in
theorem w_r10_Of (hp : K_r10_Span P F) (hu : K_r05_Union P F) (ht : K_r06_Then P F) (hg : K_r10_glue P F) (s : Sp) : W P (c_r10_Of F) (Done [.c 2 true 2, .c 3 true 2, .c 4 true 2, .t 5] [] (poD (poR s)) []) (init [spD s]) := by
 refine W_of ?_
 have r0 := hp s
 by_cases he : spE s = 0
 ·obtain ⟨hf, hgg⟩ := spE_ok.1 he
  rw [he] at r0
  have r1 := hu s.b s.c
  rw [uniG_ok hf.vb hgg.vb] at r1
  by_cases hb : Big s.b s.c
  ·rw [if_pos hb] at r1
   rw [poR_big he hb]
   simp only [uniD, gD, gA, mA, g0, m0, spD] at *
   simp (disch := omega) only [go_sem, ↓reduceIte]
   refine call_by r0 ?_
   simp (disch := omega) only [go_sem, ↓reduceIte]
   refine call_by r1 ?_
   simp (disch := omega) only [go_sem, ↓reduceIte]
   refine bran_ndec (fun _ => ?_) (fun h => absurd h (by decide))
   simp (disch := omega) only [go_sem, ↓reduceIte]
   simp [poD, g0, m0, gA, mA, ints, eds]
  ·rw [if_neg hb] at r1
   have hs : SOk s := ⟨hf, hgg, hb⟩
   rw [poR_ok hs]
   have il := inL_ok hf.vb hgg.vb hb
   have ir := inR_ok hf.vb hgg.vb hb
   have va := valid_spec hf.va
   have vb := valid_spec hf.vb
   have vc := valid_spec hgg.vb
   have ln := hf.ln
   have le := hf.le
   have mn := hgg.ln
   have me := hgg.le
   have bf := validM_bd (mok.2 hf)
   have bg := validM_bd (mok.2 hgg)
   have bi := validM_bd (mok.2 il)
   have br := validM_bd (mok.2 ir)
   have iln := il.ln
   have ile := il.le
   have irn := ir.ln
   have ire := ir.le
   have t1 := ht s.f (idM s.b) (by omega) (by omega) (by rw [iln]; exact bf.1) (by rw [ile]; exact bf.2)
   have t2 := ht s.g (inR s.b s.c) (by omega) (by omega) (by rw [irn]; exact bg.1) (by rw [ire]; exact bg.2)
   have q := hg s.a (unG s.b s.c) (poF s) (poH s) hs.uF hs.uH
   rw [show gluG (unG s.b s.c) (poF s) (poH s) = poG s from rfl, show gluM (unG s.b s.c) (poF s) (poH s) = poQ s from rfl] at q
   have qn := hs.q.ln
   have qe := hs.q.le
   have t3 := ht (idM s.b) (poQ s) (by omega) (by omega) (by rw [qn]; exact bi.1) (by rw [qe]; exact bi.2)
   have t4 := ht (inR s.b s.c) (poQ s) (by omega) (by omega) (by rw [qn]; exact br.1) (by rw [qe]; exact br.2)
   rw [show thenM (idM s.b) (poQ s) = poP s from rfl] at t3
   rw [show thenM (inR s.b s.c) (poQ s) = poK s from rfl] at t4
   rw [show thenM s.f (idM s.b) = poF s from rfl] at t1
   rw [show thenM s.g (inR s.b s.c) = poH s from rfl] at t2
   clear bf bg bi br il ir hs va vb vc hf hgg he hb iln ile irn ire qn qe
   generalize poG s = d at *
   generalize poQ s = qq at *
   generalize poP s = pp at *
   generalize poK s = kk at *
   generalize poF s = ff at *
   generalize poH s = hh at *
   generalize unG s.b s.c = uu at *
   generalize idM s.b = ii at *
   generalize inR s.b s.c = jj at *
   obtain ⟨dn, de⟩ := d
   obtain ⟨un, ue⟩ := uu
   obtain ⟨qn, qe⟩ := qq
   obtain ⟨pn, pe⟩ := pp
   obtain ⟨kn, ke⟩ := kk
   obtain ⟨i1, i2⟩ := ii
   obtain ⟨j1, j2⟩ := jj
   obtain ⟨f1, f2⟩ := ff
   obtain ⟨h1, h2⟩ := hh
   simp only [uniD, gD, gA, mD, mA, spD, poD] at *
   simp (disch := omega) only [go_sem, ↓reduceIte]
   refine call_by r0 ?_
   simp (disch := omega) only [go_sem, ↓reduceIte]
   refine call_by r1 ?_
   simp (disch := omega) only [go_sem, ↓reduceIte]
   refine call_by t1 ?_
   simp (disch := omega) only [go_sem, ↓reduceIte]
   refine call_by t2 ?_
   simp (disch := omega) only [go_sem, ↓reduceIte]
   refine call_by q ?_
   simp (disch := omega) only [go_sem, ↓reduceIte]
   refine call_by t3 ?_
   simp (disch := omega) only [go_sem, ↓reduceIte]
   refine call_by t4 ?_
   simp (disch := omega) only [go_sem, ↓reduceIte]
   try rfl
 ·have : poR s = (g0, m0, m0, spE s) := by
   have : poErr s = spE s := by unfold poErr; rw [if_pos he]
   unfold poR; rw [this, if_neg he]
  rw [this]
  generalize spE s = e at *
  simp only [spD] at *
  simp (disch := omega) only [go_sem, ↓reduceIte]
  refine call_by r0 ?_
  simp (disch := omega) only [go_sem, ↓reduceIte, he]
  simp [poD, g0, m0, gA, mA, ints, eds]
end
@[go_sem] def c_r06_Image_r0 : LL := [qB 2 0,qa 4 [.nl 1,.nl 3],qa 5 [.nl 1,.nl 1]]
@[go_sem] def c_r06_Image_r1 (F : Fn) : LL := [qm 20 1,qc 21 (F "r06.numbers") [.t 20],qm 6 21]
@[go_sem] def c_r06_Image_r2 (F : Fn) : LL := [qf 22 0 2,ql 23 1 22,qz 24 23,qc 25 (F "r02.Finest") [.t 24],qm 7 25]
@[go_sem] def c_r06_Image_r3 : LL := [qi 8 1]
@[go_sem] def c_r06_Image_r4 : LL := [qm 26 8,qf 27 0 2,ql 28 1 27,qz 29 28,qo .lss 30 26 29]
@[go_sem] def c_r06_Image_r5 : LL := [qm 33 6,qm 34 8,qm 35 6,qz 36 35,qo .rem 37 34 36,qd 38 1 33 37,ql 39 1 38,qm 40 8,qk .add 41 40 1,qo .rem 42 39 41,qm 9 42]
@[go_sem] def c_r06_Image_r6 : LL := [qm 43 9,qm 44 8,qo .lss 45 43 44,qm 46 45,qg 46 true (qf 47 0 2),qg 46 true (ql 48 1 47),qg 46 true (qm 49 9),qg 46 true (qd 50 1 48 49),qg 46 true (ql 51 1 50),
 qg 46 true (qf 52 0 2),qg 46 true (ql 53 1 52),qg 46 true (qm 54 8),qg 46 true (qd 55 1 53 54),qg 46 true (ql 56 1 55),qg 46 true (qo .eql 57 51 56),qP 58 46 57]
@[go_sem] def c_r06_Image_r7 (F : Fn) : LL := [qm 59 7,qm 60 9,qm 61 8,qc 62 (F "r02.Merge") [.t 59,.t 60,.t 61],qm 7 62]
@[go_sem] def c_r06_Image_r8 : LL := [qm 31 8,qk .add 32 31 1,qm 8 32]
def c_r06_Image_b9 (F : Fn) : LC := (.seq (.seq (.reg c_r06_Image_r4 [2,4,5,6,7,8,30]) (.cond (.t 30) .skip (.exit 0))) (.seq (.block 1 (.seq (.reg c_r06_Image_r5 [2,4,5,6,7,8,9]) (.seq (.dreg [] c_r06_Image_r6 [2,4,5,6,7,8,9,58]) (.cond (.t 58) (.reg (c_r06_Image_r7 F) [2,4,5,6,7,8]) .skip)))) (.reg c_r06_Image_r8 [2,4,5,6,7,8])))
@[go_sem] def c_r06_Image_r10 (F : Fn) : LL := [qm 64 7,qc 65 (F "r02.Quotient") [.t 64],qm 63 65,qx 66 63 0,qx 67 63 1,qx 68 63 2,qm 10 66,qm 11 67,qm 12 68]
@[go_sem] def c_r06_Image_r11 : LL := [qm 69 11,⟨some 70,.makeSl 1 8 (.int .i64 (0)) (.t 69),none⟩,qu 71 [.nl 1,.nl 3] [(0,1,.t 70)],qa 13 [.nl 1,.nl 3],qs 2 13 71]
@[go_sem] def c_r06_Image_r12 : LL := [qm 72 10,qu 73 [.nl 1,.nl 1] [(0,1,.t 72)],qa 14 [.nl 1,.nl 1],qs 2 14 73]
@[go_sem] def c_r06_Image_r13 : LL := [qi 15 0]
@[go_sem] def c_r06_Image_r14 : LL := [qm 74 15,qf 75 0 2,ql 76 1 75,qz 77 76,qo .lss 78 74 77]
@[go_sem] def c_r06_Image_r15 : LL := [qf 81 0 13,ql 82 1 81,qm 83 10,qm 84 15,qd 85 1 83 84,ql 86 1 85,qf 87 0 2,ql 88 1 87,qm 89 15,qd 90 1 88 89,ql 91 1 90,qd 92 1 82 86,qs 1 92 91]
@[go_sem] def c_r06_Image_r16 : LL := [qm 79 15,qk .add 80 79 1,qm 15 80]
def c_r06_Image_b17 : LC := (.seq (.seq (.reg c_r06_Image_r14 [2,4,5,6,10,13,14,15,78]) (.cond (.t 78) .skip (.exit 2))) (.seq (.block 3 (.dreg [] c_r06_Image_r15 [2,4,5,6,10,13,14,15])) (.reg c_r06_Image_r16 [2,4,5,6,10,13,14,15])))
@[go_sem] def c_r06_Image_r18 : LL := [qi 16 0]
@[go_sem] def c_r06_Image_r19 : LL := [qm 93 16,qf 94 1 2,ql 95 1 94,qz 96 95,qo .lss 97 93 96]
@[go_sem] def c_r06_Image_r20 : LL := [qf 100 1 2,ql 101 1 100,qm 102 16,qd 103 3 101 102,qf 104 0 103,ql 105 1 104,qm 106 10,qf 107 1 2,ql 108 1 107,qm 109 16,qd 110 3 108 109,qf 111 1 110,ql 112 1 111,qd 113 1 106 112,
 ql 114 1 113,qm 115 10,qf 116 1 2,ql 117 1 116,qm 118 16,qd 119 3 117 118,qf 120 2 119,ql 121 1 120,qd 122 1 115 121,ql 123 1 122,
 qu 124 [.int .i64 (0),.int .i64 (0),.int .i64 (0)] [(0,1,.t 105),(1,1,.t 114),(2,1,.t 123)],qa 17 [.int .i64 (0),.int .i64 (0),.int .i64 (0)],qs 3 17 124]
@[go_sem] def c_r06_Image_r21 : LL := [qi 18 (-1)]
@[go_sem] def c_r06_Image_r22 : LL := [qi 19 0]
@[go_sem] def c_r06_Image_r23 : LL := [qm 125 19,qf 126 1 13,ql 127 1 126,qz 128 127,qo .lss 129 125 128]
@[go_sem] def c_r06_Image_r24 : LL := [qf 132 1 13,ql 133 1 132,qm 134 19,qd 135 3 133 134,qL 136 3 135,qL 137 3 17,⟨some 138,.eqA 3 false (.t 136) (.t 137),none⟩,qm 139 138,qg 139 true (qm 140 6),
 qg 139 true (qm 141 16),qg 139 true (qm 142 19),qg 139 true (qo .add 143 141 142),qg 139 true (qm 144 6),qg 139 true (qz 145 144),qg 139 true (qo .rem 146 143 145),
 qg 139 true (qd 147 1 140 146),qg 139 true (ql 148 1 147),qg 139 true (qk .rem 149 148 2),qg 139 true (qk .eql 150 149 0),qP 151 139 150]
@[go_sem] def c_r06_Image_r25 : LL := [qm 152 19,qm 18 152]
@[go_sem] def c_r06_Image_r26 : LL := [qm 130 19,qk .add 131 130 1,qm 19 131]
def c_r06_Image_b27 : LC := (.seq (.seq (.reg c_r06_Image_r23 [2,4,5,6,10,13,14,16,17,18,19,129]) (.cond (.t 129) .skip (.exit 6))) (.seq (.block 7 (.seq (.dreg [] c_r06_Image_r24 [2,4,5,6,10,13,14,16,17,18,19,151]) (.cond (.t 151) (.reg c_r06_Image_r25 [2,4,5,6,10,13,14,16,17,18,19]) .skip))) (.reg c_r06_Image_r26 [2,4,5,6,10,13,14,16,17,18,19])))
@[go_sem] def c_r06_Image_r28 : LL := [qm 153 18,qk .lss 154 153 0]
@[go_sem] def c_r06_Image_r29 : LL := [qf 155 1 13,ql 156 1 155,qz 157 156,qm 18 157]
@[go_sem] def c_r06_Image_r30 : LL := [qf 158 1 13,ql 159 1 158,qL 160 3 17,⟨some 161,.buildSl 3 24 (.agg [.int .i64 (0),.int .i64 (0),.int .i64 (0)]) 1 [(0,.t 160)],none⟩,qp 162 3 24 159 161,qf 163 1 13,
 qs 1 163 162]
@[go_sem] def c_r06_Image_r31 : LL := [qf 164 1 14,ql 165 1 164,qm 166 18,⟨some 167,.buildSl 1 8 (.int .i64 (0)) 1 [(0,.t 166)],none⟩,qp 168 1 8 165 167,qf 169 1 14,qs 1 169 168]
@[go_sem] def c_r06_Image_r32 : LL := [qm 98 16,qk .add 99 98 1,qm 16 99]
def c_r06_Image_b33 : LC := (.seq (.seq (.reg c_r06_Image_r19 [2,4,5,6,10,13,14,16,97]) (.cond (.t 97) .skip (.exit 4))) (.seq (.block 5 (.seq (.dreg [] c_r06_Image_r20 [2,4,5,6,10,13,14,16,17]) (.seq (.reg c_r06_Image_r21 [2,4,5,6,10,13,14,16,17,18]) (.seq (.seq (.reg c_r06_Image_r22 [2,4,5,6,10,13,14,16,17,18,19]) (.block 6 (.loop [2,4,5,6,10,13,14,16,17,18,19] c_r06_Image_b27))) (.seq (.seq (.reg c_r06_Image_r28 [2,4,5,6,10,13,14,16,17,18,154]) (.cond (.t 154) (.seq (.reg c_r06_Image_r29 [2,4,5,6,10,13,14,16,17,18]) (.reg c_r06_Image_r30 [2,4,5,6,10,13,14,16,18])) .skip)) (.reg c_r06_Image_r31 [2,4,5,6,10,13,14,16])))))) (.reg c_r06_Image_r32 [2,4,5,6,10,13,14,16])))
@[go_sem] def c_r06_Image_r34 : LL := [qL 170 2 13,qL 171 2 14,qs 2 4 170,qs 2 5 171]
@[go_sem] def c_r06_Image (F : Fn) : LC := (.seq (.reg c_r06_Image_r0 [1,2,4,5]) (.seq (.reg (c_r06_Image_r1 F) [2,4,5,6]) (.seq (.reg (c_r06_Image_r2 F) [2,4,5,6,7]) (.seq (.seq (.reg c_r06_Image_r3 [2,4,5,6,7,8]) (.block 0 (.loop [2,4,5,6,7,8] (c_r06_Image_b9 F)))) (.seq (.reg (c_r06_Image_r10 F) [2,4,5,6,10,11]) (.seq (.reg c_r06_Image_r11 [2,4,5,6,10,13]) (.seq (.reg c_r06_Image_r12 [2,4,5,6,10,13,14]) (.seq (.seq (.reg c_r06_Image_r13 [2,4,5,6,10,13,14,15]) (.block 2 (.loop [2,4,5,6,10,13,14,15] c_r06_Image_b17))) (.seq (.seq (.reg c_r06_Image_r18 [2,4,5,6,10,13,14,16]) (.block 4 (.loop [2,4,5,6,10,13,14,16] c_r06_Image_b33))) (.seq (.dreg [(1,none,[],true),(2,none,[1],false)] c_r06_Image_r34 [4,5]) .ret))))))))))
def h_r06_Image : Hints := hn [] [(0,[1,2,4,5]),(1,[2,4,5,6]),(2,[2,4,5,6,7]),(3,[2,4,5,6,7,8]),(4,[2,4,5,6,7,8,30]),(5,[2,4,5,6,7,8]),(6,[2,4,5,6,7,8,9]),(7,[2,4,5,6,7,8,9,58]),(8,[2,4,5,6,7,8]),(9,[2,4,5,6,10,11]),(10,[2,4,5,6,10,13]),(11,[2,4,5,6,10,13,14]),(12,[2,4,5,6,10,13,14,15]),(13,[2,4,5,6,10,13,14,15,78]),(14,[2,4,5,6,10,13,14,15]),(15,[2,4,5,6,10,13,14,15]),(16,[2,4,5,6,10,13,14,16]),(17,[2,4,5,6,10,13,14,16,97]),(18,[2,4,5,6,10,13,14,16]),(19,[2,4,5,6,10,13,14,16,17]),(20,[2,4,5,6,10,13,14,16,17,18]),(21,[2,4,5,6,10,13,14,16,17,18,19]),(22,[2,4,5,6,10,13,14,16,17,18,19,129]),(23,[2,4,5,6,10,13,14,16,17,18,19]),(24,[2,4,5,6,10,13,14,16,17,18,19,151]),(25,[2,4,5,6,10,13,14,16,17,18,19]),(26,[2,4,5,6,10,13,14,16,17,18,154]),(27,[2,4,5,6,10,13,14,16,17,18]),(28,[2,4,5,6,10,13,14,16,18]),(29,[2,4,5,6,10,13,14,16]),(30,[4,5])] [(4,[2,4,5,6,7,8]),(13,[2,4,5,6,10,13,14,15]),(17,[2,4,5,6,10,13,14,16]),(22,[2,4,5,6,10,13,14,16,17,18,19])]
section
variable (P : Program) (F : String → Nat)
def K_r06_Image : Prop := ∀ (g : G) (l : List Int), validG g = 0 → l.length ≤ 2000000 → (∀ v ∈ l, Byte v) → FC P (F "r06.Image") [gD g, .lst 1 (u8s l)] (.tup [gA (imG g l), mA (imMo g l)]) []
end
section
variable {P : Program} {F : String → Nat} {α : Type}
theorem codeL_le {l : List Int} (h : l.length ≤ 2000000) : (codeL l).length ≤ 2000000 := by
 unfold codeL
 split
 ·simp
 ·exact h
set_option maxRecDepth 100000 in
set_option maxHeartbeats 4000000 in
theorem w_r06_Image (hn : K_r06_numbers P F) (hfi : K_r02_Finest P F) (hm : K_r02_Merge P F) (hq : K_r02_Quotient P F) (g : G) (l : List Int) (hv : validG g = 0) (hl : l.length ≤ 2000000) (hb : ∀ v ∈ l, Byte v) :
  W P (c_r06_Image F) (Done [.c 4 true 2, .c 5 true 2] [] (.tup [gA (imG g l), mA (imMo g l)]) []) (init [gD g, .lst 1 (u8s l)]) := by
 refine W_of ?_
 have r1 := hn l hl hb
 have vs := valid_spec hv
 have r2 := hfi g.n.length (by omega)
 have hG : imG g l = ⟨outN g (imgQ g l) (imgC g l) g.n.length, (imgE g (imgQ g l) (codeL l) g.e.length).1⟩ := rfl
 have hM : imMo g l = ⟨imgQ g l, (imgE g (imgQ g l) (codeL l) g.e.length).2⟩ := rfl
 have hP : imgP g l = part g (codeL l) (g.n.length - 1) := rfl
 have hQV : QV g g.n.length (imgQ g l, imgC g l) := quo_QV (part_PV (codeL_len l) (codeL_ok hb) _ (Nat.le_refl _)) _ (Nat.le_refl _)
 have hQ : (quo (part g (codeL l) (g.n.length - 1)) g.n.length) = (imgQ g l, imgC g l) := rfl
 have hpv : ∀ k : Nat, k ≤ g.n.length - 1 → PV g (part g (codeL l) k) := part_PV (codeL_len l) (codeL_ok hb)
 have hkb := key_bd (codeL_len l) (codeL_ok hb)
 have hcl := codeL_len l
 have hcm := codeL_le hl
 have hcb := codeL_ok hb
 have hEV : ∀ n : Nat, n ≤ g.e.length → EV g (imgQ g l) (imgC g l) n (imgE g (imgQ g l) (codeL l) n) := imgE_EV hv hQV.b
 generalize imG g l = ig at *
 generalize imMo g l = im at *
 generalize imgP g l = ip at *
 generalize imgQ g l = q at *
 generalize imgC g l = qc at *
 generalize codeL l = c at *
 have en : g.n = g.n := rfl
 obtain ⟨gn, ge⟩ := g
 simp only [gD, gA, mA] at *
 simp (disch := omega) only [go_sem, ↓reduceIte]
 refine call_by r1 ?_
 simp (disch := omega) only [go_sem, ↓reduceIte]
 refine call_by r2 ?_
 simp (disch := omega) only [go_sem, ↓reduceIte]
 refine W_loop (fun k : Nat => ⟨[(2, .pt 0 0), (4, .pt 3 0), (5, .pt 6 0), (6, .sl 7 0 c.length), (7, .sl 8 0 gn.length), (8, .int .i64 ((k : Int) + 1))],
  [(0, .box [.lst 1 (ints gn), .lst 3 (eds ge)]), (1, .arr 1 []), (2, .arr 3 []), (3, .box [.sl 1 0 0, .sl 2 0 0]), (4, .arr 1 []), (5, .arr 1 []), (6, .box [.sl 4 0 0, .sl 5 0 0]), (7, .arr 1 (ints c)), (8, .arr 1 (ints (part ⟨gn, ge⟩ c k)))], 9⟩)
  (fun k => k ≤ gn.length - 1) (fun k => gn.length - k) 0 ?_ ?_ ?_
 ·simp (disch := omega) only [go_sem, ↓reduceIte, part]
  simp only [nums_len]
  rfl
 ·omega
 ·intro k hk
  have pv := hpv k hk
  have hpl := pv.l
  simp only at hpl
  by_cases f : k + 1 < gn.length
  ·have g1 : decide ((k : Int) + 1 < gn.length) = true := decide_eq_true (by omega)
   have b1 := tmod_bd (x := (k : Int) + 1) (m := (c.length : Int)) (by omega) (by omega)
   have b2 := hkb (k + 1)
   have z1 : ¬ ((c.length : Int) = 0) := by omega
   have z2 : ¬ ((k : Int) + 1 + 1 = 0) := by omega
   have hky : (gt c (((k : Int) + 1).tmod c.length)).tmod ((k : Int) + 1 + 1) = keyI c (k + 1) := rfl
   have hs : part ⟨gn, ge⟩ c (k + 1) = if keyI c (k + 1) < ((k : Int) + 1) ∧ gt gn (keyI c (k + 1)) = gt gn ((k : Int) + 1) then mergeL (part ⟨gn, ge⟩ c k) (keyI c (k + 1)) ((k : Int) + 1) else part ⟨gn, ge⟩ c k := rfl
   generalize keyI c (k + 1) = ky at *
   generalize hkd : ((k : Int) + 1).tmod c.length = kd at *
   generalize part ⟨gn, ge⟩ c k = p at *
   generalize hp' : part ⟨gn, ge⟩ c (k + 1) = p' at *
   by_cases c1 : ky < (k : Int) + 1
   ·have g2 : decide (ky < (k : Int) + 1) = true := decide_eq_true c1
    by_cases c2 : gt gn ky = gt gn ((k : Int) + 1)
    ·have g3 : decide (gt gn ky = gt gn ((k : Int) + 1)) = true := decide_eq_true c2
     rw [if_pos ⟨c1, c2⟩] at hs
     obtain ⟨m, rfl⟩ : ∃ m : Nat, ky = m := ⟨ky.toNat, by omega⟩
     have r := hm p m (k + 1) (by omega) (by omega) (by omega)
     rw [show ((k + 1 : Nat) : Int) = (k : Int) + 1 from rfl] at r
     have ml := merge_len p m ((k : Int) + 1)
     rw [← hs] at r ml
     clear hs
     simp (disch := omega) only [go_sem, ↓reduceIte, c_r06_Image_b9, g1, g2, g3, z1, z2, hkd, hky]
     refine call_by r ?_
     simp (disch := omega) only [go_sem, ↓reduceIte, ml, hpl]
     exact ⟨k + 1, by simp [hp'], by omega, by omega⟩
    ·have g3 : decide (gt gn ky = gt gn ((k : Int) + 1)) = false := decide_eq_false c2
     rw [if_neg (fun h => c2 h.2)] at hs
     subst hs
     simp (disch := omega) only [go_sem, ↓reduceIte, c_r06_Image_b9, g1, g2, g3, z1, z2, hkd, hky]
     exact ⟨k + 1, by simp [hp'], by omega, by omega⟩
   ·have g2 : decide (ky < (k : Int) + 1) = false := decide_eq_false c1
    rw [if_neg (fun h => c1 h.1)] at hs
    subst hs
    simp (disch := omega) only [go_sem, ↓reduceIte, c_r06_Image_b9, g1, g2, z1, z2, hkd, hky]
    exact ⟨k + 1, by simp [hp'], by omega, by omega⟩
  ·have g1 : decide ((k : Int) + 1 < gn.length) = false := decide_eq_false (by omega)
   obtain rfl : k = gn.length - 1 := by omega
   have r3 := hq (part ⟨gn, ge⟩ c (gn.length - 1)) ⟨by omega, fun i hi => ⟨(pv.h i (by simp only; omega)).1, (pv.h i (by simp only; omega)).2.1⟩⟩
   rw [hpl] at r3
   rw [hQ] at r3
   simp only at r3
   have hql := hQV.l
   have hqb := hQV.b
   have hqc := hQV.c
   simp only at hql hqb hqc
   clear hQ hkb hpv
   generalize part ⟨gn, ge⟩ c (gn.length - 1) = p at *
   simp (disch := omega) only [go_sem, ↓reduceIte, c_r06_Image_b9, g1, hpl]
   refine call_by r3 ?_
   simp (disch := omega) only [go_sem, ↓reduceIte, hql]
   have ol := outN_len ⟨gn, ge⟩ q qc
   refine W_loop (fun i : Nat => ⟨[(2, .pt 0 0), (4, .pt 3 0), (5, .pt 6 0), (6, .sl 7 0 c.length), (10, .sl 8 0 gn.length), (13, .pt 11 0), (14, .pt 13 0), (15, .int .i64 i)],
    [(0, .box [.lst 1 (ints gn), .lst 3 (eds ge)]), (1, .arr 1 []), (2, .arr 3 []), (3, .box [.sl 1 0 0, .sl 2 0 0]), (4, .arr 1 []), (5, .arr 1 []), (6, .box [.sl 4 0 0, .sl 5 0 0]), (7, .arr 1 (ints c)), (8, .arr 1 (ints q)),
     (9, .arr 1 (ints (outN ⟨gn, ge⟩ q qc i))), (10, .arr 3 []), (11, .box [.sl 9 0 qc, .sl 10 0 0]), (12, .arr 1 []), (13, .box [.sl 8 0 gn.length, .sl 12 0 0])], 14⟩)
    (fun i => i ≤ gn.length) (fun i => gn.length - i) 0 ?_ ?_ ?_
   ·simp (disch := omega) only [go_sem, ↓reduceIte, outN, hql]
    rfl
   ·omega
   ·intro i hi
    have oli := ol i
    by_cases f : i < gn.length
    ·have g1 : decide ((i : Int) < gn.length) = true := decide_eq_true (by omega)
     have hs : outN ⟨gn, ge⟩ q qc (i + 1) = (outN ⟨gn, ge⟩ q qc i).set (gt q i).toNat (gt gn i) := rfl
     have b1 := hqb i f
     simp (disch := omega) only [go_sem, ↓reduceIte, c_r06_Image_b17, g1, hql, oli]
     exact ⟨i + 1, by simp [hs], by omega, by omega⟩
    ·have g1 : decide ((i : Int) < gn.length) = false := decide_eq_false (by omega)
     obtain rfl : i = gn.length := by omega
     simp (disch := omega) only [go_sem, ↓reduceIte, c_r06_Image_b17, g1, hql, oli]
     generalize outN ⟨gn, ge⟩ q qc gn.length = ou at *
     have hel : ge.length ≤ 80 := vs.2.1
     refine W_loop (fun i : Nat => ⟨[(2, .pt 0 0), (4, .pt 3 0), (5, .pt 6 0), (6, .sl 7 0 c.length), (10, .sl 8 0 gn.length), (13, .pt 11 0), (14, .pt 13 0), (16, .int .i64 i)],
      [(0, .box [.lst 1 (ints gn), .lst 3 (eds ge)]), (1, .arr 1 []), (2, .arr 3 []), (3, .box [.sl 1 0 0, .sl 2 0 0]), (4, .arr 1 []), (5, .arr 1 []), (6, .box [.sl 4 0 0, .sl 5 0 0]), (7, .arr 1 (ints c)), (8, .arr 1 (ints q)),
       (9, .arr 1 (ints ou)), (10, .arr 3 (eds (imgE ⟨gn, ge⟩ q c i).1)), (11, .box [.sl 9 0 qc, .sl 10 0 (imgE ⟨gn, ge⟩ q c i).1.length]), (12, .arr 1 (ints (imgE ⟨gn, ge⟩ q c i).2)), (13, .box [.sl 8 0 gn.length, .sl 12 0 i])], 14⟩)
      (fun i => i ≤ ge.length) (fun i => ge.length - i) 0 ?_ ?_ ?_
     ·simp (disch := omega) only [go_sem, ↓reduceIte, imgE, hql, oli]
      rfl
     ·omega
     ·intro i hi
      have ev := hEV i hi
      have evl := ev.l
      have evm := ev.m
      by_cases f : i < ge.length
      ·have g1 : decide ((i : Int) < ge.length) = true := decide_eq_true (by omega)
       have hs : imgE ⟨gn, ge⟩ q c (i + 1) = if findE (imgE ⟨gn, ge⟩ q c i).1 (imgX ⟨gn, ge⟩ q i) c i (imgE ⟨gn, ge⟩ q c i).1.length < 0 then ((imgE ⟨gn, ge⟩ q c i).1 ++ [imgX ⟨gn, ge⟩ q i], (imgE ⟨gn, ge⟩ q c i).2 ++ [((imgE ⟨gn, ge⟩ q c i).1.length : Int)])
        else ((imgE ⟨gn, ge⟩ q c i).1, (imgE ⟨gn, ge⟩ q c i).2 ++ [findE (imgE ⟨gn, ge⟩ q c i).1 (imgX ⟨gn, ge⟩ q i) c i (imgE ⟨gn, ge⟩ q c i).1.length]) := rfl
       generalize hE1 : imgE ⟨gn, ge⟩ q c (i + 1) = s' at *
       generalize hE0 : imgE ⟨gn, ge⟩ q c i = s at *
       obtain ⟨oe, me⟩ := s
       simp only at hs evl evm
       obtain ⟨_, e1, e2⟩ := edge_fits hv (i := i) (by simp only; omega)
       simp only at e1 e2
       have hx : imgX ⟨gn, ge⟩ q i = ⟨(gt ge i).t, gt q (gt ge i).f, gt q (gt ge i).o⟩ := rfl
       have hfo := fun k => @find_ok oe (imgX ⟨gn, ge⟩ q i) c i k
       rw [hx] at hs hfo
       clear hx
       simp (disch := omega) only [go_sem, ↓reduceIte, c_r06_Image_b33, g1, hql, evl]
       generalize (gt ge i).t = xt at *
       generalize gt q (gt ge i).f = xf at *
       generalize gt q (gt ge i).o = xo at *
       refine W_loop (fun k : Nat => ⟨[(2, .pt 0 0), (4, .pt 3 0), (5, .pt 6 0), (6, .sl 7 0 c.length), (10, .sl 8 0 gn.length), (13, .pt 11 0), (14, .pt 13 0), (16, .int .i64 i), (17, .pt 14 0), (18, .int .i64 (findE oe ⟨xt, xf, xo⟩ c i k)), (19, .int .i64 k)],
        [(0, .box [.lst 1 (ints gn), .lst 3 (eds ge)]), (1, .arr 1 []), (2, .arr 3 []), (3, .box [.sl 1 0 0, .sl 2 0 0]), (4, .arr 1 []), (5, .arr 1 []), (6, .box [.sl 4 0 0, .sl 5 0 0]), (7, .arr 1 (ints c)), (8, .arr 1 (ints q)),
         (9, .arr 1 (ints ou)), (10, .arr 3 (eds oe)), (11, .box [.sl 9 0 qc, .sl 10 0 oe.length]), (12, .arr 1 (ints me)), (13, .box [.sl 8 0 gn.length, .sl 12 0 i]), (14, .box [.int .i64 xt, .int .i64 xf, .int .i64 xo])], 15⟩)
        (fun k => k ≤ oe.length) (fun k => oe.length - k) 0 ?_ ?_ ?_
       ·simp (disch := omega) only [go_sem, ↓reduceIte, findE, evl, hql]
        rfl
       ·omega
       ·intro k hk
        by_cases fk : k < oe.length
        ·have g2 : decide ((k : Int) < oe.length) = true := decide_eq_true (by omega)
         have b1 := tmod_bd (x := (i : Int) + k) (m := (c.length : Int)) (by omega) (by omega)
         have z1 : ¬ ((c.length : Int) = 0) := by omega
         have hfs : findE oe ⟨xt, xf, xo⟩ c i (k + 1) = if gt oe k = ⟨xt, xf, xo⟩ ∧ (gt c (((i : Int) + k).tmod c.length)).tmod 2 = 0 then (k : Int) else findE oe ⟨xt, xf, xo⟩ c i k := rfl
         generalize hkd : ((i : Int) + k).tmod c.length = kd at *
         have g4 : (decide ((gt oe k).t = xt) && (decide ((gt oe k).f = xf) && decide ((gt oe k).o = xo))) = decide (gt oe k = ⟨xt, xf, xo⟩) := by
          generalize gt oe (k : Int) = e
          obtain ⟨a, b, d⟩ := e
          rw [Bool.eq_iff_iff]
          simp
         have z2 : ¬ ((2 : Int) = 0) := by omega
         by_cases c1 : gt oe k = ⟨xt, xf, xo⟩
         ·have g5 := g4.trans (decide_eq_true c1)
          by_cases c2 : (gt c kd).tmod 2 = 0
          ·have g6 : decide ((gt c kd).tmod 2 = 0) = true := decide_eq_true c2
           rw [if_pos ⟨c1, c2⟩] at hfs
           simp (disch := omega) only [go_sem, ↓reduceIte, c_r06_Image_b27, g2, z1, z2, hkd, g5, g6]
           exact ⟨k + 1, by simp [hfs], by omega, by omega⟩
          ·have g6 : decide ((gt c kd).tmod 2 = 0) = false := decide_eq_false c2
           rw [if_neg (fun h => c2 h.2)] at hfs
           simp (disch := omega) only [go_sem, ↓reduceIte, c_r06_Image_b27, g2, z1, z2, hkd, g5, g6]
           exact ⟨k + 1, by simp [hfs], by omega, by omega⟩
         ·have g5 := g4.trans (decide_eq_false c1)
          rw [if_neg (fun h => c1 h.1)] at hfs
          simp (disch := omega) only [go_sem, ↓reduceIte, c_r06_Image_b27, g2, z1, z2, hkd, g5]
          exact ⟨k + 1, by simp [hfs], by omega, by omega⟩
        ·have g2 : decide ((k : Int) < oe.length) = false := decide_eq_false (by omega)
         obtain rfl : k = oe.length := by omega
         have hfo := hfo oe.length (Nat.le_refl _)
         generalize findE oe ⟨xt, xf, xo⟩ c i oe.length = at_ at *
         by_cases c1 : at_ < 0
         ·have g3 : decide (at_ < 0) = true := decide_eq_true c1
          rw [if_pos c1] at hs
          simp (disch := omega) only [go_sem, ↓reduceIte, c_r06_Image_b27, g2, g3, evl]
          exact ⟨i + 1, by simp [hE1, hs], by omega, by omega⟩
         ·have g3 : decide (at_ < 0) = false := decide_eq_false c1
          rw [if_neg c1] at hs
          simp (disch := omega) only [go_sem, ↓reduceIte, c_r06_Image_b27, g2, g3, evl]
          exact ⟨i + 1, by simp [hE1, hs], by omega, by omega⟩
      ·have g1 : decide ((i : Int) < ge.length) = false := decide_eq_false (by omega)
       obtain rfl : i = ge.length := by omega
       generalize imgE ⟨gn, ge⟩ q c ge.length = s at *
       obtain ⟨oe, me⟩ := s
       simp only at evl evm
       subst hG hM
       simp (disch := omega) only [go_sem, ↓reduceIte, c_r06_Image_b33, g1, hql, oli, evl]
       rfl
end
@[go_sem] def c_r10_Grown_r0 : LL := [qB 2 0,qa 4 [.nl 1,.nl 3],qa 5 [.nl 1,.nl 1]]
@[go_sem] def c_r10_Grown_r1 (F : Fn) : LL := [qL 10 2 2,qc 11 (F "r05.Copied") [.t 10],qL 12 2 2,qc 13 (F "r06.Of") [.t 12],qa 6 [.nl 1,.nl 3],qa 7 [.nl 1,.nl 1],qs 2 6 11,qs 2 7 13]
@[go_sem] def c_r10_Grown_r2 : LL := [qm 14 1,qz 15 14,qk .gtr 16 15 0,qm 17 16,qg 17 true (qm 18 1),⟨some 19,.iad 1 (.t 18) (.k (.int .i64 (0))),some (17,true)⟩,qg 17 true (ql 20 1 19),
 ⟨some 21,.bin .lss (.t 20) (.k (.int .u8 (255))),some (17,true)⟩,qP 22 17 21]
@[go_sem] def c_r10_Grown_r3 (F : Fn) : LL := [qL 24 2 2,qm 25 1,qc 26 (F "r06.Image") [.t 24,.t 25],qm 23 26,qx 27 23 0,qx 28 23 1,qs 2 6 27,qs 2 7 28]
@[go_sem] def c_r10_Grown_r4 (F : Fn) : LL := [qL 29 2 6,qc 30 (F "r05.Copied") [.t 29],qs 2 6 30]
@[go_sem] def c_r10_Grown_r5 : LL := [qi 8 1]
@[go_sem] def c_r10_Grown_r6 : LL := [qm 31 8,qm 32 1,qz 33 32,qo .lss 34 31 33,qm 35 34,qg 35 true (qm 36 8),qg 35 true (qk .leq 37 36 3),qP 38 35 37]
@[go_sem] def c_r10_Grown_r7 : LL := [qm 41 1,qm 42 8,qd 43 1 41 42,ql 44 1 43,⟨some 45,.bin .rem (.t 44) (.k (.int .u8 (2))),none⟩,⟨some 46,.bin .eql (.t 45) (.k (.int .u8 (1))),none⟩]
@[go_sem] def c_r10_Grown_r8 : LL := [qf 47 0 6,ql 48 1 47,qm 49 1,qm 50 8,qd 51 1 49 50,ql 52 1 51,⟨some 53,.bin .quo (.t 52) (.k (.int .u8 (2))),none⟩,⟨some 54,.conv .i64 (.t 53),none⟩,qk .rem 55 54 3,
 ⟨some 56,.buildSl 1 8 (.int .i64 (0)) 1 [(0,.t 55)],none⟩,qp 57 1 8 48 56,qf 58 0 6,qs 1 58 57]
@[go_sem] def c_r10_Grown_r9 : LL := [qm 39 8,qk .add 40 39 1,qm 8 40]
def c_r10_Grown_b10 : LC := (.seq (.seq (.reg c_r10_Grown_r6 [1,4,5,6,7,8,38]) (.cond (.t 38) .skip (.exit 0))) (.seq (.block 1 (.seq (.reg c_r10_Grown_r7 [1,4,5,6,7,8,46]) (.cond (.t 46) (.dreg [(1,none,[],true),(9,none,[1],false)] c_r10_Grown_r8 [1,4,5,6,7,8]) .skip))) (.reg c_r10_Grown_r9 [1,4,5,6,7,8])))
@[go_sem] def c_r10_Grown_r11 : LL := [qi 9 4]
@[go_sem] def c_r10_Grown_r12 : LL := [qm 59 9,qm 60 1,qz 61 60,qo .lss 62 59 61,qm 63 62,qg 63 true (qm 64 9),qg 63 true (qk .leq 65 64 7),qP 66 63 65,qm 67 66,qg 67 true (qf 68 0 6),qg 67 true (ql 69 1 68),
 qg 67 true (qz 70 69),qg 67 true (qk .gtr 71 70 0),qP 72 67 71]
@[go_sem] def c_r10_Grown_r13 : LL := [qf 75 1 6,ql 76 1 75,qm 77 1,qm 78 9,qd 79 1 77 78,ql 80 1 79,⟨some 81,.conv .i64 (.t 80),none⟩,qk .rem 82 81 2,qm 83 1,qm 84 9,qd 85 1 83 84,ql 86 1 85,
 ⟨some 87,.bin .quo (.t 86) (.k (.int .u8 (2))),none⟩,⟨some 88,.conv .i64 (.t 87),none⟩,qf 89 0 6,ql 90 1 89,qz 91 90,qo .rem 92 88 91,qm 93 1,qm 94 9,qd 95 1 93 94,ql 96 1 95,
 ⟨some 97,.bin .quo (.t 96) (.k (.int .u8 (16))),none⟩,⟨some 98,.conv .i64 (.t 97),none⟩,qf 99 0 6,ql 100 1 99,qz 101 100,qo .rem 102 98 101,
 qu 103 [.int .i64 (0),.int .i64 (0),.int .i64 (0)] [(0,1,.t 82),(1,1,.t 92),(2,1,.t 102)],
 ⟨some 104,.buildSl 3 24 (.agg [.int .i64 (0),.int .i64 (0),.int .i64 (0)]) 1 [(0,.t 103)],none⟩,qp 105 3 24 76 104,qf 106 1 6,qs 1 106 105]
@[go_sem] def c_r10_Grown_r14 : LL := [qm 73 9,qk .add 74 73 1,qm 9 74]
def c_r10_Grown_b15 : LC := (.seq (.seq (.reg c_r10_Grown_r12 [1,4,5,6,7,9,72]) (.cond (.t 72) .skip (.exit 2))) (.seq (.block 3 (.dreg [(1,none,[],true),(29,none,[1],false)] c_r10_Grown_r13 [1,4,5,6,7,9])) (.reg c_r10_Grown_r14 [1,4,5,6,7,9])))
@[go_sem] def c_r10_Grown_r16 : LL := [qL 107 2 6,qL 108 2 7,qs 2 4 107,qs 2 5 108]
@[go_sem] def c_r10_Grown (F : Fn) : LC := (.seq (.reg c_r10_Grown_r0 [1,2,4,5]) (.seq (.dreg [(1,none,[],true),(2,(some 0),[1],false)] (c_r10_Grown_r1 F) [1,2,4,5,6,7]) (.seq (.seq (.reg c_r10_Grown_r2 [1,2,4,5,6,7,22]) (.cond (.t 22) (.reg (c_r10_Grown_r3 F) [1,4,5,6,7]) .skip)) (.seq (.reg (c_r10_Grown_r4 F) [1,4,5,6,7]) (.seq (.seq (.reg c_r10_Grown_r5 [1,4,5,6,7,8]) (.block 0 (.loop [1,4,5,6,7,8] c_r10_Grown_b10))) (.seq (.seq (.reg c_r10_Grown_r11 [1,4,5,6,7,9]) (.block 2 (.loop [1,4,5,6,7,9] c_r10_Grown_b15))) (.seq (.dreg [(1,none,[],true),(2,none,[1],false)] c_r10_Grown_r16 [4,5]) .ret)))))))
def h_r10_Grown : Hints := hn [] [(0,[1,2,4,5]),(1,[1,2,4,5,6,7]),(2,[1,2,4,5,6,7,22]),(3,[1,4,5,6,7]),(4,[1,4,5,6,7]),(5,[1,4,5,6,7,8]),(6,[1,4,5,6,7,8,38]),(7,[1,4,5,6,7,8]),(8,[1,4,5,6,7,8,46]),(9,[1,4,5,6,7,8]),(10,[1,4,5,6,7,9]),(11,[1,4,5,6,7,9,72]),(12,[1,4,5,6,7,9]),(13,[1,4,5,6,7,9]),(14,[4,5])] [(6,[1,4,5,6,7,8]),(11,[1,4,5,6,7,9])]
def growN (c : List Int) : Nat → List Int
 | 0 => []
 | i + 1 => if (gt c (((i + 1 : Nat) : Int))).tmod 2 = 1 then growN c i ++ [((gt c (((i + 1 : Nat) : Int))).tdiv 2).tmod 3] else growN c i
def growE (c : List Int) (n : Int) : Nat → List E
 | 0 => []
 | i + 1 => growE c n i ++ [⟨(gt c (((i + 4 : Nat) : Int))).tmod 2, ((gt c (((i + 4 : Nat) : Int))).tdiv 2).tmod n, ((gt c (((i + 4 : Nat) : Int))).tdiv 16).tmod n⟩]
def grB (a : G) (c : List Int) : G × Mo := if 0 < c.length ∧ gt c 0 < 255 then (imG a c, imMo a c) else (a, idM a)
def grN (c : List Int) : List Int := growN c (min (c.length - 1) 3)
def grE (n : Nat) (c : List Int) : List E := if n = 0 then [] else growE c n (min (c.length - 4) 4)
def grG (a : G) (c : List Int) : G := ⟨(grB a c).1.n ++ grN c, (grB a c).1.e ++ grE ((grB a c).1.n ++ grN c).length c⟩
def grM (a : G) (c : List Int) : Mo := (grB a c).2
section
variable (P : Program) (F : String → Nat)
def K_r10_Grown : Prop := ∀ (a : G) (c : List Int), validG a = 0 → c.length ≤ 2000000 → (∀ v ∈ c, Byte v) → FC P (F "r10.Grown") [gD a, .lst 1 (u8s c)] (.tup [gA (grG a c), mA (grM a c)]) []
end
section
variable {P : Program} {F : String → Nat} {α : Type}
theorem wrap_u8 {n : Int} (h : 0 ≤ n) (h' : n ≤ 255) : IntKind.u8.wrap n = n := by
 unfold IntKind.wrap
 simp [IntKind.bits, IntKind.signed]
 omega
theorem tdiv_bd {x : Int} (h : Byte x) (m : Int) (hm : 0 ≤ m := by omega) : 0 ≤ x.tdiv m ∧ x.tdiv m ≤ 255 := by
 obtain ⟨h1, h2⟩ := h
 refine ⟨Int.tdiv_nonneg h1 hm, ?_⟩
 rw [Int.tdiv_eq_ediv_of_nonneg h1]
 exact Int.le_trans (Int.ediv_le_self _ h1) h2
theorem growN_len (c : List Int) : ∀ i, (growN c i).length ≤ i
 | 0 => by simp [growN]
 | i + 1 => by rw [growN]; have := growN_len c i; split <;> simp <;> omega
theorem growE_len (c : List Int) (n : Int) : ∀ i, (growE c n i).length = i
 | 0 => by simp [growE]
 | i + 1 => by rw [growE, List.length_append, growE_len c n i]; rfl
theorem grN_len (c : List Int) : (grN c).length ≤ 3 := by
 have := growN_len c (min (c.length - 1) 3)
 unfold grN; omega
theorem grE_len (n : Nat) (c : List Int) : (grE n c).length ≤ 4 := by
 unfold grE
 split
 ·simp
 ·rw [growE_len]; omega
theorem growN_ok {c : List Int} (hc : ∀ v ∈ c, Byte v) : ∀ i : Nat, i < c.length → ∀ x ∈ growN c i, okN x = true
 | 0, _, x, hx => by simp [growN] at hx
 | i + 1, hi, x, hx => by
  rw [growN] at hx
  have hb := hc _ (gt_mem (l := c) (j := ((i + 1 : Nat) : Int)) (by omega) (by omega))
  split at hx
  ·rcases List.mem_append.1 hx with hx | hx
   ·exact growN_ok hc i (by omega) x hx
   ·rw [List.mem_singleton] at hx
    have := tdiv_bd hb 2
    have := tmod_bd (x := (gt c (((i + 1 : Nat) : Int))).tdiv 2) (m := 3) this.1 (by omega)
    rw [hx]
    simp only [okN, decide_eq_true_eq]
    omega
  ·exact growN_ok hc i (by omega) x hx
theorem growE_ok {c : List Int} (hc : ∀ v ∈ c, Byte v) {n : Nat} (hn : 0 < n) : ∀ i : Nat, i ≤ c.length - 4 → ∀ x ∈ growE c n i, fitsE n x = true
 | 0, _, x, hx => by simp [growE] at hx
 | i + 1, hi, x, hx => by
  rw [growE] at hx
  have hb := hc _ (gt_mem (l := c) (j := ((i + 4 : Nat) : Int)) (by omega) (by omega))
  rcases List.mem_append.1 hx with hx | hx
  ·exact growE_ok hc hn i (by omega) x hx
  ·rw [List.mem_singleton] at hx
   have h1 := tmod_bd (x := gt c (((i + 4 : Nat) : Int))) (m := 2) hb.1 (by omega)
   have h2 := tmod_bd (x := (gt c (((i + 4 : Nat) : Int))).tdiv 2) (m := n) (tdiv_bd hb 2).1 (by omega)
   have h3 := tmod_bd (x := (gt c (((i + 4 : Nat) : Int))).tdiv 16) (m := n) (tdiv_bd hb 16).1 (by omega)
   rw [hx]
   exact fits_mk (by simp only; omega) h2 h3
theorem grB_ok {a : G} {c : List Int} (hv : validG a = 0) (hc : ∀ v ∈ c, Byte v) : MOk a (grB a c).1 (grB a c).2 ∧ (grB a c).1.n.length ≤ a.n.length ∧ (grB a c).1.e.length ≤ a.e.length := by
 unfold grB
 split
 ·have := img_sz hc hv
  exact ⟨img_okM hv hc, this.2.1, this.2.2⟩
 ·exact ⟨idM_ok hv, Nat.le_refl _, Nat.le_refl _⟩
theorem ext_okM {a b : G} {m : Mo} {ns : List Int} {es : List E} (hm : MOk a b m) (hv : validG ⟨b.n ++ ns, b.e ++ es⟩ = 0) : MOk a ⟨b.n ++ ns, b.e ++ es⟩ m := by
 refine ⟨hm.va, hv, hm.ln, hm.le, fun i hi => ?_, fun i hi => ?_⟩
 ·obtain ⟨h1, h2⟩ := hm.nd i hi
  obtain ⟨k, hk, hk2⟩ := gtI h1
  simp only
  rw [hk2] at h1 h2 ⊢
  rw [gt_appL hk]
  exact ⟨by simp; omega, h2⟩
 ·obtain ⟨h1, h2⟩ := hm.ed i hi
  obtain ⟨k, hk, hk2⟩ := gtI h1
  simp only
  rw [hk2] at h1 h2 ⊢
  rw [gt_appL hk]
  exact ⟨by simp; omega, h2⟩
theorem gr_ok {a : G} {c : List Int} (hv : validG a = 0) (hc : ∀ v ∈ c, Byte v) (s1 : a.n.length ≤ 37) (s2 : a.e.length ≤ 76) :
  MOk a (grG a c) (grM a c) ∧ (grG a c).n.length ≤ a.n.length + 3 ∧ (grG a c).e.length ≤ a.e.length + 4 := by
 obtain ⟨hm, l1, l2⟩ := grB_ok hv hc
 have n1 := grN_len c
 have n2 := grE_len ((grB a c).1.n ++ grN c).length c
 have vs := valid_spec hm.vb
 refine ⟨ext_okM hm (valid_mk ?_ ?_ (fun x hx => ?_) (fun x hx => ?_)), ?_, ?_⟩
 ·simp only [List.length_append]; omega
 ·simp only [List.length_append] at n2 ⊢; omega
 ·rcases List.mem_append.1 hx with hx | hx
  ·exact vs.2.2.1 x hx
  ·by_cases c0 : c.length = 0
   ·have : grN c = [] := by unfold grN; rw [show min (c.length - 1) 3 = 0 by omega]; rfl
    rw [this] at hx; simp at hx
   ·exact growN_ok hc _ (by omega) x hx
 ·rcases List.mem_append.1 hx with hx | hx
  ·have := fits_spec (vs.2.2.2 x hx)
   have e : (((grB a c).1.n ++ grN c).length : Int) = (grB a c).1.n.length + (grN c).length := by simp
   exact fits_mk this.1 (by show 0 ≤ x.f ∧ x.f < (((grB a c).1.n ++ grN c).length : Int); rw [e]; omega) (by show 0 ≤ x.o ∧ x.o < (((grB a c).1.n ++ grN c).length : Int); rw [e]; omega)
  ·unfold grE at hx
   split at hx
   ·simp at hx
   ·rename_i h0
    exact growE_ok hc (Nat.pos_of_ne_zero h0) (min (c.length - 4) 4) (by omega) x hx
 ·simp only [grG, List.length_append]; omega
 ·simp only [grG, List.length_append] at n2 ⊢; omega
set_option maxHeartbeats 4000000 in
set_option maxRecDepth 100000 in
theorem w_r10_Grown (hcp : K_r05_Copied P F) (hof : K_r06_Of P F) (hi : K_r06_Image P F) (a : G) (c : List Int) (hv : validG a = 0) (hl : c.length ≤ 2000000) (hb : ∀ v ∈ c, Byte v) : W P (c_r10_Grown F) (Done [.c 4 true 2, .c 5 true 2] [] (.tup [gA (grG a c), mA (grM a c)]) []) (init [gD a, .lst 1 (u8s c)]) := by
 refine W_of ?_
 have vs := valid_spec hv
 have r1 := hcp a (by omega) (by omega)
 have r2 := hof a (by omega) (by omega)
 have r3 := hi a c hv hl hb
 obtain ⟨hm, b1, b2⟩ := grB_ok hv hb
 have r4 := hcp (grB a c).1 (by omega) (by omega)
 have hB : grB a c = if 0 < c.length ∧ gt c 0 < 255 then (imG a c, imMo a c) else (a, idM a) := rfl
 have hG : grG a c = ⟨(grB a c).1.n ++ grN c, (grB a c).1.e ++ grE ((grB a c).1.n ++ grN c).length c⟩ := rfl
 have hM : grM a c = (grB a c).2 := rfl
 have hN : grN c = growN c (min (c.length - 1) 3) := rfl
 have hE : ∀ n, grE n c = if n = 0 then [] else growE c n (min (c.length - 4) 4) := fun n => rfl
 have n1 := growN_len c
 have n2 := growE_len c
 have n0 : growN c 0 = [] := rfl
 have e0 : ∀ n, growE c n 0 = [] := fun n => rfl
 have nS : ∀ i : Nat, growN c (i + 1) = if (gt c (((i + 1 : Nat) : Int))).tmod 2 = 1 then growN c i ++ [((gt c (((i + 1 : Nat) : Int))).tdiv 2).tmod 3] else growN c i := fun i => rfl
 have eS : ∀ (n : Int) (i : Nat), growE c n (i + 1) = growE c n i ++ [⟨(gt c (((i + 4 : Nat) : Int))).tmod 2, ((gt c (((i + 4 : Nat) : Int))).tdiv 2).tmod n, ((gt c (((i + 4 : Nat) : Int))).tdiv 16).tmod n⟩] := fun n i => rfl
 rw [hG, hM]
 clear hG hM hm
 generalize imG a c = ig at *
 generalize imMo a c = im at *
 generalize idM a = ia at *
 generalize grB a c = b at *
 generalize growN c = gN at *
 generalize growE c = gE at *
 generalize grN c = gNc at *
 generalize (fun n => grE n c) = gEc at *
 obtain ⟨⟨on, oe⟩, ⟨qn, qe⟩⟩ := b
 obtain ⟨an, ae⟩ := a
 simp only at *
 have cases3 : (c.length = 0 ∧ on = an ∧ oe = ae ∧ ia = ⟨qn, qe⟩) ∨ (0 < c.length ∧ ¬ gt c 0 < 255 ∧ on = an ∧ oe = ae ∧ ia = ⟨qn, qe⟩) ∨ (0 < c.length ∧ gt c 0 < 255 ∧ ig = ⟨on, oe⟩ ∧ im = ⟨qn, qe⟩) := by
  by_cases h1 : 0 < c.length
  ·by_cases h2 : gt c 0 < 255
   ·rw [if_pos ⟨h1, h2⟩] at hB
    simp only [Prod.mk.injEq] at hB
    exact .inr (.inr ⟨h1, h2, hB.1.symm, hB.2.symm⟩)
   ·rw [if_neg (fun h => h2 h.2)] at hB
    simp only [Prod.mk.injEq, G.mk.injEq] at hB
    exact .inr (.inl ⟨h1, h2, hB.1.1, hB.1.2, hB.2.symm⟩)
  ·rw [if_neg (fun h => h1 h.1)] at hB
   simp only [Prod.mk.injEq, G.mk.injEq] at hB
   exact .inl ⟨by omega, hB.1.1, hB.1.2, hB.2.symm⟩
 clear hB
 rcases cases3 with ⟨h1, h2, h3, h4⟩ | ⟨h1, h1', h2, h3, h4⟩ | ⟨h1, h1', h2, h3⟩
 case' inl =>
  have d1 : decide ((0 : Int) < c.length) = false := decide_eq_false (by omega)
  subst h2 h3 h4
  simp only [gD, gA, mA, mD] at *
  simp (disch := omega) only [go_sem, ↓reduceIte]
  refine call_by r1 ?_
  simp (disch := omega) only [go_sem, ↓reduceIte]
  refine call_by r2 ?_
  simp (disch := omega) only [go_sem, ↓reduceIte, d1]
  refine call_by r4 ?_
  simp (disch := omega) only [go_sem, ↓reduceIte]
 case' inr.inl =>
  have d1 : decide ((0 : Int) < c.length) = true := decide_eq_true (by omega)
  have d2 : decide (gt c ((0 : Nat) : Int) < 255) = false := decide_eq_false h1'
  subst h2 h3 h4
  simp only [gD, gA, mA, mD] at *
  simp (disch := omega) only [go_sem, ↓reduceIte]
  refine call_by r1 ?_
  simp (disch := omega) only [go_sem, ↓reduceIte]
  refine call_by r2 ?_
  simp (disch := omega) only [go_sem, ↓reduceIte, d1, d2]
  refine call_by r4 ?_
  simp (disch := omega) only [go_sem, ↓reduceIte]
 case' inr.inr =>
  have d1 : decide ((0 : Int) < c.length) = true := decide_eq_true (by omega)
  have d2 : decide (gt c ((0 : Nat) : Int) < 255) = true := decide_eq_true h1'
  subst h2 h3
  obtain ⟨iN, iE⟩ := ia
  simp only [gD, gA, mA, mD] at *
  simp (disch := omega) only [go_sem, ↓reduceIte]
  refine call_by r1 ?_
  simp (disch := omega) only [go_sem, ↓reduceIte]
  refine call_by r2 ?_
  simp (disch := omega) only [go_sem, ↓reduceIte, d1, d2]
  refine call_by r3 ?_
  simp (disch := omega) only [go_sem, ↓reduceIte]
  refine call_by r4 ?_
  simp (disch := omega) only [go_sem, ↓reduceIte]
 all_goals
  clear h1
  refine W_loop (fun i : Nat => ⟨[(1, .lst 1 (u8s c)), (4, .pt 2 0), (5, .pt 5 0), (6, .pt 8 0), (7, .pt 11 0), (8, .int .i64 (((i + 1 : Nat) : Int)))],
   [(0, .arr 1 []), (1, .arr 3 []), (2, .box [.sl 0 0 0, .sl 1 0 0]), (3, .arr 1 []), (4, .arr 1 []), (5, .box [.sl 3 0 0, .sl 4 0 0]), (6, .arr 1 (ints (on ++ gN i))), (7, .arr 3 (eds oe)), (8, .box [.sl 6 0 (on.length + (gN i).length), .sl 7 0 oe.length]),
    (9, .arr 1 (ints qn)), (10, .arr 1 (ints qe)), (11, .box [.sl 9 0 qn.length, .sl 10 0 qe.length])], 12⟩) (fun i => i ≤ min (c.length - 1) 3) (fun i => 4 - i) 0 ?_ ?_ ?_
  ·simp (disch := omega) only [go_sem, ↓reduceIte, n0]
   rfl
  ·simp
  ·intro i hi
   have n1i := n1 i
   have al : (on ++ gN i).length = on.length + (gN i).length := List.length_append
   by_cases f : i + 1 < c.length ∧ i + 1 ≤ 3
   ·have g1 : decide (((i + 1 : Nat) : Int) < c.length) = true := decide_eq_true (by omega)
    have g2 : decide (((i + 1 : Nat) : Int) ≤ 3) = true := decide_eq_true (by omega)
    have hbi := hb _ (gt_mem (l := c) (j := ((i + 1 : Nat) : Int)) (by omega) (by omega))
    have q1 := tdiv_bd hbi 2
    have w1 : IntKind.u8.wrap ((gt c (((i + 1 : Nat) : Int))).tdiv 2) = (gt c (((i + 1 : Nat) : Int))).tdiv 2 := wrap_u8 q1.1 q1.2
    have w2 : IntKind.i64.wrap ((gt c (((i + 1 : Nat) : Int))).tdiv 2) = (gt c (((i + 1 : Nat) : Int))).tdiv 2 := wrap_i64 (by omega) (by omega)
    have z1 : ¬ ((2 : Int) = 0) := by omega
    have z2 : ¬ ((3 : Int) = 0) := by omega
    have hS := nS i
    by_cases e : (gt c (((i + 1 : Nat) : Int))).tmod 2 = 1
    ·have g3 : decide ((gt c (((i + 1 : Nat) : Int))).tmod 2 = 1) = true := decide_eq_true e
     rw [if_pos e] at hS
     have el : (gN i ++ [((gt c (((i + 1 : Nat) : Int))).tdiv 2).tmod 3]).length = (gN i).length + 1 := by simp
     simp (disch := omega) only [go_sem, ↓reduceIte, c_r10_Grown_b10, g1, g2, g3, z1, z2, w1, w2, al]
     exact ⟨i + 1, by simp [hS, Nat.add_assoc]; omega, by omega, by omega⟩
    ·have g3 : decide ((gt c (((i + 1 : Nat) : Int))).tmod 2 = 1) = false := decide_eq_false e
     rw [if_neg e] at hS
     simp (disch := omega) only [go_sem, ↓reduceIte, c_r10_Grown_b10, g1, g2, g3, z1, al]
     exact ⟨i + 1, by simp [hS], by omega, by omega⟩
   ·have hi' : i = min (c.length - 1) 3 := by omega
    have hg : (decide (((i + 1 : Nat) : Int) < c.length) = true ∧ decide (((i + 1 : Nat) : Int) ≤ 3) = false) ∨ decide (((i + 1 : Nat) : Int) < c.length) = false := by
     by_cases x : ((i + 1 : Nat) : Int) < c.length
     ·exact .inl ⟨decide_eq_true x, decide_eq_false (by omega)⟩
     ·exact .inr (decide_eq_false x)
    rw [← hi'] at hN
    rw [← hN] at al n1i ⊢
    rcases hg with ⟨g1, g2⟩ | g1
    case' inl => simp (disch := omega) only [go_sem, ↓reduceIte, c_r10_Grown_b10, g1, g2, al]
    case' inr => simp (disch := omega) only [go_sem, ↓reduceIte, c_r10_Grown_b10, g1, al]
    all_goals
     have hEn := hE (on ++ gNc).length
     rw [al] at hEn
     generalize hon : on ++ gNc = og at *
     generalize hnn : on.length + gNc.length = nn at *
     refine W_loop (fun j : Nat => ⟨[(1, .lst 1 (u8s c)), (4, .pt 2 0), (5, .pt 5 0), (6, .pt 8 0), (7, .pt 11 0), (9, .int .i64 (((j + 4 : Nat) : Int)))],
      [(0, .arr 1 []), (1, .arr 3 []), (2, .box [.sl 0 0 0, .sl 1 0 0]), (3, .arr 1 []), (4, .arr 1 []), (5, .box [.sl 3 0 0, .sl 4 0 0]), (6, .arr 1 (ints og)), (7, .arr 3 (eds (oe ++ gE nn j))), (8, .box [.sl 6 0 nn, .sl 7 0 (oe.length + j)]),
       (9, .arr 1 (ints qn)), (10, .arr 1 (ints qe)), (11, .box [.sl 9 0 qn.length, .sl 10 0 qe.length])], 12⟩) (fun j => j ≤ min (c.length - 4) 4 ∧ (nn = 0 → j = 0)) (fun j => 5 - j) 0 ?_ ?_ ?_
     ·simp (disch := omega) only [go_sem, ↓reduceIte, e0, al]
      rfl
     ·simp
     ·rintro j ⟨hj, hj0⟩
      have el : (oe ++ gE nn j).length = oe.length + j := by rw [List.length_append, n2]
      by_cases f2 : j + 4 < c.length ∧ j + 4 ≤ 7 ∧ 0 < nn
      ·have g1 : decide (((j + 4 : Nat) : Int) < c.length) = true := decide_eq_true (by omega)
       have g2 : decide (((j + 4 : Nat) : Int) ≤ 7) = true := decide_eq_true (by omega)
       have g3 : decide ((0 : Int) < nn) = true := decide_eq_true (by omega)
       have hbi := hb _ (gt_mem (l := c) (j := ((j + 4 : Nat) : Int)) (by omega) (by omega))
       have q1 := tdiv_bd hbi 2
       have q2 := tdiv_bd hbi 16
       have w1 : IntKind.u8.wrap ((gt c (((j + 4 : Nat) : Int))).tdiv 2) = (gt c (((j + 4 : Nat) : Int))).tdiv 2 := wrap_u8 q1.1 q1.2
       have w2 : IntKind.i64.wrap ((gt c (((j + 4 : Nat) : Int))).tdiv 2) = (gt c (((j + 4 : Nat) : Int))).tdiv 2 := wrap_i64 (by omega) (by omega)
       have w3 : IntKind.u8.wrap ((gt c (((j + 4 : Nat) : Int))).tdiv 16) = (gt c (((j + 4 : Nat) : Int))).tdiv 16 := wrap_u8 q2.1 q2.2
       have w4 : IntKind.i64.wrap ((gt c (((j + 4 : Nat) : Int))).tdiv 16) = (gt c (((j + 4 : Nat) : Int))).tdiv 16 := wrap_i64 (by omega) (by omega)
       have w5 : IntKind.i64.wrap (gt c (((j + 4 : Nat) : Int))) = gt c (((j + 4 : Nat) : Int)) := wrap_i64 (by have := hbi.1; omega) (by have := hbi.2; omega)
       have z1 : ¬ ((2 : Int) = 0) := by omega
       have z2 : ¬ ((16 : Int) = 0) := by omega
       have z3 : ¬ ((nn : Int) = 0) := by omega
       have hS := eS nn j
       simp (disch := omega) only [go_sem, ↓reduceIte, c_r10_Grown_b15, g1, g2, g3, z1, z2, z3, w1, w2, w3, w4, w5, al, el]
       exact ⟨j + 1, by simp [hS, Nat.add_assoc]; omega, ⟨by omega, by omega⟩, by omega⟩
      ·have hg : (decide (((j + 4 : Nat) : Int) < c.length) = true ∧ decide (((j + 4 : Nat) : Int) ≤ 7) = true ∧ decide ((0 : Int) < nn) = false) ∨ (decide (((j + 4 : Nat) : Int) < c.length) = true ∧ decide (((j + 4 : Nat) : Int) ≤ 7) = false) ∨ decide (((j + 4 : Nat) : Int) < c.length) = false := by
        by_cases x : ((j + 4 : Nat) : Int) < c.length
        ·by_cases y : ((j + 4 : Nat) : Int) ≤ 7
         ·exact .inl ⟨decide_eq_true x, decide_eq_true y, decide_eq_false (by omega)⟩
         ·exact .inr (.inl ⟨decide_eq_true x, decide_eq_false y⟩)
        ·exact .inr (.inr (decide_eq_false x))
       have hfin : grE nn c = gE nn j := by
        rw [hEn]
        by_cases x : nn = 0
        ·rw [if_pos x, hj0 x, e0]
        ·rw [if_neg x, show min (c.length - 4) 4 = j by omega]
       rw [al, hfin]
       rcases hg with ⟨g1, g2, g3⟩ | ⟨g1, g2⟩ | g1
       ·simp (disch := omega) only [go_sem, ↓reduceIte, c_r10_Grown_b15, g1, g2, g3, al, el]
        rfl
       ·simp (disch := omega) only [go_sem, ↓reduceIte, c_r10_Grown_b15, g1, g2, al, el]
        rfl
       ·simp (disch := omega) only [go_sem, ↓reduceIte, c_r10_Grown_b15, g1, al, el]
        rfl
end
section
section
variable {s : Sp}
end
theorem po_len {s : Sp} (hs : SOk s) : (poG s).n.length ≤ s.b.n.length + s.c.n.length ∧ (poG s).e.length ≤ s.b.e.length + s.c.e.length := by
 have hl := un_len s.b s.c
 have hc := glu_cong hs.uF hs.uH
 have q1 := (quo_QS hc.ph _ (Nat.le_refl _)).c
 have q2 := (quo_QS hc.rh _ (Nat.le_refl _)).c
 have e1 := hc.pl
 have e2 := hc.rl
 simp only [poG, gluG, quoG, qN_len]
 omega
end
section
variable (P : Program) (F : String → Nat)
end
section
variable {P : Program} {F : String → Nat} {α : Type}
theorem u_inj {U P K H Q : List Int} (u1 : thr P U = H) (u2 : thr K U = Q) (cv : ∀ j : Nat, j < U.length → (∃ i : Nat, i < P.length ∧ gt P i = j) ∨ ∃ i : Nat, i < K.length ∧ gt K i = j)
  (n1 : ∀ i j : Nat, i < P.length → j < P.length → gt H i = gt H j → gt P i = gt P j) (n2 : ∀ i j : Nat, i < P.length → j < K.length → gt H i = gt Q j → gt P i = gt K j) (n3 : ∀ i j : Nat, i < K.length → j < K.length → gt Q i = gt Q j → gt K i = gt K j) : U.Nodup := by
 subst u1 u2
 have e1 : ∀ i : Nat, i < P.length → gt (thr P U) i = gt U (gt P i) := fun i hi => thr_gt hi
 have e2 : ∀ i : Nat, i < K.length → gt (thr K U) i = gt U (gt K i) := fun i hi => thr_gt hi
 refine nodup_ix fun i j hi hj e => ?_
 have key : ((i : Int)) = j := by
  rcases cv i hi with ⟨a, a1, a2⟩ | ⟨a, a1, a2⟩ <;> rcases cv j hj with ⟨b, b1, b2⟩ | ⟨b, b1, b2⟩
  ·rw [← a2, ← b2]; exact n1 a b a1 b1 (by rw [e1 a a1, e1 b b1, a2, b2, e])
  ·rw [← a2, ← b2]; exact n2 a b a1 b1 (by rw [e1 a a1, e2 b b1, a2, b2, e])
  ·rw [← a2, ← b2]; exact (n2 b a b1 a1 (by rw [e1 b b1, e2 a a1, a2, b2, e])).symm
  ·rw [← a2, ← b2]; exact n3 a b a1 b1 (by rw [e2 a a1, e2 b b1, a2, b2, e])
 omega
theorem u_cov {U P K H Q : List Int} {n : Nat} (u1 : thr P U = H) (u2 : thr K U = Q) (hP : ∀ i : Nat, i < P.length → 0 ≤ gt P i ∧ gt P i < U.length) (hK : ∀ i : Nat, i < K.length → 0 ≤ gt K i ∧ gt K i < U.length)
  (cv : ∀ j : Nat, j < n → (∃ i : Nat, i < P.length ∧ gt H i = j) ∨ ∃ i : Nat, i < K.length ∧ gt Q i = j) : covers U n = true := by
 subst u1 u2
 refine covers_ix.2 fun j hj => ?_
 rcases cv j hj with ⟨a, a1, a2⟩ | ⟨a, a1, a2⟩
 ·obtain ⟨k, h1, h2⟩ := gtI (hP a a1)
  rw [thr_gt a1, h2] at a2
  exact ⟨k, h1, a2⟩
 ·obtain ⟨k, h1, h2⟩ := gtI (hK a a1)
  rw [thr_gt a1, h2] at a2
  exact ⟨k, h1, a2⟩
theorem SOk.chk_same {s : Sp} (hs : SOk s) {x : G} {h k : Mo} (hh : MOk s.b x h) (hk : MOk s.c x k) (e : thenM s.f h = thenM s.g k)
  (n1 : ∀ i j : Nat, i < s.b.n.length → j < s.b.n.length → gt h.n i = gt h.n j → gt (poP s).n i = gt (poP s).n j) (n2 : ∀ i j : Nat, i < s.b.n.length → j < s.c.n.length → gt h.n i = gt k.n j → gt (poP s).n i = gt (poK s).n j)
  (n3 : ∀ i j : Nat, i < s.c.n.length → j < s.c.n.length → gt k.n i = gt k.n j → gt (poK s).n i = gt (poK s).n j)
  (c1 : ∀ j : Nat, j < x.n.length → (∃ i : Nat, i < s.b.n.length ∧ gt h.n i = j) ∨ ∃ i : Nat, i < s.c.n.length ∧ gt k.n i = j)
  (m1 : ∀ i j : Nat, i < s.b.e.length → j < s.b.e.length → gt h.e i = gt h.e j → gt (poP s).e i = gt (poP s).e j) (m2 : ∀ i j : Nat, i < s.b.e.length → j < s.c.e.length → gt h.e i = gt k.e j → gt (poP s).e i = gt (poK s).e j)
  (m3 : ∀ i j : Nat, i < s.c.e.length → j < s.c.e.length → gt k.e i = gt k.e j → gt (poK s).e i = gt (poK s).e j)
  (c2 : ∀ j : Nat, j < x.e.length → (∃ i : Nat, i < s.b.e.length ∧ gt h.e i = j) ∨ ∃ i : Nat, i < s.c.e.length ∧ gt k.e i = j) : chkP s x h k = true := by
 obtain ⟨u, hu, u1, u2⟩ := hs.med hh hk e
 have := hs.chk_grown hu
 rw [u1, u2] at this
 rw [this]
 have v1 : thr (poP s).n u.n = h.n := by rw [← u1]; rfl
 have v2 : thr (poK s).n u.n = k.n := by rw [← u2]; rfl
 have w1 : thr (poP s).e u.e = h.e := by rw [← u1]; rfl
 have w2 : thr (poK s).e u.e = k.e := by rw [← u2]; rfl
 have l1 := hs.p.ln
 have l2 := hs.k.ln
 have l3 := hs.p.le
 have l4 := hs.k.le
 have l5 := hu.ln
 have l6 := hu.le
 rw [Bool.and_eq_true]
 refine ⟨(injM_ok hu).2 ⟨u_inj v1 v2 (by rw [l1, l2, l5]; exact fun j hj => hs.surN hj) (by rw [l1]; exact n1) (by rw [l1, l2]; exact n2) (by rw [l2]; exact n3),
   u_inj w1 w2 (by rw [l3, l4, l6]; exact fun j hj => hs.surE hj) (by rw [l3]; exact m1) (by rw [l3, l4]; exact m2) (by rw [l4]; exact m3)⟩,
  (surM_ok hu).2 ⟨u_cov v1 v2 (by rw [l1, l5]; exact fun i hi => (hs.p.nd i hi).1) (by rw [l2, l5]; exact fun i hi => (hs.k.nd i hi).1) (by rw [l1, l2]; exact c1),
   u_cov w1 w2 (by rw [l3, l6]; exact fun i hi => (hs.p.ed i hi).1) (by rw [l4, l6]; exact fun i hi => (hs.k.ed i hi).1) (by rw [l3, l4]; exact c2)⟩⟩
end
@[go_sem] def c_square_same_r0 : LL := [qB 2 0,qB 3 1,qb 4 false]
@[go_sem] def c_square_same_r1 (F : Fn) : LL := [qf 5 0 2,ql 6 1 5,qf 7 0 3,ql 8 1 7,qc 9 (F "slices.Equal.I") [.t 6,.t 8],qm 10 9,qg 10 true (qf 11 1 2),qg 10 true (ql 12 1 11),qg 10 true (qf 13 1 3),qg 10 true (ql 14 1 13),
 qg 10 true (qc 15 (F "slices.Equal.E") [.t 12,.t 14]),qP 16 10 15,qm 4 16]
@[go_sem] def c_square_same (F : Fn) : LC := (.seq (.reg c_square_same_r0 [2,3]) (.seq (.reg (c_square_same_r1 F) [4]) .ret))
def h_square_same : Hints := hOf [] (c_square_same fun _ => 0)
@[go_sem] def c_r14_Glued_r0 : LL := [qB 1 0,qa 2 [.nl 1,.nl 3,.nl 1,.nl 3,.nl 1,.nl 3,.nl 1,.nl 3,.nl 1,.nl 1,.nl 1,.nl 1,.nl 1,.nl 1,.nl 1,.nl 1]]
@[go_sem] def c_r14_Glued_r1 (F : Fn) : LL := [qL 8 10 1,qc 9 (F "r10.Of") [.t 8],qm 7 9,qx 10 7 0,qx 11 7 1,qx 12 7 2,qx 13 7 3,qa 3 [.nl 1,.nl 3],qa 4 [.nl 1,.nl 1],qa 5 [.nl 1,.nl 1],qs 2 3 10,qs 2 4 11,qs 2 5 12,qm 6 13]
@[go_sem] def c_r14_Glued_r2 : LL := [qf 14 0 1,qL 15 2 14,qf 16 2 1,qL 17 2 16,qf 18 4 1,qL 19 2 18,qL 20 2 3,qf 21 6 1,qL 22 2 21,qf 23 8 1,qL 24 2 23,qL 25 2 4,qL 26 2 5,
 qu 27 [.nl 1,.nl 3,.nl 1,.nl 3,.nl 1,.nl 3,.nl 1,.nl 3,.nl 1,.nl 1,.nl 1,.nl 1,.nl 1,.nl 1,.nl 1,.nl 1] [(0,2,.t 15),(2,2,.t 17),(4,2,.t 19),(6,2,.t 20),(8,2,.t 22),(10,2,.t 24),(12,2,.t 25),(14,2,.t 26)],
 qs 16 2 27]
@[go_sem] def c_r14_Glued (F : Fn) : LC := (.seq (.reg c_r14_Glued_r0 [1,2]) (.seq (.reg (c_r14_Glued_r1 F) [1,2,3,4,5]) (.seq (.reg c_r14_Glued_r2 [2]) .ret)))
def h_r14_Glued : Hints := hOf [] (c_r14_Glued fun _ => 0)
def gluS (s : Sp) : Sq := ⟨s.a, s.b, s.c, (poR s).1, s.f, s.g, (poR s).2.1, (poR s).2.2.1⟩
section
variable (P : Program) (F : String → Nat)
def K_square_same : Prop := ∀ a b : G, a.n.length ≤ maxL → a.e.length ≤ maxL → FC P (F "square.same") [gD a, gD b] (.bool (decide (a = b))) []
def SqBd (s : Sq) : Prop := (s.a.n.length ≤ maxL ∧ s.a.e.length ≤ maxL) ∧ (s.b.n.length ≤ maxL ∧ s.b.e.length ≤ maxL) ∧ (s.c.n.length ≤ maxL ∧ s.c.e.length ≤ maxL) ∧ (s.d.n.length ≤ maxL ∧ s.d.e.length ≤ maxL) ∧ s.sm
end
section
variable {P : Program} {F : String → Nat} {α : Type}
theorem eqG (a b : G) : a = b ↔ a.n = b.n ∧ a.e = b.e := by cases a; cases b; simp
theorem w_square_same (h1 : K_slices_Equal_I P F) (h2 : K_slices_Equal_E P F) (a b : G) (l1 : a.n.length ≤ maxL) (l2 : a.e.length ≤ maxL) : W P (c_square_same F) (Done [.t 4] [] (.bool (decide (a = b))) []) (init [gD a, gD b]) := by
 refine W_of ?_
 have r1 := h1 a.n b.n l1
 have r2 := h2 a.e b.e l2
 have e := eqG a b
 simp only [gD]
 by_cases c : a.n = b.n
 ·rw [decide_eq_true c] at r1
  have : decide (a = b) = decide (a.e = b.e) := by rw [decide_eq_decide, e]; simp [c]
  rw [this]
  generalize decide (a.e = b.e) = z at *
  simp (disch := omega) only [go_sem, ↓reduceIte]
  refine call_by r1 ?_
  simp (disch := omega) only [go_sem, ↓reduceIte]
  refine call_by r2 ?_
  simp (disch := omega) only [go_sem, ↓reduceIte]
  try simp
 ·rw [decide_eq_false c] at r1
  have : decide (a = b) = false := decide_eq_false (by rw [e]; simp [c])
  rw [this]
  simp (disch := omega) only [go_sem, ↓reduceIte]
  refine call_by r1 ?_
  simp (disch := omega) only [go_sem, ↓reduceIte]
  try simp
end
def pastE (s t : Sq) : Int := if sqE s ≠ 0 then sqE s else if sqE t ≠ 0 then sqE t else if t.a = s.b ∧ t.c = s.d ∧ t.g = s.h then 0 else 11
def pastR (s t : Sq) : Sq × Int := if pastE s t = 0 then (pasS s t, 0) else (sq0, pastE s t)
section
variable (P : Program) (F : String → Nat)
def K_square_Paste : Prop := ∀ s t : Sq, s.sm → t.sm → FC P (F "square.Paste") [sqD s, sqD t] (.tup [sqA (pastR s t).1, .int .i64 (pastR s t).2]) []
end
section
variable {P : Program} {F : String → Nat} {α : Type}
end
@[go_sem] def c_square_Paste_r0 : LL := [qB 2 0,qB 3 1,qa 4 [.nl 1,.nl 3,.nl 1,.nl 3,.nl 1,.nl 3,.nl 1,.nl 3,.nl 1,.nl 1,.nl 1,.nl 1,.nl 1,.nl 1,.nl 1,.nl 1],qi 5 0]
@[go_sem] def c_square_Paste_r1 (F : Fn) : LL := [qL 8 16 2,qc 9 (F "square.valid") [.t 8],qm 6 9]
@[go_sem] def c_square_Paste_r2 : LL := [qm 10 6,qk .neq 11 10 0]
@[go_sem] def c_square_Paste_r3 : LL := [qu 12 [.nl 1,.nl 3,.nl 1,.nl 3,.nl 1,.nl 3,.nl 1,.nl 3,.nl 1,.nl 1,.nl 1,.nl 1,.nl 1,.nl 1,.nl 1,.nl 1] [],qm 13 6,qs 16 4 12,qm 5 13]
@[go_sem] def c_square_Paste_r4 (F : Fn) : LL := [qL 14 16 3,qc 15 (F "square.valid") [.t 14],qm 7 15]
@[go_sem] def c_square_Paste_r5 : LL := [qm 16 7,qk .neq 17 16 0]
@[go_sem] def c_square_Paste_r6 : LL := [qu 18 [.nl 1,.nl 3,.nl 1,.nl 3,.nl 1,.nl 3,.nl 1,.nl 3,.nl 1,.nl 1,.nl 1,.nl 1,.nl 1,.nl 1,.nl 1,.nl 1] [],qm 19 7,qs 16 4 18,qm 5 19]
@[go_sem] def c_square_Paste_r7 (F : Fn) : LL := [qf 20 0 3,qL 21 2 20,qf 22 2 2,qL 23 2 22,qc 24 (F "square.same") [.t 21,.t 23],qv 25 24,qm 26 25,qg 26 false (qf 27 4 3),qg 26 false (qL 28 2 27),qg 26 false (qf 29 6 2),
 qg 26 false (qL 30 2 29),qg 26 false (qc 31 (F "square.same") [.t 28,.t 30]),qg 26 false (qv 32 31),qQ 33 26 32,qm 34 33,qg 34 false (qf 35 10 3),qg 34 false (qL 36 2 35),
 qg 34 false (qf 37 12 2),qg 34 false (qL 38 2 37),qg 34 false (qc 39 (F "morphism.Same") [.t 36,.t 38]),qg 34 false (qv 40 39),qQ 41 34 40]
@[go_sem] def c_square_Paste_r8 : LL := [qu 42 [.nl 1,.nl 3,.nl 1,.nl 3,.nl 1,.nl 3,.nl 1,.nl 3,.nl 1,.nl 1,.nl 1,.nl 1,.nl 1,.nl 1,.nl 1,.nl 1] [],qs 16 4 42,qi 5 11]
@[go_sem] def c_square_Paste_r9 (F : Fn) : LL := [qf 43 0 2,qL 44 2 43,qc 45 (F "square.copied") [.t 44],qf 46 2 3,qL 47 2 46,qc 48 (F "square.copied") [.t 47],qf 49 4 2,qL 50 2 49,qc 51 (F "square.copied") [.t 50],qf 52 6 3,qL 53 2 52,qc 54 (F "square.copied") [.t 53],qf 55 8 2,qL 56 2 55,
 qf 57 8 3,qL 58 2 57,qc 59 (F "square.then") [.t 56,.t 58],qf 60 10 2,qL 61 2 60,qc 62 (F "square.arrow") [.t 61],qf 63 12 3,qL 64 2 63,qc 65 (F "square.arrow") [.t 64],qf 66 14 2,qL 67 2 66,qf 68 14 3,qL 69 2 68,
 qc 70 (F "square.then") [.t 67,.t 69],
 qu 71 [.nl 1,.nl 3,.nl 1,.nl 3,.nl 1,.nl 3,.nl 1,.nl 3,.nl 1,.nl 1,.nl 1,.nl 1,.nl 1,.nl 1,.nl 1,.nl 1] [(0,2,.t 45),(2,2,.t 48),(4,2,.t 51),(6,2,.t 54),(8,2,.t 59),(10,2,.t 62),(12,2,.t 65),(14,2,.t 70)],
 qs 16 4 71,qi 5 0]
@[go_sem] def c_square_Paste (F : Fn) : LC := (.seq (.reg c_square_Paste_r0 [2,3,4]) (.seq (.seq (.reg (c_square_Paste_r1 F) [2,3,4,6]) (.seq (.reg c_square_Paste_r2 [2,3,4,6,11]) (.cond (.t 11) (.seq (.reg c_square_Paste_r3 [4,5]) .ret) .skip))) (.seq (.seq (.reg (c_square_Paste_r4 F) [2,3,4,7]) (.seq (.reg c_square_Paste_r5 [2,3,4,7,17]) (.cond (.t 17) (.seq (.reg c_square_Paste_r6 [4,5]) .ret) .skip))) (.seq (.seq (.reg (c_square_Paste_r7 F) [2,3,4,41]) (.cond (.t 41) (.seq (.reg c_square_Paste_r8 [4,5]) .ret) .skip)) (.seq (.dreg [(2,none,[],true),(4,(some 8),[2],false),(5,none,[],true),(7,(some 64),[2,5],false),(8,none,[],true),(10,(some 512),[2,5,8],false),(11,none,[],true),(13,(some 4096),[2,5,8,11],false),(15,(some 16384),[2,5,8,11],false),(16,none,[],true),(18,(some 131072),[2,5,8,11,16],false),(19,none,[],true),(21,(some 1048576),[2,5,8,11,16,19],false),(22,none,[],true),(24,(some 8388608),[2,5,8,11,16,19,22],false),(26,(some 33554432),[2,5,8,11,16,19,22],false)] (c_square_Paste_r9 F) [4,5]) .ret)))))
def h_square_Paste : Hints := hOf [] (c_square_Paste fun _ => 0)
section
variable (P : Program) (F : String → Nat)
end
section
variable {P : Program} {F : String → Nat} {α : Type}
theorem pastR_bad {s t : Sq} (h : pastE s t ≠ 0) : pastR s t = (sq0, pastE s t) := by unfold pastR; rw [if_neg h]
theorem pastR_ok {s t : Sq} (h : pastE s t = 0) : pastR s t = (pasS s t, 0) := by unfold pastR; rw [if_pos h]
theorem pastE_ok {s t : Sq} : pastE s t = 0 ↔ PsOk s t := by
 unfold pastE
 constructor
 ·intro h
  split at h
  ·rename_i c; exact absurd h c
  ·rename_i c1
   split at h
   ·rename_i c; exact absurd h c
   ·rename_i c2
    split at h
    ·rename_i c3
     exact ⟨sqE_ok.1 (Decidable.not_not.1 c1), sqE_ok.1 (Decidable.not_not.1 c2), c3.1, c3.2.1, c3.2.2⟩
    ·cases h
 ·intro h
  rw [if_neg (by simp [sqE_ok.2 h.qs]), if_neg (by simp [sqE_ok.2 h.qt]), if_pos ⟨h.a, h.c, h.g⟩]
theorem QOk.bd {s : Sq} (h : QOk s) : SqBd s := by
 have a := valid_spec h.f.va
 have b := valid_spec h.f.vb
 have c := valid_spec h.g.vb
 have d := valid_spec h.h.vb
 have f := h.f.fit h.h
 have g := h.g.fit h.k
 have l1 := h.h.ln
 have l2 := h.h.le
 have l3 := h.k.ln
 have l4 := h.k.le
 refine ⟨⟨?_, ?_⟩, ⟨?_, ?_⟩, ⟨?_, ?_⟩, ⟨?_, ?_⟩, ⟨?_, ?_⟩, ⟨?_, ?_⟩, ⟨?_, ?_⟩, ?_, ?_⟩ <;> unfold maxL <;> omega
set_option maxHeartbeats 2000000 in
theorem w_square_Paste (hv : K_square_valid P F) (hsg : K_square_same P F) (hsm : K_morphism_Same P F) (ht : K_square_then P F) (hcp : K_square_copied P F) (har : K_square_arrow P F) (s t : Sq) (hs : s.sm) (ht2 : t.sm) : W P (c_square_Paste F) (Done [.c 4 true 16, .t 5] [] (.tup [sqA (pastR s t).1, .int .i64 (pastR s t).2]) []) (init [sqD s, sqD t]) := by
 refine W_of ?_
 have r1 := hv s
 have r2 := hv t
 by_cases c1 : sqE s = 0
 case neg =>
  have hz : pastE s t = sqE s := by unfold pastE; rw [if_pos c1]
  have hn : pastE s t ≠ 0 := by rw [hz]; exact c1
  rw [pastR_bad hn]
  rw [hz]
  clear hz hn
  generalize sqE s = v at *
  simp only [sqD] at *
  simp (disch := omega) only [go_sem, ↓reduceIte]
  refine call_by r1 ?_
  simp (disch := omega) only [go_sem, ↓reduceIte]
  refine bran_ndec (fun c => ?_) (fun c => absurd c c1)
  simp (disch := omega) only [go_sem, ↓reduceIte]
  simp [sqA, sq0, g0, m0, ints, eds]
 rw [c1] at r1
 by_cases c2 : sqE t = 0
 case neg =>
  have hz : pastE s t = sqE t := by unfold pastE; rw [if_neg (by simp [c1]), if_pos c2]
  have hn : pastE s t ≠ 0 := by rw [hz]; exact c2
  rw [pastR_bad hn]
  rw [hz]
  clear hz hn
  generalize sqE t = v at *
  simp only [sqD] at *
  simp (disch := omega) only [go_sem, ↓reduceIte]
  refine call_by r1 ?_
  simp (disch := omega) only [go_sem, ↓reduceIte]
  refine call_by r2 ?_
  simp (disch := omega) only [go_sem, ↓reduceIte]
  refine bran_ndec (fun c => ?_) (fun c => absurd c c2)
  simp (disch := omega) only [go_sem, ↓reduceIte]
  simp [sqA, sq0, g0, m0, ints, eds]
 rw [c2] at r2
 have qs := sqE_ok.1 c1
 have qt := sqE_ok.1 c2
 have bs := qs.bd
 have bt := qt.bd
 have r3 := hsg t.a s.b bt.1.1 bt.1.2
 have r4 := hsg t.c s.d bt.2.2.1.1 bt.2.2.1.2
 have r5 := hsm t.g s.h bt.2.2.2.2.2.1.1 bt.2.2.2.2.2.1.2
 have hE : pastE s t = if t.a = s.b ∧ t.c = s.d ∧ t.g = s.h then 0 else 11 := by unfold pastE; rw [if_neg (by simp [c1]), if_neg (by simp [c2])]
 by_cases d0 : t.a = s.b
 case neg =>
  have hz : pastE s t = 11 := by rw [hE, if_neg (by simp [d0])]
  have hn : pastE s t ≠ 0 := by rw [hz]; decide
  rw [pastR_bad hn]
  rw [hz]
  clear hz hn hE bs bt qs qt
  rw [decide_eq_false d0] at r3
  simp only [sqD, gD, mD] at *
  simp (disch := omega) only [go_sem, ↓reduceIte]
  refine call_by r1 ?_
  simp (disch := omega) only [go_sem, ↓reduceIte]
  refine call_by r2 ?_
  simp (disch := omega) only [go_sem, ↓reduceIte]
  refine call_by r3 ?_
  simp (disch := omega) only [go_sem, ↓reduceIte]
  simp [sqA, sq0, g0, m0, ints, eds]
 rw [decide_eq_true d0] at r3
 by_cases d1 : t.c = s.d
 case neg =>
  have hz : pastE s t = 11 := by rw [hE, if_neg (by simp [d1])]
  have hn : pastE s t ≠ 0 := by rw [hz]; decide
  rw [pastR_bad hn]
  rw [hz]
  clear hz hn hE bs bt qs qt
  rw [decide_eq_false d1] at r4
  simp only [sqD, gD, mD] at *
  simp (disch := omega) only [go_sem, ↓reduceIte]
  refine call_by r1 ?_
  simp (disch := omega) only [go_sem, ↓reduceIte]
  refine call_by r2 ?_
  simp (disch := omega) only [go_sem, ↓reduceIte]
  refine call_by r3 ?_
  simp (disch := omega) only [go_sem, ↓reduceIte]
  refine call_by r4 ?_
  simp (disch := omega) only [go_sem, ↓reduceIte]
  simp [sqA, sq0, g0, m0, ints, eds]
 rw [decide_eq_true d1] at r4
 by_cases d2 : t.g = s.h
 case neg =>
  have hz : pastE s t = 11 := by rw [hE, if_neg (by simp [d2])]
  have hn : pastE s t ≠ 0 := by rw [hz]; decide
  rw [pastR_bad hn]
  rw [hz]
  clear hz hn hE bs bt qs qt
  rw [decide_eq_false d2] at r5
  simp only [sqD, gD, mD] at *
  simp (disch := omega) only [go_sem, ↓reduceIte]
  refine call_by r1 ?_
  simp (disch := omega) only [go_sem, ↓reduceIte]
  refine call_by r2 ?_
  simp (disch := omega) only [go_sem, ↓reduceIte]
  refine call_by r3 ?_
  simp (disch := omega) only [go_sem, ↓reduceIte]
  refine call_by r4 ?_
  simp (disch := omega) only [go_sem, ↓reduceIte]
  refine call_by r5 ?_
  simp (disch := omega) only [go_sem, ↓reduceIte]
  simp [sqA, sq0, g0, m0, ints, eds]
 rw [decide_eq_true d2] at r5
 have hok : PsOk s t := ⟨qs, qt, d0, d1, d2⟩
 have hz := pastE_ok.2 hok
 rw [pastR_ok hz]
 have f1 : MOk s.b t.b t.f := by have := qt.f; rw [d0] at this; exact this
 have f2 : MOk s.d t.d t.k := by have := qt.k; rw [d1] at this; exact this
 have g1 := qs.f.fit f1
 have g2 := qs.k.fit f2
 have r6 := ht s.f t.f (by omega) (by omega) g1.2.1 g1.2.2
 have r7 := ht s.k t.k (by omega) (by omega) g2.2.1 g2.2.2
 have va := valid_spec qs.f.va
 have vb := valid_spec qt.f.vb
 have vc := valid_spec qs.g.vb
 have vd := valid_spec qt.h.vb
 have hg1 := qs.g.fit qs.k
 have hh1 := qt.h.ln
 have hh2 := qt.h.le
 have k1 := hcp s.a (by omega) (by omega)
 have k2 := hcp t.b (by omega) (by omega)
 have k3 := hcp s.c (by omega) (by omega)
 have k4 := hcp t.d (by omega) (by omega)
 have k5 := har s.g (by omega) (by omega)
 have k6 := har t.h (by omega) (by omega)
 clear va vb vc vd hg1 hh1 hh2
 clear hE hok hz f1 f2 g1 g2 bs bt qs qt d0 d1 d2
 simp only [sqD, sqA, gD, mD, gA, mA] at *
 simp (disch := omega) only [go_sem, ↓reduceIte]
 refine call_by r1 ?_
 simp (disch := omega) only [go_sem, ↓reduceIte]
 refine call_by r2 ?_
 simp (disch := omega) only [go_sem, ↓reduceIte]
 refine call_by r3 ?_
 simp (disch := omega) only [go_sem, ↓reduceIte]
 refine call_by r4 ?_
 simp (disch := omega) only [go_sem, ↓reduceIte]
 refine call_by r5 ?_
 simp (disch := omega) only [go_sem, ↓reduceIte]
 refine call_by k1 ?_
 simp (disch := omega) only [go_sem, ↓reduceIte]
 refine call_by k2 ?_
 simp (disch := omega) only [go_sem, ↓reduceIte]
 refine call_by k3 ?_
 simp (disch := omega) only [go_sem, ↓reduceIte]
 refine call_by k4 ?_
 simp (disch := omega) only [go_sem, ↓reduceIte]
 refine call_by r6 ?_
 simp (disch := omega) only [go_sem, ↓reduceIte]
 refine call_by k5 ?_
 simp (disch := omega) only [go_sem, ↓reduceIte]
 refine call_by k6 ?_
 simp (disch := omega) only [go_sem, ↓reduceIte]
 refine call_by r7 ?_
 simp (disch := omega) only [go_sem, ↓reduceIte]
 try rfl
end
section
variable {s : Sp}
theorem SOk.psh (hs : SOk s) : Psh (gluS s) := by
 have e : gluS s = ⟨s.a, s.b, s.c, poG s, s.f, s.g, poP s, poK s⟩ := by unfold gluS; rw [poR_ok hs]
 rw [e]
 exact ⟨⟨hs.f, hs.g, hs.p, hs.k⟩, hs.comm, hs.sepN, hs.sepE, fun j hj => hs.surN hj, fun j hj => hs.surE hj⟩
end
theorem Psh.chk {s : Sq} (h : Psh s) (he : poErr s.dn = 0) : chkP s.dn s.d s.h s.k = true := by
 have hs := poErr_ok.1 he
 obtain ⟨n1, n2, n3⟩ := h.sn (gt (poP s.dn).n) (gt (poK s.dn).n) fun i hi => thenM_n hs.comm (by rw [hs.f.ln]; exact hi) (by rw [hs.g.ln]; exact hi)
 obtain ⟨m1, m2, m3⟩ := h.se (gt (poP s.dn).e) (gt (poK s.dn).e) fun i hi => thenM_e hs.comm (by rw [hs.f.le]; exact hi) (by rw [hs.g.le]; exact hi)
 exact hs.chk_same h.q.h h.q.k h.c n1 n2 n3 h.cn m1 m2 m3 h.ce
section
variable {na nb nc nd : Nat} {f g h k : List Int}
theorem natB {x : Int} {n : Nat} (h : 0 ≤ x ∧ x < n) : ∃ k : Nat, k < n ∧ x = k := ⟨x.toNat, by omega, by omega⟩
end
section
variable {s t : Sq}
theorem Sq.sw_c {s : Sq} (c : thenM s.f s.h = thenM s.g s.k) (q : QOk s) {i : Nat} (hi : i < s.a.n.length) : gt s.h.n (gt s.f.n i) = gt s.k.n (gt s.g.n i) := thenM_n c (by rw [q.f.ln]; exact hi) (by rw [q.g.ln]; exact hi)
theorem Sq.sw_ce {s : Sq} (c : thenM s.f s.h = thenM s.g s.k) (q : QOk s) {i : Nat} (hi : i < s.a.e.length) : gt s.h.e (gt s.f.e i) = gt s.k.e (gt s.g.e i) := thenM_e c (by rw [q.f.le]; exact hi) (by rw [q.g.le]; exact hi)
end
section
variable {na nb nc nd nb' nd' : Nat} {f g h k f' h' k' : List Int}
theorem sep_paste (S : Sep na nb nc f g h k) (T : Sep nb nb' nd f' h h' k') (lf : f.length = na) (lk : k.length = nc) (fb : ∀ i : Nat, i < na → 0 ≤ gt f i ∧ gt f i < nb) (kb : ∀ i : Nat, i < nc → 0 ≤ gt k i ∧ gt k i < nd) :
  Sep na nb' nc (thr f f') g h' (thr k k') := by
 refine Sep.of fun φ ψ e => ?_
 obtain ⟨χ, c1, c2⟩ := S.ext (φ := fun z => φ (gt f' z)) (ψ := ψ) fun i hi => by rw [← e i hi, thr_gt (by omega)]
 obtain ⟨ω, d1, d2⟩ := T.ext (φ := φ) (ψ := χ) fun i hi => (c1 i hi).symm
 refine ⟨ω, d1, fun y hy => ?_⟩
 obtain ⟨z, hz, ez⟩ := natB (kb y hy)
 rw [thr_gt (by omega), ez, d2 z hz, ← ez, c2 y hy]
theorem sep_second (S : Sep na nb' nc (thr f f') g h' (thr k k')) (lf : f.length = na) (lk : k.length = nc) (c : ∀ i : Nat, i < na → gt h (gt f i) = gt k (gt g i)) (c' : ∀ i : Nat, i < nb → gt h' (gt f' i) = gt k' (gt h i))
  (fb : ∀ i : Nat, i < na → 0 ≤ gt f i ∧ gt f i < nb) (fb' : ∀ i : Nat, i < nb → 0 ≤ gt f' i ∧ gt f' i < nb') (cv : Cov nb nc nd h k) : Sep nb nb' nd f' h h' k' := by
 refine Sep.of fun φ χ e => ?_
 obtain ⟨ω, d1, d2⟩ := S.ext (φ := φ) (ψ := fun y => χ (gt k y)) fun i hi => by
  obtain ⟨z, hz, ez⟩ := natB (fb i hi)
  rw [thr_gt (by omega), ← c i hi, ez]
  exact e z hz
 refine ⟨ω, d1, fun z hz => ?_⟩
 rcases cv z hz with ⟨i, hi, ei⟩ | ⟨i, hi, ei⟩
 ·obtain ⟨w, hw, ew⟩ := natB (fb' i hi)
  rw [← ei, ← c' i hi, ew, d1 w hw, ← ew, e i hi]
 ·have := d2 i hi
  rw [thr_gt (by omega), ei] at this
  exact this
theorem cov_paste (S : Cov nb nc nd h k) (T : Cov nb' nd nd' h' k') (lk : k.length = nc) (c' : ∀ i : Nat, i < nb → gt h' (gt f' i) = gt k' (gt h i)) (fb' : ∀ i : Nat, i < nb → 0 ≤ gt f' i ∧ gt f' i < nb') : Cov nb' nc nd' h' (thr k k') := by
 intro j hj
 rcases T j hj with ⟨i, hi, ei⟩ | ⟨i, hi, ei⟩
 ·exact .inl ⟨i, hi, ei⟩
 ·rcases S i hi with ⟨x, hx, ex⟩ | ⟨y, hy, ey⟩
  ·obtain ⟨w, hw, ew⟩ := natB (fb' x hx)
   exact .inl ⟨w, hw, by rw [← ew, c' x hx, ex, ei]⟩
  ·exact .inr ⟨y, hy, by rw [thr_gt (by omega), ey, ei]⟩
theorem cov_second (S : Cov nb' nc nd' h' (thr k k')) (lk : k.length = nc) (kb : ∀ i : Nat, i < nc → 0 ≤ gt k i ∧ gt k i < nd) : Cov nb' nd nd' h' k' := by
 intro j hj
 rcases S j hj with ⟨i, hi, ei⟩ | ⟨i, hi, ei⟩
 ·exact .inl ⟨i, hi, ei⟩
 ·obtain ⟨w, hw, ew⟩ := natB (kb i hi)
  rw [thr_gt (by omega), ew] at ei
  exact .inr ⟨w, hw, ei⟩
end
section
variable {s t : Sq} (e1 : t.a = s.b) (e2 : t.c = s.d) (e3 : t.g = s.h)
include e1 e2 e3
theorem pas_q (p : QOk s) (q : QOk t) : QOk (pasS s t) :=
 have _h := e3
 ⟨then_okP p.f (by rw [← e1]; exact q.f), p.g, q.h, then_okP p.k (by rw [← e2]; exact q.k)⟩
theorem pas_c (p : QOk s) (q : QOk t) (c1 : thenM s.f s.h = thenM s.g s.k) (c2 : thenM t.f t.h = thenM t.g t.k) : thenM (pasS s t).f (pasS s t).h = thenM (pasS s t).g (pasS s t).k := by
 have _h := e2
 have tf : MOk s.b t.b t.f := by rw [← e1]; exact q.f
 simp only [pasS]
 rw [then_assoc p.f tf, c2, e3, ← then_assoc p.f p.h, c1, then_assoc p.g p.k]
theorem Psh.paste (hs : Psh s) (ht : Psh t) : Psh (pasS s t) := by
 obtain ⟨p, c, sn, se, cn, ce⟩ := hs
 obtain ⟨q, c', sn', se', cn', ce'⟩ := ht
 have tf : MOk s.b t.b t.f := by rw [← e1]; exact q.f
 have k1 := fun (i : Nat) (hi : i < s.b.n.length) => Sq.sw_c c' q (i := i) (by rw [e1]; exact hi)
 have k2 := fun (i : Nat) (hi : i < s.b.e.length) => Sq.sw_ce c' q (i := i) (by rw [e1]; exact hi)
 rw [e1, e2, e3] at sn' se'
 rw [e2] at cn' ce'
 rw [e3] at k1 k2
 exact ⟨pas_q e1 e2 e3 p q, pas_c e1 e2 e3 p q c c', sep_paste sn sn' p.f.ln p.k.ln (fun i hi => (p.f.nd i hi).1) (fun i hi => (p.k.nd i hi).1), sep_paste se se' p.f.le p.k.le (fun i hi => (p.f.ed i hi).1) (fun i hi => (p.k.ed i hi).1),
  cov_paste cn cn' p.k.ln k1 (fun i hi => (tf.nd i hi).1), cov_paste ce ce' p.k.le k2 (fun i hi => (tf.ed i hi).1)⟩
theorem Psh.second (hs : Psh s) (q : QOk t) (c' : thenM t.f t.h = thenM t.g t.k) (h : Psh (pasS s t)) : Psh t := by
 obtain ⟨p, c, sn, se, cn, ce⟩ := hs
 obtain ⟨_, _, sn', se', cn', ce'⟩ := h
 have tf : MOk s.b t.b t.f := by rw [← e1]; exact q.f
 have k1 := fun (i : Nat) (hi : i < s.b.n.length) => Sq.sw_c c' q (i := i) (by rw [e1]; exact hi)
 have k2 := fun (i : Nat) (hi : i < s.b.e.length) => Sq.sw_ce c' q (i := i) (by rw [e1]; exact hi)
 rw [e3] at k1 k2
 have r1 := sep_second sn' p.f.ln p.k.ln (fun i hi => Sq.sw_c c p hi) k1 (fun i hi => (p.f.nd i hi).1) (fun i hi => (tf.nd i hi).1) cn
 have r2 := sep_second se' p.f.le p.k.le (fun i hi => Sq.sw_ce c p hi) k2 (fun i hi => (p.f.ed i hi).1) (fun i hi => (tf.ed i hi).1) ce
 have r3 := cov_second cn' p.k.ln (fun i hi => (p.k.nd i hi).1)
 have r4 := cov_second ce' p.k.le (fun i hi => (p.k.ed i hi).1)
 refine ⟨q, c', ?_, ?_, ?_, ?_⟩
 ·rw [e1, e2, e3]; exact r1
 ·rw [e1, e2, e3]; exact r2
 ·rw [e2]; exact r3
 ·rw [e2]; exact r4
end
theorem kind_cases {s : Sq} (q : QOk s) (c : thenM s.f s.h = thenM s.g s.k) : (kindR s).2 = 3 ∨ kindR s = (kindV s, 0) ∧ poErr s.dn = 0 ∧ pbErr s.up = 0 := by
 have com : comB s = true := decide_eq_true c
 have s1 : spE s.dn = 0 := spE_ok.2 ⟨q.f, q.g⟩
 have s2 : givenE s.up = 0 := by
  unfold givenE
  rw [if_neg (by rw [show validM s.up.b s.up.d s.up.f = 0 from mok.2 q.h]; simp)]
  exact mok.2 q.k
 unfold kindR
 rw [if_neg (by simp [sqE_ok.2 q]), if_neg (by simp [com])]
 by_cases c2 : poErr s.dn = 0
 case neg =>
  rw [if_pos c2]
  refine .inl ?_
  unfold poErr at c2 ⊢
  rw [if_neg (by simp [s1])] at c2 ⊢
  simp only
  split
  ·rfl
  ·rename_i hb; rw [if_neg hb] at c2; exact absurd rfl c2
 rw [if_neg (by simp [c2])]
 by_cases c3 : pbErr s.up = 0
 case neg =>
  rw [if_pos c3]
  refine .inl ?_
  unfold pbErr at c3 ⊢
  rw [if_neg (by simp [s2])] at c3 ⊢
  simp only
  split
  ·rfl
  ·rename_i hb; rw [if_neg hb] at c3; exact absurd rfl c3
 rw [if_neg (by simp [c3])]
 exact .inr ⟨rfl, c2, c3⟩
theorem kindV_push {s : Sq} : (kindV s = 1 ∨ kindV s = 3) ↔ chkP s.dn s.d s.h s.k = true := by
 unfold kindV
 cases chkP s.dn s.d s.h s.k <;> cases checkM s.up s.a s.f s.g <;> simp
theorem kindV_vals (s : Sq) : kindV s = 0 ∨ kindV s = 1 ∨ kindV s = 2 ∨ kindV s = 3 := by
 unfold kindV
 cases chkP s.dn s.d s.h s.k <;> cases checkM s.up s.a s.f s.g <;> simp
@[go_sem] def c_r10_Made_r0 : LL := [qB 3 0,qa 6 [.nl 1,.nl 3,.nl 1,.nl 3,.nl 1,.nl 3,.nl 1,.nl 1,.nl 1,.nl 1]]
@[go_sem] def c_r10_Made_r1 (F : Fn) : LL := [qL 8 2 3,qc 9 (F "r05.Made") [.t 8],qu 10 [.nl 1,.nl 3,.nl 1,.nl 3,.nl 1,.nl 3,.nl 1,.nl 1,.nl 1,.nl 1] [(0,2,.t 9)],
 qa 7 [.nl 1,.nl 3,.nl 1,.nl 3,.nl 1,.nl 3,.nl 1,.nl 1,.nl 1,.nl 1],qs 10 7 10]
@[go_sem] def c_r10_Made_r2 (F : Fn) : LL := [qf 12 0 7,qL 13 2 12,qm 14 1,qc 15 (F "r10.Grown") [.t 13,.t 14],qm 11 15,qx 16 11 0,qx 17 11 1,qf 18 2 7,qs 2 18 16,qf 19 6 7,qs 2 19 17]
@[go_sem] def c_r10_Made_r3 (F : Fn) : LL := [qf 21 0 7,qL 22 2 21,qm 23 2,qc 24 (F "r10.Grown") [.t 22,.t 23],qm 20 24,qx 25 20 0,qx 26 20 1,qf 27 4 7,qs 2 27 25,qf 28 8 7,qs 2 28 26]
@[go_sem] def c_r10_Made_r4 : LL := [qL 29 10 7,qs 10 6 29]
@[go_sem] def c_r10_Made (F : Fn) : LC := (.seq (.reg c_r10_Made_r0 [1,2,3,6]) (.seq (.reg (c_r10_Made_r1 F) [1,2,6,7]) (.seq (.reg (c_r10_Made_r2 F) [2,6,7]) (.seq (.reg (c_r10_Made_r3 F) [6,7]) (.seq (.reg c_r10_Made_r4 [6]) .ret)))))
def h_r10_Made : Hints := hOf [] (c_r10_Made fun _ => 0)
def madeSp (d : Dr) (b c : List Int) : Sp := ⟨madeG d, grG (madeG d) b, grG (madeG d) c, grM (madeG d) b, grM (madeG d) c⟩
def spA (s : Sp) : D := .agg [.arr 1 (ints s.a.n), .arr 3 (eds s.a.e), .arr 1 (ints s.b.n), .arr 3 (eds s.b.e), .arr 1 (ints s.c.n), .arr 3 (eds s.c.e), .arr 1 (ints s.f.n), .arr 1 (ints s.f.e), .arr 1 (ints s.g.n), .arr 1 (ints s.g.e)]
def Bts (l : List Int) : Prop := (∀ v ∈ l, Byte v) ∧ l.length ≤ maxL
section
variable (P : Program) (F : String → Nat)
def K_r10_Made : Prop := ∀ (d : Dr) (b c : List Int), d.ok → d.n.length ≤ maxL → d.e.length ≤ maxL → b.length ≤ 1000 → (∀ v ∈ b, Byte v) → c.length ≤ 1000 → (∀ v ∈ c, Byte v) → FC P (F "r10.Made") [drD d, .lst 1 (u8s b), .lst 1 (u8s c)] (spA (madeSp d b c)) []
end
section
variable {P : Program} {F : String → Nat} {α : Type}
theorem mdSp_ok {d : Dr} {b c : List Int} (hd : d.ok) (hb : ∀ v ∈ b, Byte v) (hc : ∀ v ∈ c, Byte v) : SOk (madeSp d b c) ∧ (madeSp d b c).b.n.length ≤ 11 ∧ (madeSp d b c).b.e.length ≤ 14 ∧ (madeSp d b c).c.n.length ≤ 11 ∧ (madeSp d b c).c.e.length ≤ 14 := by
 have va := madeG_valid hd
 have l1 := madeN_len d
 have l2 := madeE_len d
 have l3 : (madeG d).n.length ≤ 8 := l1
 obtain ⟨h1, h2, h3⟩ := gr_ok va hb (by omega) (by omega)
 obtain ⟨h4, h5, h6⟩ := gr_ok va hc (by omega) (by omega)
 have q1 : (madeSp d b c).b.n.length ≤ 11 := Nat.le_trans h2 (by omega)
 have q2 : (madeSp d b c).b.e.length ≤ 14 := Nat.le_trans h3 (by omega)
 have q3 : (madeSp d b c).c.n.length ≤ 11 := Nat.le_trans h5 (by omega)
 have q4 : (madeSp d b c).c.e.length ≤ 14 := Nat.le_trans h6 (by omega)
 exact ⟨⟨h1, h4, fun h => by unfold Big at h; omega⟩, q1, q2, q3, q4⟩
theorem w_r10_Made (hm : K_r05_Made P F) (hg : K_r10_Grown P F) (d : Dr) (b c : List Int) (hd : d.ok) (d1 : d.n.length ≤ maxL) (d2 : d.e.length ≤ maxL) (b1 : b.length ≤ 1000) (b2 : ∀ v ∈ b, Byte v) (c1 : c.length ≤ 1000) (c2 : ∀ v ∈ c, Byte v) :
  W P (c_r10_Made F) (Done [.c 6 true 10] [] (spA (madeSp d b c)) []) (init [drD d, .lst 1 (u8s b), .lst 1 (u8s c)]) := by
 refine W_of ?_
 have r1 := hm d hd d1 d2
 have va := madeG_valid hd
 have r2 := hg (madeG d) b va (by omega) b2
 have r3 := hg (madeG d) c va (by omega) c2
 unfold madeSp
 generalize grM (madeG d) b = bm at *
 generalize grM (madeG d) c = cm at *
 generalize grG (madeG d) b = bg at *
 generalize grG (madeG d) c = cg at *
 clear va
 generalize madeG d = a at *
 obtain ⟨an, ae⟩ := a
 obtain ⟨bn, be⟩ := bg
 obtain ⟨cn, ce⟩ := cg
 obtain ⟨bmn, bme⟩ := bm
 obtain ⟨cmn, cme⟩ := cm
 simp only [gD, gA, mD, mA, drD] at *
 simp (disch := omega) only [go_sem, ↓reduceIte]
 refine call_by r1 ?_
 simp (disch := omega) only [go_sem, ↓reduceIte]
 refine call_by r2 ?_
 simp (disch := omega) only [go_sem, ↓reduceIte]
 refine call_by r3 ?_
 simp (disch := omega) only [go_sem, ↓reduceIte]
 try rfl
end
def gluD (s : Sp) (r : G × Mo × Mo × Int) : D := .agg [.lst 1 (ints s.a.n), .lst 3 (eds s.a.e), .lst 1 (ints s.b.n), .lst 3 (eds s.b.e), .lst 1 (ints s.c.n), .lst 3 (eds s.c.e), .arr 1 (ints r.1.n), .arr 3 (eds r.1.e),
 .lst 1 (ints s.f.n), .lst 1 (ints s.f.e), .lst 1 (ints s.g.n), .lst 1 (ints s.g.e), .arr 1 (ints r.2.1.n), .arr 1 (ints r.2.1.e), .arr 1 (ints r.2.2.1.n), .arr 1 (ints r.2.2.1.e)]
section
variable (P : Program) (F : String → Nat)
def K_r14_Glued : Prop := ∀ s : Sp, FC P (F "r14.Glued") [spD s] (gluD s (poR s)) []
end
section
variable {P : Program} {F : String → Nat} {α : Type}
theorem w_r14_Glued (ho : K_r10_Of P F) (s : Sp) : W P (c_r14_Glued F) (Done [.c 2 true 16] [] (gluD s (poR s)) []) (init [spD s]) := by
 refine W_of ?_
 have r1 := ho s
 generalize poR s = r at *
 obtain ⟨⟨pn, pe⟩, ⟨hn, he⟩, ⟨kn, ke⟩, e⟩ := r
 simp only [gluD, poD, spD, gA, mA] at *
 simp (disch := omega) only [go_sem, ↓reduceIte]
 refine call_by r1 ?_
 simp (disch := omega) only [go_sem, ↓reduceIte]
 try rfl
end
@[go_sem] def c_l14_SquarePastes_r0 : LL := [qB 3 0,qB 4 1,qb 6 false]
@[go_sem] def c_l14_SquarePastes_r1 (F : Fn) : LL := [qc 20 (F "l14.awake") [],qv 21 20,qm 22 21,⟨some 23,.iaa 3 1 (.t 4) (.k (.int .i64 (0))),some (22,false)⟩,qg 22 false (ql 24 1 23),qg 22 false (qz 25 24),qg 22 false (qk .gtr 26 25 8),
 qQ 27 22 26,qm 28 27,⟨some 29,.iaa 3 1 (.t 4) (.k (.int .i64 (1))),some (28,false)⟩,qg 28 false (ql 30 1 29),qg 28 false (qz 31 30),qg 28 false (qk .gtr 32 31 8),qQ 33 28 32,
 qm 34 33,⟨some 35,.iaa 3 1 (.t 4) (.k (.int .i64 (2))),some (34,false)⟩,qg 34 false (ql 36 1 35),qg 34 false (qz 37 36),qg 34 false (qk .gtr 38 37 8),qQ 39 34 38,qm 40 39,
 qg 40 false (qm 41 2),qg 40 false (qz 42 41),qg 40 false (qk .gtr 43 42 8),qQ 44 40 43]
@[go_sem] def c_l14_SquarePastes_r2 (F : Fn) : LL := [qc 45 (F "l14.awake") [],qm 6 45]
@[go_sem] def c_l14_SquarePastes_r3 (F : Fn) : LL := [qL 46 2 3,⟨some 47,.iaa 3 1 (.t 4) (.k (.int .i64 (0))),none⟩,ql 48 1 47,⟨some 49,.iaa 3 1 (.t 4) (.k (.int .i64 (1))),none⟩,ql 50 1 49,qc 51 (F "r10.Made") [.t 46,.t 48,.t 50],
 qc 52 (F "r14.Glued") [.t 51],qa 7 [.nl 1,.nl 3,.nl 1,.nl 3,.nl 1,.nl 3,.nl 1,.nl 3,.nl 1,.nl 1,.nl 1,.nl 1,.nl 1,.nl 1,.nl 1,.nl 1],qs 16 7 52]
@[go_sem] def c_l14_SquarePastes_r4 (F : Fn) : LL := [qf 54 2 7,qL 55 2 54,⟨some 56,.iaa 3 1 (.t 4) (.k (.int .i64 (2))),none⟩,ql 57 1 56,qc 58 (F "r10.Grown") [.t 55,.t 57],qm 53 58,qx 59 53 0,qx 60 53 1,qa 8 [.nl 1,.nl 3],
 qa 9 [.nl 1,.nl 1],qs 2 8 59,qs 2 9 60]
@[go_sem] def c_l14_SquarePastes_r5 (F : Fn) : LL := [qf 61 2 7,qL 62 2 61,qL 63 2 8,qf 64 6 7,qL 65 2 64,qL 66 2 9,qf 67 12 7,qL 68 2 67,
 qu 69 [.nl 1,.nl 3,.nl 1,.nl 3,.nl 1,.nl 3,.nl 1,.nl 1,.nl 1,.nl 1] [(0,2,.t 62),(2,2,.t 63),(4,2,.t 65),(6,2,.t 66),(8,2,.t 68)],qc 70 (F "r14.Glued") [.t 69],
 qa 10 [.nl 1,.nl 3,.nl 1,.nl 3,.nl 1,.nl 3,.nl 1,.nl 3,.nl 1,.nl 1,.nl 1,.nl 1,.nl 1,.nl 1,.nl 1,.nl 1],qs 16 10 70]
@[go_sem] def c_l14_SquarePastes_r6 (F : Fn) : LL := [qL 72 16 7,qL 73 16 10,qc 74 (F "square.Paste") [.t 72,.t 73],qm 71 74,qx 75 71 0,qx 76 71 1,
 qa 11 [.nl 1,.nl 3,.nl 1,.nl 3,.nl 1,.nl 3,.nl 1,.nl 3,.nl 1,.nl 1,.nl 1,.nl 1,.nl 1,.nl 1,.nl 1,.nl 1],qs 16 11 75,qm 12 76]
@[go_sem] def c_l14_SquarePastes_r7 (F : Fn) : LL := [qL 78 16 11,qc 79 (F "square.Kind") [.t 78],qm 77 79,qx 80 77 0,qx 81 77 1,qm 13 80,qm 14 81]
@[go_sem] def c_l14_SquarePastes_r8 : LL := [qm 82 12,qk .neq 83 82 0,qm 84 83,qg 84 false (qm 85 14),qg 84 false (qk .neq 86 85 0),qQ 87 84 86,qm 88 87,qg 88 false (qm 89 13),qg 88 false (qk .and 90 89 1),
 qg 88 false (qk .eql 91 90 0),qQ 92 88 91]
@[go_sem] def c_l14_SquarePastes_r9 : LL := [qm 93 12,qk .eql 94 93 0,qm 95 94,qg 95 true (qm 96 14),qg 95 true (qk .eql 97 96 3),qP 98 95 97,qm 6 98]
@[go_sem] def c_l14_SquarePastes_r10 (F : Fn) : LL := [qf 100 6 10,qL 101 2 100,qm 102 2,qc 103 (F "r10.Grown") [.t 101,.t 102],qm 99 103,qx 104 99 0,qx 105 99 1,qa 15 [.nl 1,.nl 3],qa 16 [.nl 1,.nl 1],qs 2 15 104,qs 2 16 105]
@[go_sem] def c_l14_SquarePastes_r11 (F : Fn) : LL := [qL 106 2 15,qf 107 12 10,qL 108 2 107,qL 109 2 16,qc 110 (F "r06.Then") [.t 108,.t 109],qf 111 14 10,qL 112 2 111,qL 113 2 16,qc 114 (F "r06.Then") [.t 112,.t 113],qf 115 6 10,qs 2 115 106,
 qf 116 12 10,qs 2 116 110,qf 117 14 10,qs 2 117 114]
@[go_sem] def c_l14_SquarePastes_r12 (F : Fn) : LL := [qL 119 16 7,qL 120 16 10,qc 121 (F "square.Paste") [.t 119,.t 120],qm 118 121,qx 122 118 0,qx 123 118 1,qs 16 11 122,qm 12 123]
@[go_sem] def c_l14_SquarePastes_r13 (F : Fn) : LL := [qL 125 16 11,qc 126 (F "square.Kind") [.t 125],qm 124 126,qx 127 124 0,qx 128 124 1,qm 17 127,qm 14 128]
@[go_sem] def c_l14_SquarePastes_r14 (F : Fn) : LL := [qL 130 16 10,qc 131 (F "square.Kind") [.t 130],qm 129 131,qx 132 129 0,qx 133 129 1,qm 18 132,qm 19 133]
@[go_sem] def c_l14_SquarePastes_r15 : LL := [qm 134 12,qk .neq 135 134 0,qm 136 135,qg 136 false (qm 137 14),qg 136 false (qk .neq 138 137 0),qQ 139 136 138,qm 140 139,qg 140 false (qm 141 19),qg 140 false (qk .neq 142 141 0),
 qQ 143 140 142]
@[go_sem] def c_l14_SquarePastes_r16 : LL := [qm 144 12,qk .eql 145 144 0,qm 146 145,qg 146 true (qm 147 14),qg 146 true (qk .eql 148 147 3),qg 146 true (qm 149 148),qg 149 false (qm 150 19),qg 149 false (qk .eql 151 150 3),
 qg 146 true (qQ 152 149 151),qP 153 146 152,qm 6 153]
@[go_sem] def c_l14_SquarePastes_r17 : LL := [qm 154 17,qk .and 155 154 1,qm 156 18,qk .and 157 156 1,qo .eql 158 155 157,qm 6 158]
@[go_sem] def c_l14_SquarePastes (F : Fn) : LC := (.seq (.reg c_l14_SquarePastes_r0 [2,3,4]) (.seq (.seq (.reg (c_l14_SquarePastes_r1 F) [2,3,4,44]) (.cond (.t 44) (.seq (.reg (c_l14_SquarePastes_r2 F) [6]) .ret) .skip)) (.seq (.reg (c_l14_SquarePastes_r3 F) [2,4,7]) (.seq (.reg (c_l14_SquarePastes_r4 F) [2,7,8,9]) (.seq (.reg (c_l14_SquarePastes_r5 F) [2,7,10]) (.seq (.reg (c_l14_SquarePastes_r6 F) [2,7,10,11,12]) (.seq (.reg (c_l14_SquarePastes_r7 F) [2,7,10,11,12,13,14]) (.seq (.seq (.reg c_l14_SquarePastes_r8 [2,7,10,11,12,14,92]) (.cond (.t 92) (.seq (.reg c_l14_SquarePastes_r9 [6]) .ret) .skip)) (.seq (.reg (c_l14_SquarePastes_r10 F) [7,10,11,15,16]) (.seq (.dreg [(0,none,[],true),(4,none,[0],true),(6,(some 32),[4],false),(7,(some 0),[4],false),(8,none,[0],false)] (c_l14_SquarePastes_r11 F) [7,10,11]) (.seq (.reg (c_l14_SquarePastes_r12 F) [10,11,12]) (.seq (.reg (c_l14_SquarePastes_r13 F) [10,12,14,17]) (.seq (.reg (c_l14_SquarePastes_r14 F) [12,14,17,18,19]) (.seq (.seq (.reg c_l14_SquarePastes_r15 [12,14,17,18,19,143]) (.cond (.t 143) (.seq (.reg c_l14_SquarePastes_r16 [6]) .ret) .skip)) (.seq (.reg c_l14_SquarePastes_r17 [6]) .ret)))))))))))))))
def h_l14_SquarePastes : Hints := hOf [] (c_l14_SquarePastes fun _ => 0)
def pstT (s : Sp) (c : List Int) : Sp := ⟨s.b, grG s.b c, poG s, grM s.b c, poP s⟩
def gloS (s : Sp) : Sq := ⟨s.a, s.b, s.c, poG s, s.f, s.g, poP s, poK s⟩
def pstU (s : Sp) (m : List Int) : Sq := ⟨s.a, s.b, s.c, grG (poG s) m, s.f, s.g, thenM (poP s) (grM (poG s) m), thenM (poK s) (grM (poG s) m)⟩
section
variable (P : Program) (F : String → Nat)
def K_l14_SquarePastes : Prop := ∀ (d : Dr) (b c e m : List Int), d.ok → d.n.length ≤ maxL → d.e.length ≤ maxL → Bts b → Bts c → Bts e → Bts m → FC P (F "l14.SquarePastes") [drD d, .agg [.lst 1 (u8s b), .lst 1 (u8s c), .lst 1 (u8s e)], .lst 1 (u8s m)] (.bool true) []
end
section
variable {P : Program} {F : String → Nat} {α : Type}
theorem gloS_eq {s : Sp} (hs : SOk s) : gluS s = gloS s := by unfold gluS gloS; rw [poR_ok hs]
theorem gloS_psh {s : Sp} (hs : SOk s) : Psh (gloS s) := by rw [← gloS_eq hs]; exact hs.psh
theorem kind_push {s : Sq} (h : Psh s) : (kindR s).2 = 3 ∨ (kindR s).2 = 0 ∧ ((kindR s).1 = 1 ∨ (kindR s).1 = 3) := by
 rcases kind_cases h.q h.c with e | ⟨e, e1, e2⟩
 ·exact .inl e
 ·rw [e]
  exact .inr ⟨rfl, kindV_push.2 (h.chk e1)⟩
theorem kind_same {s t : Sq} (hs : Psh s) (q : QOk t) (c : thenM t.f t.h = thenM t.g t.k) (e1 : t.a = s.b) (e2 : t.c = s.d) (e3 : t.g = s.h) :
  ((kindR (pasS s t)).2 = 3 ∨ (kindR (pasS s t)).2 = 0) ∧ ((kindR t).2 = 3 ∨ (kindR t).2 = 0) ∧ ((kindR (pasS s t)).2 = 0 → (kindR t).2 = 0 →
   ((kindR (pasS s t)).1 = 1 ∨ (kindR (pasS s t)).1 = 3) ∧ ((kindR t).1 = 1 ∨ (kindR t).1 = 3) ∨ ((kindR (pasS s t)).1 = 0 ∨ (kindR (pasS s t)).1 = 2) ∧ ((kindR t).1 = 0 ∨ (kindR t).1 = 2)) := by
 have q2 := pas_q e1 e2 e3 hs.q q
 have c2 := pas_c e1 e2 e3 hs.q q hs.c c
 rcases kind_cases q2 c2 with a | ⟨a, a1, a2⟩
 ·refine ⟨.inl a, ?_, fun h => by rw [a] at h; cases h⟩
  rcases kind_cases q c with b | ⟨b, _⟩
  ·exact .inl b
  ·rw [b]; exact .inr rfl
 rcases kind_cases q c with b | ⟨b, b1, b2⟩
 ·exact ⟨by rw [a]; exact .inr rfl, .inl b, fun _ h => by rw [b] at h; cases h⟩
 refine ⟨by rw [a]; exact .inr rfl, by rw [b]; exact .inr rfl, fun _ _ => ?_⟩
 rw [a, b]
 simp only
 have key : (kindV (pasS s t) = 1 ∨ kindV (pasS s t) = 3) ↔ (kindV t = 1 ∨ kindV t = 3) := by
  rw [kindV_push, kindV_push]
  constructor
  ·intro h; exact (hs.second e1 e2 e3 q c (Psh.of q2 c2 a1 h)).chk b1
  ·intro h; exact (hs.paste e1 e2 e3 (Psh.of q c b1 h)).chk a1
 have v1 := kindV_vals (pasS s t)
 have v2 := kindV_vals t
 omega
theorem pst_T {s : Sp} (hs : SOk s) {c : List Int} (hc : ∀ v ∈ c, Byte v) (z1 : s.b.n.length ≤ 11) (z2 : s.b.e.length ≤ 14) (z3 : s.c.n.length ≤ 11) (z4 : s.c.e.length ≤ 14) : SOk (pstT s c) ∧ (poG (pstT s c)).n.length ≤ 36 ∧ (poG (pstT s c)).e.length ≤ 46 := by
 obtain ⟨p1, p2⟩ := po_len hs
 obtain ⟨h1, h2, h3⟩ := gr_ok hs.f.vb hc (by omega) (by omega)
 have ok : SOk (pstT s c) := ⟨h1, hs.p, fun h => by
  simp only [Big, pstT] at h
  omega⟩
 obtain ⟨q1, q2⟩ := po_len ok
 simp only [pstT] at q1 q2
 exact ⟨ok, by simp only [pstT]; omega, by simp only [pstT]; omega⟩
theorem pst_U {s : Sp} (hs : SOk s) {m : List Int} (hm : ∀ v ∈ m, Byte v) (z1 : (poG s).n.length ≤ 36) (z2 : (poG s).e.length ≤ 46) : QOk (pstU s m) ∧ thenM (pstU s m).f (pstU s m).h = thenM (pstU s m).g (pstU s m).k := by
 obtain ⟨h1, _, _⟩ := gr_ok hs.p.vb hm (by omega) (by omega)
 refine ⟨⟨hs.f, hs.g, then_okP hs.p h1, then_okP hs.k h1⟩, ?_⟩
 simp only [pstU]
 rw [← then_assoc hs.f hs.p, ← then_assoc hs.g hs.k, hs.comm]
set_option maxHeartbeats 4000000 in
set_option maxRecDepth 100000 in
theorem w_l14_SquarePastes (hw : K_l14_awake P F) (hm : K_r10_Made P F) (hg : K_r14_Glued P F) (hgr : K_r10_Grown P F) (hp : K_square_Paste P F) (hk : K_square_Kind P F) (ht : K_r06_Then P F) (d : Dr) (b c e m : List Int) (hd : d.ok) (d1 : d.n.length ≤ maxL) (d2 : d.e.length ≤ maxL) (hb : Bts b) (hc : Bts c) (he : Bts e) (hmm : Bts m) :
  W P (c_l14_SquarePastes F) (Done [.t 6] [] (.bool true) []) (init [drD d, .agg [.lst 1 (u8s b), .lst 1 (u8s c), .lst 1 (u8s e)], .lst 1 (u8s m)]) := by
 refine W_of ?_
 obtain ⟨hb1, hb2⟩ := hb
 obtain ⟨hc1, hc2⟩ := hc
 obtain ⟨he1, he2⟩ := he
 obtain ⟨hm1, hm2⟩ := hmm
 unfold maxL at hb2 hc2 he2 hm2
 by_cases a1 : b.length ≤ 8
 case neg =>
  have e1 : decide ((8 : Int) < b.length) = true := decide_eq_true (by omega)
  simp only [drD] at *
  simp (disch := omega) only [go_sem, ↓reduceIte]
  refine call_by hw ?_
  simp (disch := omega) only [go_sem, ↓reduceIte, e1]
  refine call_by hw ?_
  simp (disch := omega) only [go_sem, ↓reduceIte]
 have e1 : decide ((8 : Int) < b.length) = false := decide_eq_false (by omega)
 by_cases a2 : c.length ≤ 8
 case neg =>
  have e2 : decide ((8 : Int) < c.length) = true := decide_eq_true (by omega)
  simp only [drD] at *
  simp (disch := omega) only [go_sem, ↓reduceIte]
  refine call_by hw ?_
  simp (disch := omega) only [go_sem, ↓reduceIte, e1, e2]
  refine call_by hw ?_
  simp (disch := omega) only [go_sem, ↓reduceIte]
 have e2 : decide ((8 : Int) < c.length) = false := decide_eq_false (by omega)
 by_cases a3 : e.length ≤ 8
 case neg =>
  have e3 : decide ((8 : Int) < e.length) = true := decide_eq_true (by omega)
  simp only [drD] at *
  simp (disch := omega) only [go_sem, ↓reduceIte]
  refine call_by hw ?_
  simp (disch := omega) only [go_sem, ↓reduceIte, e1, e2, e3]
  refine call_by hw ?_
  simp (disch := omega) only [go_sem, ↓reduceIte]
 have e3 : decide ((8 : Int) < e.length) = false := decide_eq_false (by omega)
 by_cases a4 : m.length ≤ 8
 case neg =>
  have e4 : decide ((8 : Int) < m.length) = true := decide_eq_true (by omega)
  simp only [drD] at *
  simp (disch := omega) only [go_sem, ↓reduceIte]
  refine call_by hw ?_
  simp (disch := omega) only [go_sem, ↓reduceIte, e1, e2, e3, e4]
  refine call_by hw ?_
  simp (disch := omega) only [go_sem, ↓reduceIte]
 have e4 : decide ((8 : Int) < m.length) = false := decide_eq_false (by omega)
 have r1 := hm d b c hd d1 d2 (by omega) hb1 (by omega) hc1
 obtain ⟨hs, z1, z2, z3, z4⟩ := mdSp_ok hd hb1 hc1
 generalize madeSp d b c = s at *
 obtain ⟨hT, y1, y2⟩ := pst_T hs he1 z1 z2 z3 z4
 obtain ⟨qU, cU⟩ := pst_U hT hm1 y1 y2
 have pS := gloS_psh hs
 have pT := gloS_psh hT
 have r2 := hg s
 rw [poR_ok hs] at r2
 have r3 := hgr s.b e hs.f.vb (by omega) he1
 have r4 := hg (pstT s e)
 rw [poR_ok hT] at r4
 have r5 := hp (gloS s) (gloS (pstT s e)) pS.q.bd.2.2.2.2 pT.q.bd.2.2.2.2
 rw [pastR_ok (pastE_ok.2 ⟨pS.q, pT.q, rfl, rfl, rfl⟩)] at r5
 have r6 := hk (pasS (gloS s) (gloS (pstT s e)))
 have k1 := kind_push (pS.paste rfl rfl rfl pT)
 have r7 := hgr (poG (pstT s e)) m hT.p.vb (by omega) hm1
 obtain ⟨mu, _, _⟩ := gr_ok hT.p.vb hm1 (by omega) (by omega)
 have f1 := hT.p.fit mu
 have f2 := hT.k.fit mu
 have r8 := ht (poP (pstT s e)) (grM (poG (pstT s e)) m) (by omega) (by omega) f1.2.1 f1.2.2
 have r9 := ht (poK (pstT s e)) (grM (poG (pstT s e)) m) (by omega) (by omega) f2.2.1 f2.2.2
 have r10 := hp (gloS s) (pstU (pstT s e) m) pS.q.bd.2.2.2.2 qU.bd.2.2.2.2
 rw [pastR_ok (pastE_ok.2 ⟨pS.q, qU, rfl, rfl, rfl⟩)] at r10
 have r11 := hk (pasS (gloS s) (pstU (pstT s e) m))
 have r12 := hk (pstU (pstT s e) m)
 obtain ⟨k2, k3, k4⟩ := kind_same pS qU cU rfl rfl rfl
 clear qU cU pS pT hT hs f1 f2 mu hm hg hgr hp hk ht
 generalize kindR (pasS (gloS s) (gloS (pstT s e))) = K1 at *
 generalize kindR (pasS (gloS s) (pstU (pstT s e) m)) = K2 at *
 generalize kindR (pstU (pstT s e) m) = K3 at *
 obtain ⟨u1, v1⟩ := K1
 obtain ⟨u2, v2⟩ := K2
 obtain ⟨u3, v3⟩ := K3
 simp only [gloS, pstU, pasS, gluD] at *
 generalize thenM s.f (pstT s e).f = ff at *
 generalize thenM (poP (pstT s e)) (grM (poG (pstT s e)) m) = h3 at *
 generalize thenM (poK (pstT s e)) (grM (poG (pstT s e)) m) = k5 at *
 generalize thenM (poK s) (poK (pstT s e)) = kk at *
 generalize thenM (poK s) k5 = kk2 at *
 generalize grG (poG (pstT s e)) m = y at *
 generalize grM (poG (pstT s e)) m = ym at *
 generalize poG (pstT s e) = q at *
 generalize poP (pstT s e) = h2 at *
 generalize poK (pstT s e) = k6 at *
 simp only [pstT] at *
 generalize grG s.b e = b2 at *
 generalize grM s.b e = f2 at *
 generalize poG s = p at *
 generalize poP s = h1 at *
 generalize poK s = k7 at *
 obtain ⟨⟨an, ae⟩, ⟨bn, be⟩, ⟨cn, ce⟩, ⟨fn, fe⟩, ⟨gn, ge⟩⟩ := s
 obtain ⟨ffn, ffe⟩ := ff
 obtain ⟨h3n, h3e⟩ := h3
 obtain ⟨k5n, k5e⟩ := k5
 obtain ⟨kkn, kke⟩ := kk
 obtain ⟨kk2n, kk2e⟩ := kk2
 obtain ⟨yn, ye⟩ := y
 obtain ⟨ymn, yme⟩ := ym
 obtain ⟨qn, qe⟩ := q
 obtain ⟨h2n, h2e⟩ := h2
 obtain ⟨k6n, k6e⟩ := k6
 obtain ⟨b2n, b2e⟩ := b2
 obtain ⟨f2n, f2e⟩ := f2
 obtain ⟨pn, pe⟩ := p
 obtain ⟨h1n, h1e⟩ := h1
 obtain ⟨k7n, k7e⟩ := k7
 simp only [gD, gA, mD, mA, spD, spA, sqD, sqA, gluD, drD] at *
 clear z1 z2 z3 z4 y1 y2
 simp (disch := omega) only [go_sem, ↓reduceIte]
 refine call_by hw ?_
 simp (disch := omega) only [go_sem, ↓reduceIte, e1, e2, e3, e4]
 refine call_by r1 ?_
 simp (disch := omega) only [go_sem, ↓reduceIte]
 refine call_by r2 ?_
 simp (disch := omega) only [go_sem, ↓reduceIte]
 refine call_by r3 ?_
 simp (disch := omega) only [go_sem, ↓reduceIte]
 refine call_by r4 ?_
 simp (disch := omega) only [go_sem, ↓reduceIte]
 refine call_by r5 ?_
 simp (disch := omega) only [go_sem, ↓reduceIte]
 refine call_by r6 ?_
 have n3 : decide ((0 : Int) = 3) = false := by decide
 have n0 : decide ((3 : Int) = 0) = false := by decide
 have n1 : decide ((1 : Int) = 0) = false := by decide
 rcases k1 with rfl | ⟨rfl, k1⟩
 ·simp (disch := omega) only [go_sem, ↓reduceIte, n0]
 simp (disch := omega) only [go_sem, ↓reduceIte]
 refine bran_dec (fun c => absurd c ?_) (fun _ => ?_)
 ·rcases k1 with rfl | rfl <;> decide
 simp (disch := omega) only [go_sem, ↓reduceIte]
 refine call_by r7 ?_
 simp (disch := omega) only [go_sem, ↓reduceIte]
 refine call_by r8 ?_
 simp (disch := omega) only [go_sem, ↓reduceIte]
 refine call_by r9 ?_
 simp (disch := omega) only [go_sem, ↓reduceIte]
 refine call_by r10 ?_
 simp (disch := omega) only [go_sem, ↓reduceIte]
 refine call_by r11 ?_
 simp (disch := omega) only [go_sem, ↓reduceIte]
 refine call_by r12 ?_
 rcases k2 with rfl | rfl
 ·rcases k3 with rfl | rfl
  ·simp (disch := omega) only [go_sem, ↓reduceIte, n0]
  ·simp (disch := omega) only [go_sem, ↓reduceIte, n0]
 rcases k3 with rfl | rfl
 ·simp (disch := omega) only [go_sem, ↓reduceIte, n0, n3]
 simp (disch := omega) only [go_sem, ↓reduceIte]
 rcases k4 rfl rfl with ⟨rfl | rfl, rfl | rfl⟩ | ⟨rfl | rfl, rfl | rfl⟩ <;> first | rfl | decide
def shU83 : Sh := .cat [shU8s, shU8s, shU8s]
theorem rd_u83 {x : D} (h : HasEl shU83 x) : ∃ b c e : List Int, x = .agg [.lst 1 (u8s b), .lst 1 (u8s c), .lst 1 (u8s e)] ∧ Bts b ∧ Bts c ∧ Bts e := by
 simp only [shU83, HasEl] at h
 obtain ⟨ds, rfl, h⟩ := h
 obtain ⟨_, _, rfl, h1, h⟩ := hasShs_slc h
 obtain ⟨_, _, rfl, h2, h⟩ := hasShs_slc h
 obtain ⟨_, _, rfl, h3, h⟩ := hasShs_slc h
 obtain rfl := hasShs_nil h
 obtain ⟨b, rfl, b1, b2⟩ := rd_u8s h1
 obtain ⟨c, rfl, c1, c2⟩ := rd_u8s h2
 obtain ⟨e, rfl, e1, e2⟩ := rd_u8s h3
 exact ⟨b, c, e, rfl, ⟨b1, b2⟩, ⟨c1, c2⟩, ⟨e1, e2⟩⟩
theorem x_l14_SquarePastes (h : K_l14_SquarePastes P F) (args : List D) (ha : HasEls [shDr, shU83, shU8s] args) : FC P (F "l14.SquarePastes") args (.bool true) [] := by
 simp only [HasEls] at ha
 obtain ⟨_, _, rfl, h1, _, _, rfl, h2, _, _, rfl, h3, rfl⟩ := ha
 obtain ⟨x, rfl, a1, a2, a3⟩ := rd_draft h1
 obtain ⟨b, c, e, rfl, hb, hc, he⟩ := rd_u83 h2
 obtain ⟨m, rfl, m1, m2⟩ := rd_u8s h3
 exact h x b c e m a1 a2 a3 hb hc he ⟨m1, m2⟩
end
end Go.Am
