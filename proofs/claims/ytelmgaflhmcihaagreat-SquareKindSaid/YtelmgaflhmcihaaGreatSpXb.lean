/- Pushouts: Mediate and Check; the example of the chapter. -/
import Derived.Test.YtelmgaflhmcihaaGreatSpPa
import Derived.Test.YtelmgaflhmcihaaGreatSpPb
import Derived.Test.YtelmgaflhmcihaaGreatSpPc
import Derived.Test.YtelmgaflhmcihaaGreatSpPd
import Derived.Test.YtelmgaflhmcihaaGreatSpPe
import Derived.Test.YtelmgaflhmcihaaGreatSpXa
namespace Go.Am
open Go
set_option linter.unusedVariables false
set_option linter.unusedSimpArgs false
attribute [local irreducible] W
section
variable (P : Program) (F : String → Nat)
end
section
variable {P : Program} {F : String → Nat} {α : Type}
set_option maxHeartbeats 2000000 in
theorem w_r10_Cocone (hp : K_r10_Span P F) (hv : K_r06_Valid P F) (hu : K_r05_Union P F) (ht : K_r06_Then P F) (hsm : K_r06_Same P F) (s : Sp) (x : G) (h k : Mo) :
  W P (c_r10_Cocone F) (Done [.t 8] [] (.int .i64 (cocE s x h k)) []) (init [spD s, gD x, mD h, mD k]) := by
 refine W_of ?_
 have r1 := hp s
 have r2 := hv s.b x h
 have r3 := hv s.c x k
 have hE : cocE s x h k = if spE s ≠ 0 then spE s else if validM s.b x h ≠ 0 then validM s.b x h else if validM s.c x k ≠ 0 then validM s.c x k else if Big s.b s.c then 3 else if thenM s.f h = thenM s.g k then 0 else 11 := rfl
 by_cases c1 : spE s = 0
 ·rw [if_neg (by simp [c1])] at hE
  by_cases c2 : validM s.b x h = 0
  ·rw [if_neg (by simp [c2])] at hE
   by_cases c3 : validM s.c x k = 0
   ·rw [if_neg (by simp [c3])] at hE
    obtain ⟨hf, hgg⟩ := spE_ok.1 c1
    have hh := mok.1 c2
    have hk := mok.1 c3
    have r4 := hu s.b s.c
    rw [uniG_ok hf.vb hgg.vb] at r4
    rw [c1] at r1
    rw [c2] at r2
    rw [c3] at r3
    by_cases hb : Big s.b s.c
    ·rw [if_pos hb] at hE r4
     rw [hE]
     simp only [uniD, g0, m0, gD, gA, mD, mA, spD] at *
     simp (disch := omega) only [go_sem, ↓reduceIte]
     refine call_by r1 ?_
     simp (disch := omega) only [go_sem, ↓reduceIte]
     refine call_by r2 ?_
     simp (disch := omega) only [go_sem, ↓reduceIte]
     refine call_by r3 ?_
     simp (disch := omega) only [go_sem, ↓reduceIte]
     refine call_by r4 ?_
     simp (disch := omega) only [go_sem, ↓reduceIte]
     refine bran_ndec (fun _ => ?_) (fun h => absurd h (by decide))
     simp (disch := omega) only [go_sem, ↓reduceIte]
     try simp
    ·rw [if_neg hb] at hE r4
     have va := valid_spec hf.va
     have ln := hf.ln
     have le := hf.le
     have mn := hgg.ln
     have me := hgg.le
     have h1 := hh.ln
     have h2 := hh.le
     have k1 := hk.ln
     have k2 := hk.le
     have bf := validM_bd (mok.2 hf)
     have bg := validM_bd (mok.2 hgg)
     have t1 := ht s.f h (by omega) (by omega) (by rw [h1]; exact bf.1) (by rw [h2]; exact bf.2)
     have t2 := ht s.g k (by omega) (by omega) (by rw [k1]; exact bg.1) (by rw [k2]; exact bg.2)
     have sm := hsm (thenM s.f h) (thenM s.g k) (by simp only [thenM, thr_len]; unfold maxL; omega) (by simp only [thenM, thr_len]; unfold maxL; omega)
     rw [hE]
     clear hE bf bg hf hgg hh hk hb c1 c2 c3
     by_cases c4 : thenM s.f h = thenM s.g k
     all_goals
      first
       | (rw [decide_eq_true c4] at sm; rw [if_pos c4])
       | (rw [decide_eq_false c4] at sm; rw [if_neg c4])
      clear c4
      generalize thenM s.f h = fh at *
      generalize thenM s.g k = gk at *
      generalize unG s.b s.c = uu at *
      generalize idM s.b = ii at *
      generalize inR s.b s.c = jj at *
      obtain ⟨un, ue⟩ := uu
      obtain ⟨i1, i2⟩ := ii
      obtain ⟨j1, j2⟩ := jj
      obtain ⟨f1', f2'⟩ := fh
      obtain ⟨g1, g2⟩ := gk
      simp only [uniD, gD, gA, mD, mA, spD] at *
      simp (disch := omega) only [go_sem, ↓reduceIte]
      refine call_by r1 ?_
      simp (disch := omega) only [go_sem, ↓reduceIte]
      refine call_by r2 ?_
      simp (disch := omega) only [go_sem, ↓reduceIte]
      refine call_by r3 ?_
      simp (disch := omega) only [go_sem, ↓reduceIte]
      refine call_by r4 ?_
      simp (disch := omega) only [go_sem, ↓reduceIte]
      refine call_by t1 ?_
      simp (disch := omega) only [go_sem, ↓reduceIte]
      refine call_by t2 ?_
      simp (disch := omega) only [go_sem, ↓reduceIte]
      refine call_by sm ?_
      simp (disch := omega) only [go_sem, ↓reduceIte]
   ·rw [if_pos c3] at hE
    rw [hE]
    rw [c1] at r1
    rw [c2] at r2
    generalize validM s.c x k = v at *
    clear hE
    simp only [gD, mD, spD] at *
    simp (disch := omega) only [go_sem, ↓reduceIte]
    refine call_by r1 ?_
    simp (disch := omega) only [go_sem, ↓reduceIte]
    refine call_by r2 ?_
    simp (disch := omega) only [go_sem, ↓reduceIte]
    refine call_by r3 ?_
    simp (disch := omega) only [go_sem, ↓reduceIte, c3]
  ·rw [if_pos c2] at hE
   rw [hE]
   rw [c1] at r1
   generalize validM s.b x h = v at *
   clear hE
   simp only [gD, mD, spD] at *
   simp (disch := omega) only [go_sem, ↓reduceIte]
   refine call_by r1 ?_
   simp (disch := omega) only [go_sem, ↓reduceIte]
   refine call_by r2 ?_
   simp (disch := omega) only [go_sem, ↓reduceIte, c2]
 ·rw [if_pos c1] at hE
  rw [hE]
  generalize spE s = v at *
  clear hE
  simp only [gD, mD, spD] at *
  simp (disch := omega) only [go_sem, ↓reduceIte]
  refine call_by r1 ?_
  simp (disch := omega) only [go_sem, ↓reduceIte, c1]
theorem w_r10_Mediate (hc : K_r10_Cocone P F) (ho : K_r10_Of P F) (hn : K_r10_onto P F) (s : Sp) (x : G) (h k : Mo) :
  W P (c_r10_Mediate F) (Done [.c 8 true 2, .t 9] [] (.tup [mA (medP s x h k).1, .int .i64 (medP s x h k).2]) []) (init [spD s, gD x, mD h, mD k]) := by
 refine W_of ?_
 have r1 := hc s x h k
 by_cases c : cocE s x h k = 0
 ·rw [coc_ok c]
  have r2 := ho s
  obtain ⟨hs, hh, hk, _⟩ := cocE_ok.1 c
  rw [poR_ok hs] at r2
  rw [c] at r1
  have vd := valid_spec hs.p.vb
  obtain ⟨o1, o2⟩ := on_ok hs.p hh
  obtain ⟨o3, o4⟩ := on_ok hs.k hk
  have f1 := hn _ _ _ _ _ (by omega) o1 o3
  have f2 := hn _ _ _ _ _ (by omega) o2 o4
  have hmU : medU s h k = ⟨ontoL (poG s).n.length (poP s).n h.n (poK s).n k.n, ontoL (poG s).e.length (poP s).e h.e (poK s).e k.e⟩ := rfl
  rw [hmU]
  clear hmU o1 o2 o3 o4 hs hh hk c
  generalize ontoL (poG s).n.length (poP s).n h.n (poK s).n k.n = u1 at *
  generalize ontoL (poG s).e.length (poP s).e h.e (poK s).e k.e = u2 at *
  generalize poG s = d at *
  generalize poP s = pp at *
  generalize poK s = kk at *
  obtain ⟨dn, de⟩ := d
  obtain ⟨pn, pe⟩ := pp
  obtain ⟨kn, ke⟩ := kk
  simp only [poD, gD, gA, mD, mA, spD] at *
  simp (disch := omega) only [go_sem, ↓reduceIte]
  refine call_by r1 ?_
  simp (disch := omega) only [go_sem, ↓reduceIte]
  refine call_by r2 ?_
  simp (disch := omega) only [go_sem, ↓reduceIte]
  refine call_by f1 ?_
  simp (disch := omega) only [go_sem, ↓reduceIte]
  refine call_by f2 ?_
  simp (disch := omega) only [go_sem, ↓reduceIte]
  try rfl
 ·rw [coc_bad c]
  generalize cocE s x h k = v at *
  simp only [gD, mD, spD] at *
  simp (disch := omega) only [go_sem, ↓reduceIte]
  refine call_by r1 ?_
  simp (disch := omega) only [go_sem, ↓reduceIte, c]
  simp [m0, mA, ints]
theorem w_r10_Check (hm : K_r10_Mediate P F) (ho : K_r10_Of P F) (hi : K_r06_Inverse P F) (s : Sp) (x : G) (h k : Mo) : W P (c_r10_Check F) (Done [.t 8] [] (.bool (chkP s x h k)) []) (init [spD s, gD x, mD h, mD k]) := by
 refine W_of ?_
 have r1 := hm s x h k
 have hC : chkP s x h k = (decide (cocE s x h k = 0) && (injM (poG s) x (medU s h k) && surM (poG s) x (medU s h k))) := rfl
 rw [hC]
 by_cases c : cocE s x h k = 0
 ·obtain ⟨hs, _⟩ := cocE_ok.1 c
  have r2 := ho s
  rw [coc_ok c] at r1
  rw [poR_ok hs] at r2
  rw [decide_eq_true c]
  have r3 := hi (poG s) x (medU s h k)
  have hv := (medU_ok c).1
  have hI : decide ((invM (poG s) x (medU s h k)).2 = 0) = (injM (poG s) x (medU s h k) && surM (poG s) x (medU s h k)) := by
   unfold invM
   rw [if_neg (by simp [mok.2 hv])]
   cases injM (poG s) x (medU s h k) <;> cases surM (poG s) x (medU s h k) <;> rfl
  rw [← hI]
  clear hs c hC hI hv
  generalize invM (poG s) x (medU s h k) = iv at *
  generalize medU s h k = u at *
  generalize poG s = d at *
  generalize poP s = pp at *
  generalize poK s = kk at *
  obtain ⟨dn, de⟩ := d
  obtain ⟨pn, pe⟩ := pp
  obtain ⟨kn, ke⟩ := kk
  obtain ⟨un, ue⟩ := u
  obtain ⟨⟨in_, ie⟩, ir⟩ := iv
  simp only [poD, gD, gA, mD, mA, spD] at *
  simp (disch := omega) only [go_sem, ↓reduceIte]
  refine call_by r1 ?_
  simp (disch := omega) only [go_sem, ↓reduceIte]
  refine call_by r2 ?_
  simp (disch := omega) only [go_sem, ↓reduceIte]
  refine call_by r3 ?_
  simp (disch := omega) only [go_sem, ↓reduceIte]
 ·rw [coc_bad c] at r1
  rw [decide_eq_false c]
  generalize cocE s x h k = v at *
  simp only [gD, mD, spD, mA, m0] at *
  simp (disch := omega) only [go_sem, ↓reduceIte]
  refine call_by r1 ?_
  simp (disch := omega) only [go_sem, ↓reduceIte, c]
end
@[go_sem] def c_r11_pairs_r0 : LL := [qn 6 2]
@[go_sem] def c_r11_pairs_r1 : LL := [qn 7 2]
@[go_sem] def c_r11_pairs_r2 : LL := [qi 8 0]
@[go_sem] def c_r11_pairs_r3 : LL := [qm 10 8,qm 11 0,qz 12 11,qo .lss 13 10 12]
@[go_sem] def c_r11_pairs_r4 : LL := [qi 9 0]
@[go_sem] def c_r11_pairs_r5 : LL := [qm 16 9,qm 17 1,qz 18 17,qo .lss 19 16 18]
@[go_sem] def c_r11_pairs_r6 : LL := [qm 22 0,qm 23 8,qd 24 1 22 23,ql 25 1 24,qm 26 1,qm 27 9,qd 28 1 26 27,ql 29 1 28,qo .eql 30 25 29,qm 31 30,qg 31 true (qm 32 7),qg 31 true (qz 33 32),qg 31 true (qm 34 2),
 qg 31 true (qo .leq 35 33 34),qP 36 31 35]
@[go_sem] def c_r11_pairs_r7 : LL := [qm 37 7,qm 38 8,qm 39 9,qu 40 [.int .i64 (0),.int .i64 (0)] [(0,1,.t 38),(1,1,.t 39)],⟨some 41,.buildSl 2 16 (.agg [.int .i64 (0),.int .i64 (0)]) 1 [(0,.t 40)],none⟩,
 qp 42 2 16 37 41,qm 7 42]
@[go_sem] def c_r11_pairs_r8 : LL := [qm 20 9,qk .add 21 20 1,qm 9 21]
def c_r11_pairs_b9 : LC := (.seq (.seq (.reg c_r11_pairs_r5 [0,1,2,7,8,9,19]) (.cond (.t 19) .skip (.exit 2))) (.seq (.block 3 (.seq (.dreg [] c_r11_pairs_r6 [0,1,2,7,8,9,36]) (.cond (.t 36) (.reg c_r11_pairs_r7 [0,1,2,7,8,9]) .skip))) (.reg c_r11_pairs_r8 [0,1,2,7,8,9])))
@[go_sem] def c_r11_pairs_r10 : LL := [qm 14 8,qk .add 15 14 1,qm 8 15]
def c_r11_pairs_b11 : LC := (.seq (.seq (.reg c_r11_pairs_r3 [0,1,2,7,8,13]) (.cond (.t 13) .skip (.exit 0))) (.seq (.block 1 (.seq (.reg c_r11_pairs_r4 [0,1,2,7,8,9]) (.block 2 (.loop [0,1,2,7,8,9] c_r11_pairs_b9)))) (.reg c_r11_pairs_r10 [0,1,2,7,8])))
@[go_sem] def c_r11_pairs_r12 : LL := [qm 43 7,qm 6 43]
@[go_sem] def c_r11_pairs (F : Fn) : LC := (.seq (.reg c_r11_pairs_r0 [0,1,2]) (.seq (.reg c_r11_pairs_r1 [0,1,2,7]) (.seq (.seq (.reg c_r11_pairs_r2 [0,1,2,7,8]) (.block 0 (.loop [0,1,2,7,8] c_r11_pairs_b11))) (.seq (.reg c_r11_pairs_r12 [6]) .ret))))
def h_r11_pairs : Hints := hn [] [(0,[0,1,2]),(1,[0,1,2,7]),(2,[0,1,2,7,8]),(3,[0,1,2,7,8,13]),(4,[0,1,2,7,8]),(5,[0,1,2,7,8,9]),(6,[0,1,2,7,8,9,19]),(7,[0,1,2,7,8,9]),(8,[0,1,2,7,8,9,36]),(9,[0,1,2,7,8,9]),(10,[6])] [(3,[0,1,2,7,8]),(6,[0,1,2,7,8,9])]
@[go_sem] def c_r11_sides_r0 : LL := [qn 2 1,qn 3 1]
@[go_sem] def c_r11_sides_r1 : LL := [qn 4 1,qn 5 1]
@[go_sem] def c_r11_sides_r2 : LL := [qi 6 0]
@[go_sem] def c_r11_sides_r3 : LL := [qm 7 6,qm 8 0,qz 9 8,qo .lss 10 7 9]
@[go_sem] def c_r11_sides_r4 : LL := [qm 13 4,qm 14 0,qm 15 6,qd 16 2 14 15,qf 17 0 16,ql 18 1 17,⟨some 19,.buildSl 1 8 (.int .i64 (0)) 1 [(0,.t 18)],none⟩,qp 20 1 8 13 19,qm 21 5,qm 22 0,qm 23 6,qd 24 2 22 23,
 qf 25 1 24,ql 26 1 25,⟨some 27,.buildSl 1 8 (.int .i64 (0)) 1 [(0,.t 26)],none⟩,qp 28 1 8 21 27,qm 4 20,qm 5 28]
@[go_sem] def c_r11_sides_r5 : LL := [qm 11 6,qk .add 12 11 1,qm 6 12]
def c_r11_sides_b6 : LC := (.seq (.seq (.reg c_r11_sides_r3 [0,4,5,6,10]) (.cond (.t 10) .skip (.exit 0))) (.seq (.block 1 (.dreg [(3,none,[],true),(5,none,[],true),(6,none,[],true),(7,none,[],true),(11,(some 1536),[6,7],false),(13,(some 7680),[6,7],false),(14,(some 15872),[3,5,6,7],false)] c_r11_sides_r4 [0,4,5,6])) (.reg c_r11_sides_r5 [0,4,5,6])))
@[go_sem] def c_r11_sides_r7 : LL := [qm 29 4,qm 30 5,qm 2 29,qm 3 30]
@[go_sem] def c_r11_sides (F : Fn) : LC := (.seq (.reg c_r11_sides_r0 [0]) (.seq (.reg c_r11_sides_r1 [0,4,5]) (.seq (.seq (.reg c_r11_sides_r2 [0,4,5,6]) (.block 0 (.loop [0,4,5,6] c_r11_sides_b6))) (.seq (.reg c_r11_sides_r7 [2,3]) .ret))))
def h_r11_sides : Hints := hOf [] (c_r11_sides fun _ => 0)
@[go_sem] def c_r11_place_r0 : LL := [qi 6 0]
@[go_sem] def c_r11_place_r1 : LL := [qi 7 0]
@[go_sem] def c_r11_place_r2 : LL := [qm 8 7,qm 9 0,qz 10 9,qo .lss 11 8 10]
@[go_sem] def c_r11_place_r3 : LL := [qm 14 0,qm 15 7,qd 16 2 14 15,qf 17 0 16,ql 18 1 17,qm 19 1,qo .eql 20 18 19,qm 21 20,qg 21 true (qm 22 0),qg 21 true (qm 23 7),qg 21 true (qd 24 2 22 23),qg 21 true (qf 25 1 24),
 qg 21 true (ql 26 1 25),qg 21 true (qm 27 2),qg 21 true (qo .eql 28 26 27),qP 29 21 28]
@[go_sem] def c_r11_place_r4 : LL := [qm 30 7,qm 6 30]
@[go_sem] def c_r11_place_r5 : LL := [qm 12 7,qk .add 13 12 1,qm 7 13]
def c_r11_place_b6 : LC := (.seq (.seq (.reg c_r11_place_r2 [0,1,2,7,11]) (.cond (.t 11) .skip (.exit 0))) (.seq (.block 1 (.seq (.reg c_r11_place_r3 [0,1,2,7,29]) (.cond (.t 29) (.seq (.reg c_r11_place_r4 [6]) .ret) .skip))) (.reg c_r11_place_r5 [0,1,2,7])))
@[go_sem] def c_r11_place_r7 : LL := [qi 6 (-1)]
@[go_sem] def c_r11_place (F : Fn) : LC := (.seq (.reg c_r11_place_r0 [0,1,2]) (.seq (.seq (.reg c_r11_place_r1 [0,1,2,7]) (.block 0 (.loop [0,1,2,7] c_r11_place_b6))) (.seq (.reg c_r11_place_r7 [6]) .ret)))
def h_r11_place : Hints := hn [] [(0,[0,1,2]),(1,[0,1,2,7]),(2,[0,1,2,7,11]),(3,[0,1,2,7]),(4,[0,1,2,7,29]),(5,[6]),(6,[6])] [(2,[0,1,2,7])]
@[go_sem] def c_r11_first_r0 : LL := [qi 8 0]
@[go_sem] def c_r11_first_r1 : LL := [qi 9 0]
@[go_sem] def c_r11_first_r2 : LL := [qm 10 9,qm 11 0,qz 12 11,qo .lss 13 10 12]
@[go_sem] def c_r11_first_r3 : LL := [qm 16 0,qm 17 9,qd 18 1 16 17,ql 19 1 18,qm 20 2,qo .eql 21 19 20,qm 22 21,qg 22 true (qm 23 1),qg 22 true (qm 24 9),qg 22 true (qd 25 1 23 24),qg 22 true (ql 26 1 25),
 qg 22 true (qm 27 3),qg 22 true (qo .eql 28 26 27),qP 29 22 28]
@[go_sem] def c_r11_first_r4 : LL := [qm 30 9,qm 8 30]
@[go_sem] def c_r11_first_r5 : LL := [qm 14 9,qk .add 15 14 1,qm 9 15]
def c_r11_first_b6 : LC := (.seq (.seq (.reg c_r11_first_r2 [0,1,2,3,9,13]) (.cond (.t 13) .skip (.exit 0))) (.seq (.block 1 (.seq (.reg c_r11_first_r3 [0,1,2,3,9,29]) (.cond (.t 29) (.seq (.reg c_r11_first_r4 [8]) .ret) .skip))) (.reg c_r11_first_r5 [0,1,2,3,9])))
@[go_sem] def c_r11_first_r7 : LL := [qi 8 (-1)]
@[go_sem] def c_r11_first (F : Fn) : LC := (.seq (.reg c_r11_first_r0 [0,1,2,3]) (.seq (.seq (.reg c_r11_first_r1 [0,1,2,3,9]) (.block 0 (.loop [0,1,2,3,9] c_r11_first_b6))) (.seq (.reg c_r11_first_r7 [8]) .ret)))
def h_r11_first : Hints := hn [] [(0,[0,1,2,3]),(1,[0,1,2,3,9]),(2,[0,1,2,3,9,13]),(3,[0,1,2,3,9]),(4,[0,1,2,3,9,29]),(5,[8]),(6,[8])] [(2,[0,1,2,3,9])]
def at2 (p q : List Int) (a b : Int) : List Int → Int → Int
 | [], _ => -1
 | _ :: l, i => if gt p i = a ∧ gt q i = b then i else at2 p q a b l (i + 1)
section
variable (P : Program) (F : String → Nat)
def K_r11_pairs : Prop := ∀ (f g : List Int) (m : Nat), f.length ≤ 10000 → g.length ≤ 10000 → m ≤ 10000 → FC P (F "r11.pairs") [.lst 1 (ints f), .lst 1 (ints g), .int .i64 m] (.arr 2 (prs ((pairsL f g).take (m + 1)))) []
def K_r11_sides : Prop := ∀ l : List Pr, l.length ≤ 10000 → FC P (F "r11.sides") [.lst 2 (prs l)] (.tup [.arr 1 (ints (asA l)), .arr 1 (ints (asB l))]) []
def K_r11_place : Prop := ∀ (l : List Pr) (a b : Int), l.length ≤ maxL → FC P (F "r11.place") [.lst 2 (prs l), .int .i64 a, .int .i64 b] (.int .i64 (idx (fun p => decide (p = ⟨a, b⟩)) l 0)) []
def K_r11_first : Prop := ∀ (p q : List Int) (a b : Int), p.length ≤ maxL → q.length = p.length → FC P (F "r11.first") [.lst 1 (ints p), .lst 1 (ints q), .int .i64 a, .int .i64 b] (.int .i64 (at2 p q a b p 0)) []
end
section
variable {P : Program} {F : String → Nat} {α : Type}
theorem w_r11_pairs (f g : List Int) (m : Nat) (hf : f.length ≤ 10000) (hg : g.length ≤ 10000) (hm : m ≤ 10000) : W P (c_r11_pairs F) (Done [.t 6] [] (.arr 2 (prs ((pairsL f g).take (m + 1)))) []) (init [.lst 1 (ints f), .lst 1 (ints g), .int .i64 m]) := by
 refine W_of ?_
 simp (disch := omega) only [go_sem, ↓reduceIte]
 refine W_loop (fun i : Nat => ⟨[(0, .lst 1 (ints f)), (1, .lst 1 (ints g)), (2, .int .i64 m), (7, .sl 0 0 ((pairsI f g i).take (m + 1)).length), (8, .int .i64 i)], [(0, .arr 2 (prs ((pairsI f g i).take (m + 1))))], 1⟩) (fun i => i ≤ f.length) (fun i => f.length - i) 0 ?_ ?_ ?_
 ·simp (disch := omega) only [go_sem, ↓reduceIte, pairsI_zero]
  rfl
 ·simp
 ·intro i hi
  simp (disch := omega) only [go_sem, ↓reduceIte, c_r11_pairs_b11]
  refine bran_dec (fun c => ?_) (fun c => ?_)
  ·simp (disch := omega) only [go_sem, ↓reduceIte]
   refine W_loop (fun k : Nat => ⟨[(0, .lst 1 (ints f)), (1, .lst 1 (ints g)), (2, .int .i64 m), (7, .sl 0 0 ((accP f g i k).take (m + 1)).length), (8, .int .i64 i), (9, .int .i64 k)],
    [(0, .arr 2 (prs ((accP f g i k).take (m + 1))))], 1⟩) (fun k => k ≤ g.length) (fun k => g.length - k) 0 ?_ ?_ ?_
   ·simp (disch := omega) only [go_sem, ↓reduceIte, accP_zero]
    rfl
   ·simp
   ·intro k hk
    have b1 : ((accP f g i k).take (m + 1)).length = min (m + 1) (accP f g i k).length := by simp
    simp (disch := omega) only [go_sem, ↓reduceIte, c_r11_pairs_b9]
    refine bran_dec (fun d => ?_) (fun d => ?_)
    ·have hs := accP_succ f g i k
     simp (disch := omega) only [go_sem, ↓reduceIte]
     refine bran_dec (fun e => ?_) (fun e => ?_)
     ·rw [if_pos e] at hs
      simp (disch := omega) only [go_sem, ↓reduceIte, e]
      refine bran_dec (fun h => ?_) (fun h => ?_)
      ·have e1 : (accP f g i k).take (m + 1) = accP f g i k := List.take_of_length_le (by omega)
       have e2 : (accP f g i (k + 1)).take (m + 1) = accP f g i k ++ [⟨i, k⟩] := by rw [hs]; exact List.take_of_length_le (by simp; omega)
       rw [e1] at h b1
       simp (disch := omega) only [go_sem, ↓reduceIte, e1]
       exact ⟨k + 1, by rw [e2]; simp, by omega, by omega⟩
      ·have e2 : (accP f g i (k + 1)).take (m + 1) = (accP f g i k).take (m + 1) := by
        rw [hs]; exact List.take_append_of_le_length (by omega)
       simp (disch := omega) only [go_sem, ↓reduceIte, h]
       exact ⟨k + 1, by rw [e2]; simp, by omega, by omega⟩
     ·rw [if_neg e] at hs
      simp (disch := omega) only [go_sem, ↓reduceIte, e]
      exact ⟨k + 1, by simp [hs], by omega, by omega⟩
    ·obtain rfl : k = g.length := by omega
     simp (disch := omega) only [go_sem, ↓reduceIte]
     exact ⟨i + 1, by simp [accP_end], by omega, by omega⟩
  ·obtain rfl : i = f.length := by omega
   simp (disch := omega) only [go_sem, ↓reduceIte]
   rfl
theorem w_r11_sides (l : List Pr) (hl : l.length ≤ 10000) : W P (c_r11_sides F) (Done [.t 2, .t 3] [] (.tup [.arr 1 (ints (asA l)), .arr 1 (ints (asB l))]) []) (init [.lst 2 (prs l)]) := by
 refine W_of ?_
 simp (disch := omega) only [go_sem, ↓reduceIte]
 refine W_loop (fun i : Nat => ⟨[(0, .lst 2 (prs l)), (4, .sl 0 0 i), (5, .sl 1 0 i), (6, .int .i64 i)], [(0, .arr 1 (ints (asA (l.take i)))), (1, .arr 1 (ints (asB (l.take i))))], 2⟩) (fun i => i ≤ l.length) (fun i => l.length - i) 0 ?_ ?_ ?_
 ·simp (disch := omega) only [go_sem, ↓reduceIte]
  rfl
 ·simp
 ·intro i hi
  have e1 := asA_len hi
  have e2 := asB_len hi
  simp (disch := omega) only [go_sem, ↓reduceIte, c_r11_sides_b6]
  refine bran_dec (fun c => ?_) (fun c => ?_)
  ·simp (disch := omega) only [go_sem, ↓reduceIte, e1, e2]
   exact ⟨i + 1, by simp [asA_take (show i < l.length by omega), asB_take (show i < l.length by omega)], by omega, by omega⟩
  ·simp (disch := omega) only [go_sem, ↓reduceIte, e1, e2]
   rw [List.take_of_length_le (by omega)]
end
section
variable {P : Program} {F : String → Nat} {α : Type}
theorem w_r11_place (l : List Pr) (a b : Int) (hl : l.length ≤ maxL) : W P (c_r11_place F) (Done [.t 6] [] (.int .i64 (idx (fun p => decide (p = ⟨a, b⟩)) l 0)) []) (init [.lst 2 (prs l), .int .i64 a, .int .i64 b]) := by
 refine W_of ?_
 unfold maxL at hl
 simp (disch := omega) only [go_sem, ↓reduceIte]
 refine W_loop (fun i : Nat => ⟨[(0, .lst 2 (prs l)), (1, .int .i64 a), (2, .int .i64 b), (7, .int .i64 i)], [], 0⟩) (fun i => i ≤ l.length ∧ idx (fun p => decide (p = ⟨a, b⟩)) l 0 = idx (fun p => decide (p = ⟨a, b⟩)) (l.drop i) i) (fun i => l.length - i) 0 ?_ ?_ ?_
 ·simp (disch := omega) only [go_sem, ↓reduceIte]
  rfl
 ·simp
 ·rintro i ⟨hi, he⟩
  simp (disch := omega) only [go_sem, ↓reduceIte, c_r11_place_b6]
  refine bran_dec (fun h => ?_) (fun h => ?_)
  ·have hd := idx_drop (fun p => decide (p = ⟨a, b⟩)) l i (by omega)
   simp (disch := omega) only [go_sem, ↓reduceIte]
   refine bran_dec (fun h2 => ?_) (fun h2 => ?_)
   ·simp (disch := omega) only [go_sem, ↓reduceIte, h2]
    refine bran_dec (fun h3 => ?_) (fun h3 => ?_)
    ·simp (disch := omega) only [go_sem, ↓reduceIte]
     rw [he, hd, if_pos (by simp [eqPr, h2, h3])]
    ·simp (disch := omega) only [go_sem, ↓reduceIte]
     exact ⟨i + 1, by simp, ⟨by omega, by rw [he, hd, if_neg (by simp [eqPr, h3])]⟩, by omega⟩
   ·simp (disch := omega) only [go_sem, ↓reduceIte, h2]
    exact ⟨i + 1, by simp, ⟨by omega, by rw [he, hd, if_neg (by simp [eqPr, h2])]⟩, by omega⟩
  ·simp (disch := omega) only [go_sem, ↓reduceIte]
   rw [he, List.drop_of_length_le (by omega)]
   rfl
theorem at2_step (p q : List Int) (a b : Int) (l : List Int) (i : Nat) (h : i < l.length) : at2 p q a b (l.drop i) i = if gt p i = a ∧ gt q i = b then (i : Int) else at2 p q a b (l.drop (i + 1)) ((i + 1 : Nat) : Int) := by
 rw [drop_gt h, at2]; rfl
theorem w_r11_first (p q : List Int) (a b : Int) (hp : p.length ≤ maxL) (hq : q.length = p.length) : W P (c_r11_first F) (Done [.t 8] [] (.int .i64 (at2 p q a b p 0)) []) (init [.lst 1 (ints p), .lst 1 (ints q), .int .i64 a, .int .i64 b]) := by
 refine W_of ?_
 unfold maxL at hp
 simp (disch := omega) only [go_sem, ↓reduceIte]
 refine W_loop (fun i : Nat => ⟨[(0, .lst 1 (ints p)), (1, .lst 1 (ints q)), (2, .int .i64 a), (3, .int .i64 b), (9, .int .i64 i)], [], 0⟩) (fun i => i ≤ p.length ∧ at2 p q a b p 0 = at2 p q a b (p.drop i) i) (fun i => p.length - i) 0 ?_ ?_ ?_
 ·simp (disch := omega) only [go_sem, ↓reduceIte]
  rfl
 ·simp
 ·rintro i ⟨hi, he⟩
  simp (disch := omega) only [go_sem, ↓reduceIte, c_r11_first_b6]
  refine bran_dec (fun h => ?_) (fun h => ?_)
  ·have hd := at2_step p q a b p i (by omega)
   simp (disch := omega) only [go_sem, ↓reduceIte]
   refine bran_dec (fun h2 => ?_) (fun h2 => ?_)
   ·simp (disch := omega) only [go_sem, ↓reduceIte, h2]
    refine bran_dec (fun h3 => ?_) (fun h3 => ?_)
    ·simp (disch := omega) only [go_sem, ↓reduceIte]
     rw [he, hd, if_pos ⟨h2, h3⟩]
    ·simp (disch := omega) only [go_sem, ↓reduceIte]
     exact ⟨i + 1, by simp, ⟨by omega, by rw [he, hd, if_neg (fun h => h3 h.2)]⟩, by omega⟩
   ·simp (disch := omega) only [go_sem, ↓reduceIte, h2]
    exact ⟨i + 1, by simp, ⟨by omega, by rw [he, hd, if_neg (fun h => h2 h.1)]⟩, by omega⟩
  ·simp (disch := omega) only [go_sem, ↓reduceIte]
   rw [he, List.drop_of_length_le (by omega)]
   rfl
end
@[go_sem] def c_r11_Valid_r0 : LL := [qB 1 0,qi 2 0]
@[go_sem] def c_r11_Valid_r1 (F : Fn) : LL := [qf 4 0 1,qL 5 2 4,qf 6 4 1,qL 7 2 6,qf 8 6 1,qL 9 2 8,qc 10 (F "r06.Valid") [.t 5,.t 7,.t 9],qm 3 10]
@[go_sem] def c_r11_Valid_r2 : LL := [qm 11 3,qk .neq 12 11 0]
@[go_sem] def c_r11_Valid_r3 : LL := [qm 13 3,qm 2 13]
@[go_sem] def c_r11_Valid_r4 (F : Fn) : LL := [qf 14 2 1,qL 15 2 14,qf 16 4 1,qL 17 2 16,qf 18 8 1,qL 19 2 18,qc 20 (F "r06.Valid") [.t 15,.t 17,.t 19],qm 2 20]
@[go_sem] def c_r11_Valid (F : Fn) : LC := (.seq (.reg c_r11_Valid_r0 [1]) (.seq (.seq (.reg (c_r11_Valid_r1 F) [1,3]) (.seq (.reg c_r11_Valid_r2 [1,3,12]) (.cond (.t 12) (.seq (.reg c_r11_Valid_r3 [2]) .ret) .skip))) (.seq (.reg (c_r11_Valid_r4 F) [2]) .ret)))
def h_r11_Valid : Hints := hOf [] (c_r11_Valid fun _ => 0)
@[go_sem] def c_r11_Of_r0 : LL := [qB 1 0,qa 2 [.nl 1,.nl 3],qa 3 [.nl 1,.nl 1],qa 4 [.nl 1,.nl 1],qi 5 0]
@[go_sem] def c_r11_Of_r1 (F : Fn) : LL := [qL 16 10 1,qc 17 (F "r11.Valid") [.t 16],qm 6 17]
@[go_sem] def c_r11_Of_r2 : LL := [qm 18 6,qk .neq 19 18 0]
@[go_sem] def c_r11_Of_r3 : LL := [qu 20 [.nl 1,.nl 3] [],qu 21 [.nl 1,.nl 1] [],qu 22 [.nl 1,.nl 1] [],qm 23 6,qs 2 2 20,qs 2 3 21,qs 2 4 22,qm 5 23]
@[go_sem] def c_r11_Of_r4 (F : Fn) : LL := [qf 24 6 1,qf 25 0 24,ql 26 1 25,qf 27 8 1,qf 28 0 27,ql 29 1 28,qc 30 (F "r11.pairs") [.t 26,.t 29,.k (.int .i64 (40))],qf 31 6 1,qf 32 1 31,ql 33 1 32,qf 34 8 1,qf 35 1 34,ql 36 1 35,
 qc 37 (F "r11.pairs") [.t 33,.t 36,.k (.int .i64 (80))],qm 7 30,qm 8 37]
@[go_sem] def c_r11_Of_r5 : LL := [qm 38 7,qz 39 38,qk .gtr 40 39 40,qm 41 40,qg 41 false (qm 42 8),qg 41 false (qz 43 42),qg 41 false (qk .gtr 44 43 80),qQ 45 41 44]
@[go_sem] def c_r11_Of_r6 : LL := [qu 46 [.nl 1,.nl 3] [],qu 47 [.nl 1,.nl 1] [],qu 48 [.nl 1,.nl 1] [],qs 2 2 46,qs 2 3 47,qs 2 4 48,qi 5 3]
@[go_sem] def c_r11_Of_r7 : LL := [qa 9 [.nl 1,.nl 3]]
@[go_sem] def c_r11_Of_r8 : LL := [qi 10 0]
@[go_sem] def c_r11_Of_r9 : LL := [qm 49 10,qm 50 7,qz 51 50,qo .lss 52 49 51]
@[go_sem] def c_r11_Of_r10 : LL := [qf 55 0 9,ql 56 1 55,qf 57 0 1,qf 58 0 57,ql 59 1 58,qm 60 7,qm 61 10,qd 62 2 60 61,qf 63 0 62,ql 64 1 63,qd 65 1 59 64,ql 66 1 65,
 ⟨some 67,.buildSl 1 8 (.int .i64 (0)) 1 [(0,.t 66)],none⟩,qp 68 1 8 56 67,qf 69 0 9,qs 1 69 68]
@[go_sem] def c_r11_Of_r11 : LL := [qm 53 10,qk .add 54 53 1,qm 10 54]
def c_r11_Of_b12 : LC := (.seq (.seq (.reg c_r11_Of_r9 [1,2,3,4,7,8,9,10,52]) (.cond (.t 52) .skip (.exit 0))) (.seq (.block 1 (.dreg [(1,none,[],true),(12,none,[1],false)] c_r11_Of_r10 [1,2,3,4,7,8,9,10])) (.reg c_r11_Of_r11 [1,2,3,4,7,8,9,10])))
@[go_sem] def c_r11_Of_r13 : LL := [qi 11 0]
@[go_sem] def c_r11_Of_r14 : LL := [qm 70 11,qm 71 8,qz 72 71,qo .lss 73 70 72]
@[go_sem] def c_r11_Of_r15 : LL := [qf 76 0 1,qf 77 1 76,ql 78 1 77,qm 79 8,qm 80 11,qd 81 2 79 80,qf 82 0 81,ql 83 1 82,qd 84 3 78 83,qL 85 3 84,qf 86 2 1,qf 87 1 86,ql 88 1 87,qm 89 8,qm 90 11,qd 91 2 89 90,
 qf 92 1 91,ql 93 1 92,qd 94 3 88 93,qL 95 3 94,qa 12 [.int .i64 (0),.int .i64 (0),.int .i64 (0)],qa 13 [.int .i64 (0),.int .i64 (0),.int .i64 (0)],qs 3 12 85,qs 3 13 95]
@[go_sem] def c_r11_Of_r16 (F : Fn) : LL := [qf 96 1 9,ql 97 1 96,qf 98 0 12,ql 99 1 98,qm 100 7,qf 101 1 12,ql 102 1 101,qf 103 1 13,ql 104 1 103,qc 105 (F "r11.place") [.t 100,.t 102,.t 104],qm 106 7,qf 107 2 12,ql 108 1 107,
 qf 109 2 13,ql 110 1 109,qc 111 (F "r11.place") [.t 106,.t 108,.t 110],qu 112 [.int .i64 (0),.int .i64 (0),.int .i64 (0)] [(0,1,.t 99),(1,1,.t 105),(2,1,.t 111)],
 ⟨some 113,.buildSl 3 24 (.agg [.int .i64 (0),.int .i64 (0),.int .i64 (0)]) 1 [(0,.t 112)],none⟩,qp 114 3 24 97 113,qf 115 1 9,qs 1 115 114]
@[go_sem] def c_r11_Of_r17 : LL := [qm 74 11,qk .add 75 74 1,qm 11 75]
def c_r11_Of_b18 (F : Fn) : LC := (.seq (.seq (.reg c_r11_Of_r14 [1,2,3,4,7,8,9,11,73]) (.cond (.t 73) .skip (.exit 2))) (.seq (.block 3 (.seq (.dreg [(12,none,[],true),(15,none,[],true),(17,none,[],true),(18,none,[],true),(19,none,[],true),(22,none,[12,15,17,18,19],false)] c_r11_Of_r15 [1,2,3,4,7,8,9,11,12,13]) (.dreg [(1,none,[],true),(3,none,[],true),(9,none,[1,3],true),(12,(some 2048),[9],false),(14,(some 8192),[9],false),(15,none,[1,3],false),(17,none,[1],false)] (c_r11_Of_r16 F) [1,2,3,4,7,8,9,11]))) (.reg c_r11_Of_r17 [1,2,3,4,7,8,9,11])))
@[go_sem] def c_r11_Of_r19 : LL := [qa 14 [.nl 1,.nl 1],qa 15 [.nl 1,.nl 1]]
@[go_sem] def c_r11_Of_r20 (F : Fn) : LL := [qm 117 7,qc 118 (F "r11.sides") [.t 117],qm 116 118,qx 119 116 0,qx 120 116 1,qf 121 0 14,qs 1 121 119,qf 122 0 15,qs 1 122 120]
@[go_sem] def c_r11_Of_r21 (F : Fn) : LL := [qm 124 8,qc 125 (F "r11.sides") [.t 124],qm 123 125,qx 126 123 0,qx 127 123 1,qf 128 1 14,qs 1 128 126,qf 129 1 15,qs 1 129 127]
@[go_sem] def c_r11_Of_r22 : LL := [qL 130 2 9,qL 131 2 14,qL 132 2 15,qs 2 2 130,qs 2 3 131,qs 2 4 132,qi 5 0]
@[go_sem] def c_r11_Of (F : Fn) : LC := (.seq (.reg c_r11_Of_r0 [1,2,3,4]) (.seq (.seq (.reg (c_r11_Of_r1 F) [1,2,3,4,6]) (.seq (.reg c_r11_Of_r2 [1,2,3,4,6,19]) (.cond (.t 19) (.seq (.reg c_r11_Of_r3 [2,3,4,5]) .ret) .skip))) (.seq (.dreg [(6,none,[],true),(9,(some 384),[6],false),(12,(some 3072),[6],false)] (c_r11_Of_r4 F) [1,2,3,4,7,8]) (.seq (.seq (.reg c_r11_Of_r5 [1,2,3,4,7,8,45]) (.cond (.t 45) (.seq (.reg c_r11_Of_r6 [2,3,4,5]) .ret) .skip)) (.seq (.reg c_r11_Of_r7 [1,2,3,4,7,8,9]) (.seq (.seq (.reg c_r11_Of_r8 [1,2,3,4,7,8,9,10]) (.block 0 (.loop [1,2,3,4,7,8,9,10] c_r11_Of_b12))) (.seq (.seq (.reg c_r11_Of_r13 [1,2,3,4,7,8,9,11]) (.block 2 (.loop [1,2,3,4,7,8,9,11] (c_r11_Of_b18 F)))) (.seq (.reg c_r11_Of_r19 [2,3,4,7,8,9,14,15]) (.seq (.reg (c_r11_Of_r20 F) [2,3,4,8,9,14,15]) (.seq (.reg (c_r11_Of_r21 F) [2,3,4,9,14,15]) (.seq (.dreg [(1,none,[],true),(2,none,[],true),(3,none,[1,2],false),(4,none,[2],false)] c_r11_Of_r22 [2,3,4,5]) .ret)))))))))))
def h_r11_Of : Hints := hn [] [(0,[1,2,3,4]),(1,[1,2,3,4,6]),(2,[1,2,3,4,6,19]),(3,[2,3,4,5]),(4,[1,2,3,4,7,8]),(5,[1,2,3,4,7,8,45]),(6,[2,3,4,5]),(7,[1,2,3,4,7,8,9]),(8,[1,2,3,4,7,8,9,10]),(9,[1,2,3,4,7,8,9,10,52]),(10,[1,2,3,4,7,8,9,10]),(11,[1,2,3,4,7,8,9,10]),(12,[1,2,3,4,7,8,9,11]),(13,[1,2,3,4,7,8,9,11,73]),(14,[1,2,3,4,7,8,9,11]),(15,[1,2,3,4,7,8,9,11,12,13]),(16,[1,2,3,4,7,8,9,11]),(17,[2,3,4,7,8,9,14,15]),(18,[2,3,4,8,9,14,15]),(19,[2,3,4,9,14,15]),(20,[2,3,4,5])] [(9,[1,2,3,4,7,8,9,10]),(13,[1,2,3,4,7,8,9,11])]
@[go_sem] def c_r11_Mediate_r0 : LL := [qB 4 0,qB 5 1,qB 6 2,qB 7 3,qa 8 [.nl 1,.nl 1],qi 9 0]
@[go_sem] def c_r11_Mediate_r1 (F : Fn) : LL := [qL 20 10 4,qc 21 (F "r11.Of") [.t 20],qm 19 21,qx 22 19 0,qx 23 19 1,qx 24 19 2,qx 25 19 3,qa 10 [.nl 1,.nl 3],qa 11 [.nl 1,.nl 1],qa 12 [.nl 1,.nl 1],qs 2 10 22,qs 2 11 23,qs 2 12 24,
 qm 13 25]
@[go_sem] def c_r11_Mediate_r2 : LL := [qm 26 13,qk .neq 27 26 0]
@[go_sem] def c_r11_Mediate_r3 : LL := [qu 28 [.nl 1,.nl 1] [],qm 29 13,qs 2 8 28,qm 9 29]
@[go_sem] def c_r11_Mediate_r4 (F : Fn) : LL := [qL 30 2 5,qf 31 0 4,qL 32 2 31,qL 33 2 6,qc 34 (F "r06.Valid") [.t 30,.t 32,.t 33],qm 14 34]
@[go_sem] def c_r11_Mediate_r5 : LL := [qm 35 14,qk .neq 36 35 0]
@[go_sem] def c_r11_Mediate_r6 : LL := [qu 37 [.nl 1,.nl 1] [],qm 38 14,qs 2 8 37,qm 9 38]
@[go_sem] def c_r11_Mediate_r7 (F : Fn) : LL := [qL 39 2 5,qf 40 2 4,qL 41 2 40,qL 42 2 7,qc 43 (F "r06.Valid") [.t 39,.t 41,.t 42],qm 15 43]
@[go_sem] def c_r11_Mediate_r8 : LL := [qm 44 15,qk .neq 45 44 0]
@[go_sem] def c_r11_Mediate_r9 : LL := [qu 46 [.nl 1,.nl 1] [],qm 47 15,qs 2 8 46,qm 9 47]
@[go_sem] def c_r11_Mediate_r10 (F : Fn) : LL := [qL 48 2 6,qf 49 6 4,qL 50 2 49,qc 51 (F "r06.Then") [.t 48,.t 50],qL 52 2 7,qf 53 8 4,qL 54 2 53,qc 55 (F "r06.Then") [.t 52,.t 54],qc 56 (F "r06.Same") [.t 51,.t 55],qv 57 56]
@[go_sem] def c_r11_Mediate_r11 : LL := [qu 58 [.nl 1,.nl 1] [],qs 2 8 58,qi 9 11]
@[go_sem] def c_r11_Mediate_r12 : LL := [qa 16 [.nl 1,.nl 1]]
@[go_sem] def c_r11_Mediate_r13 : LL := [qi 17 0]
@[go_sem] def c_r11_Mediate_r14 : LL := [qm 59 17,qf 60 0 6,ql 61 1 60,qz 62 61,qo .lss 63 59 62]
@[go_sem] def c_r11_Mediate_r15 (F : Fn) : LL := [qf 66 0 16,ql 67 1 66,qf 68 0 11,ql 69 1 68,qf 70 0 12,ql 71 1 70,qf 72 0 6,ql 73 1 72,qm 74 17,qd 75 1 73 74,ql 76 1 75,qf 77 0 7,ql 78 1 77,qm 79 17,qd 80 1 78 79,ql 81 1 80,
 qc 82 (F "r11.first") [.t 69,.t 71,.t 76,.t 81],⟨some 83,.buildSl 1 8 (.int .i64 (0)) 1 [(0,.t 82)],none⟩,qp 84 1 8 67 83,qf 85 0 16,qs 1 85 84]
@[go_sem] def c_r11_Mediate_r16 : LL := [qm 64 17,qk .add 65 64 1,qm 17 65]
def c_r11_Mediate_b17 (F : Fn) : LC := (.seq (.seq (.reg c_r11_Mediate_r14 [6,7,8,11,12,16,17,63]) (.cond (.t 63) .skip (.exit 0))) (.seq (.block 1 (.dreg [(1,none,[],true),(16,none,[1],false),(17,none,[1],false)] (c_r11_Mediate_r15 F) [6,7,8,11,12,16,17])) (.reg c_r11_Mediate_r16 [6,7,8,11,12,16,17])))
@[go_sem] def c_r11_Mediate_r18 : LL := [qi 18 0]
@[go_sem] def c_r11_Mediate_r19 : LL := [qm 86 18,qf 87 1 6,ql 88 1 87,qz 89 88,qo .lss 90 86 89]
@[go_sem] def c_r11_Mediate_r20 (F : Fn) : LL := [qf 93 1 16,ql 94 1 93,qf 95 1 11,ql 96 1 95,qf 97 1 12,ql 98 1 97,qf 99 1 6,ql 100 1 99,qm 101 18,qd 102 1 100 101,ql 103 1 102,qf 104 1 7,ql 105 1 104,qm 106 18,qd 107 1 105 106,
 ql 108 1 107,qc 109 (F "r11.first") [.t 96,.t 98,.t 103,.t 108],⟨some 110,.buildSl 1 8 (.int .i64 (0)) 1 [(0,.t 109)],none⟩,qp 111 1 8 94 110,qf 112 1 16,qs 1 112 111]
@[go_sem] def c_r11_Mediate_r21 : LL := [qm 91 18,qk .add 92 91 1,qm 18 92]
def c_r11_Mediate_b22 (F : Fn) : LC := (.seq (.seq (.reg c_r11_Mediate_r19 [6,7,8,11,12,16,18,90]) (.cond (.t 90) .skip (.exit 2))) (.seq (.block 3 (.dreg [(1,none,[],true),(16,none,[1],false),(17,none,[1],false)] (c_r11_Mediate_r20 F) [6,7,8,11,12,16,18])) (.reg c_r11_Mediate_r21 [6,7,8,11,12,16,18])))
@[go_sem] def c_r11_Mediate_r23 : LL := [qL 113 2 16,qs 2 8 113,qi 9 0]
@[go_sem] def c_r11_Mediate (F : Fn) : LC := (.seq (.reg c_r11_Mediate_r0 [4,5,6,7,8]) (.seq (.reg (c_r11_Mediate_r1 F) [4,5,6,7,8,11,12,13]) (.seq (.seq (.reg c_r11_Mediate_r2 [4,5,6,7,8,11,12,13,27]) (.cond (.t 27) (.seq (.reg c_r11_Mediate_r3 [8,9]) .ret) .skip)) (.seq (.seq (.reg (c_r11_Mediate_r4 F) [4,5,6,7,8,11,12,14]) (.seq (.reg c_r11_Mediate_r5 [4,5,6,7,8,11,12,14,36]) (.cond (.t 36) (.seq (.reg c_r11_Mediate_r6 [8,9]) .ret) .skip))) (.seq (.seq (.reg (c_r11_Mediate_r7 F) [4,6,7,8,11,12,15]) (.seq (.reg c_r11_Mediate_r8 [4,6,7,8,11,12,15,45]) (.cond (.t 45) (.seq (.reg c_r11_Mediate_r9 [8,9]) .ret) .skip))) (.seq (.seq (.dreg [(3,none,[],true),(4,(some 0),[3],false),(6,(some 32),[3],false)] (c_r11_Mediate_r10 F) [6,7,8,11,12,57]) (.cond (.t 57) (.seq (.reg c_r11_Mediate_r11 [8,9]) .ret) .skip)) (.seq (.reg c_r11_Mediate_r12 [6,7,8,11,12,16]) (.seq (.seq (.reg c_r11_Mediate_r13 [6,7,8,11,12,16,17]) (.block 0 (.loop [6,7,8,11,12,16,17] (c_r11_Mediate_b17 F)))) (.seq (.seq (.reg c_r11_Mediate_r18 [6,7,8,11,12,16,18]) (.block 2 (.loop [6,7,8,11,12,16,18] (c_r11_Mediate_b22 F)))) (.seq (.reg c_r11_Mediate_r23 [8,9]) .ret))))))))))
def h_r11_Mediate : Hints := hOf [] (c_r11_Mediate fun _ => 0)
section
variable (P : Program) (F : String → Nat)
def K_r11_Valid : Prop := ∀ s : Cs, FC P (F "r11.Valid") [csD s] (.int .i64 (givenE s)) []
def K_r11_Of : Prop := ∀ s : Cs, FC P (F "r11.Of") [csD s] (.tup [gA (pbG s), mA (pbP s), mA (pbQ s), .int .i64 (pbErr s)]) []
end
section
variable {P : Program} {F : String → Nat} {α : Type}
theorem w_r11_Valid (hv : K_r06_Valid P F) (s : Cs) : W P (c_r11_Valid F) (Done [.t 2] [] (.int .i64 (givenE s)) []) (init [csD s]) := by
 refine W_of ?_
 have r1 := hv s.b s.d s.f
 have r2 := hv s.c s.d s.g
 have : givenE s = if validM s.b s.d s.f ≠ 0 then validM s.b s.d s.f else validM s.c s.d s.g := rfl
 rw [this]
 generalize validM s.b s.d s.f = u at *
 generalize validM s.c s.d s.g = v at *
 simp only [gD, mD] at r1 r2
 simp (disch := omega) only [go_sem, ↓reduceIte, csD]
 refine call_by r1 ?_
 simp (disch := omega) only [go_sem, ↓reduceIte]
 refine bran_ndec (fun c => ?_) (fun c => ?_)
 ·simp (disch := omega) only [go_sem, ↓reduceIte]
  try simp [c]
 ·subst c
  simp (disch := omega) only [go_sem, ↓reduceIte]
  refine call_by r2 ?_
  simp (disch := omega) only [go_sem, ↓reduceIte]
  try simp
end
section
variable {P : Program} {F : String → Nat} {α : Type}
theorem w_r11_Of (hv : K_r11_Valid P F) (hp : K_r11_pairs P F) (hx : K_r11_place P F) (hs : K_r11_sides P F) (s : Cs) :
  W P (c_r11_Of F) (Done [.c 2 true 2, .c 3 true 2, .c 4 true 2, .t 5] [] (.tup [gA (pbG s), mA (pbP s), mA (pbQ s), .int .i64 (pbErr s)]) []) (init [csD s]) := by
 refine W_of ?_
 have rg := hv s
 have hs1 := @givenE_spec s
 have hE : pbErr s = if givenE s ≠ 0 then givenE s else if 40 < (pbN s).length ∨ 80 < (pbE s).length then 3 else 0 := rfl
 have hG : pbErr s = 0 → pbG s = ⟨(pbN s).map fun p => gt s.b.n p.a, (pbE s).map (pbEdge s.b.e s.c.e (pbN s))⟩ := fun h => by simp [pbG, h, pbG0]
 have hZ : pbErr s ≠ 0 → pbG s = g0 := fun h => by simp [pbG, h]
 have hP : pbP s = if pbErr s = 0 then ⟨asA (pbN s), asA (pbE s)⟩ else m0 := rfl
 have hQ : pbQ s = if pbErr s = 0 then ⟨asB (pbN s), asB (pbE s)⟩ else m0 := rfl
 generalize pbErr s = er at *
 generalize pbG s = gg at *
 generalize pbP s = pp at *
 generalize pbQ s = qq at *
 generalize givenE s = ge at *
 simp only [csD] at rg
 simp (disch := omega) only [go_sem, ↓reduceIte, csD]
 refine call_by rg ?_
 simp (disch := omega) only [go_sem, ↓reduceIte]
 refine bran_ndec (fun c => ?_) (fun c => ?_)
 ·rw [if_pos c] at hE
  have hne : ¬ (er = 0) := by omega
  rw [if_neg hne] at hP hQ
  simp (disch := omega) only [go_sem, ↓reduceIte]
  rw [hZ hne, hE, hP, hQ]
  simp [g0, m0, gA, mA, ints, eds]
 ·subst c
  rw [if_neg (by simp)] at hE
  obtain ⟨v1, v2⟩ := hs1 rfl
  obtain ⟨a1, a2, a3, a4, _⟩ := validM_len v1
  obtain ⟨b1, b2, b3, b4, _⟩ := validM_len v2
  obtain ⟨_, _, a5, a6, _⟩ := validM_spec v1
  obtain ⟨_, _, b5, b6, _⟩ := validM_spec v2
  have r1 := hp s.f.n s.g.n 40 (by omega) (by omega) (by omega)
  have r2 := hp s.f.e s.g.e 80 (by omega) (by omega) (by omega)
  have l1 : (pbN s).length ≤ 10000 := pairsL_len (by omega) (by omega)
  have l2 : (pbE s).length ≤ 10000 := pairsL_len (by omega) (by omega)
  have m1 : ∀ p ∈ pbN s, (0 ≤ p.a ∧ p.a < s.b.n.length) := fun p hp => by have := pairsL_bd hp; omega
  have m2 : ∀ p ∈ pbE s, (0 ≤ p.a ∧ p.a < s.b.e.length) ∧ (0 ≤ p.b ∧ p.b < s.c.e.length) := fun p hp => by have := pairsL_bd hp; omega
  change FC P _ _ (.arr 2 (prs ((pbN s).take (40 + 1)))) _ at r1
  change FC P _ _ (.arr 2 (prs ((pbE s).take (80 + 1)))) _ at r2
  generalize pbN s = ns at *
  generalize pbE s = es at *
  obtain ⟨⟨bn, be⟩, ⟨cn, ce⟩, ⟨dn, de⟩, ⟨fn, fe⟩, ⟨gn, ge⟩⟩ := s
  simp only at *
  have t1 : (ns.take (40 + 1)).length = min 41 ns.length := by simp
  have t2 : (es.take (80 + 1)).length = min 81 es.length := by simp
  have t3 : ns.length ≤ 40 → ns.take (40 + 1) = ns := fun h => List.take_of_length_le (by omega)
  have t4 : es.length ≤ 80 → es.take (80 + 1) = es := fun h => List.take_of_length_le (by omega)
  generalize ns.take (40 + 1) = ns' at *
  generalize es.take (80 + 1) = es' at *
  simp (disch := omega) only [go_sem, ↓reduceIte]
  refine call_by r1 ?_
  simp (disch := omega) only [go_sem, ↓reduceIte]
  refine call_by r2 ?_
  simp (disch := omega) only [go_sem, ↓reduceIte]
  have fitN : ∀ i, i ≤ ns.length → ((ns.take i).map fun p => gt bn p.a).length = i := fun i hi => by simp; omega
  have fitE : ∀ i, i ≤ es.length → ((es.take i).map (pbEdge be ce ns)).length = i := fun i hi => by simp; omega
  refine bran_dec (fun c1 => ?_) (fun c1 => ?_)
  ·rw [if_pos (by omega)] at hE
   have hne : ¬ (er = 0) := by omega
   rw [if_neg hne] at hP hQ
   simp (disch := omega) only [go_sem, ↓reduceIte, c1]
   rw [hZ hne, hE, hP, hQ]
   simp [g0, m0, gA, mA, ints, eds]
  ·simp (disch := omega) only [go_sem, ↓reduceIte, c1]
   refine bran_dec (fun c2 => ?_) (fun c2 => ?_)
   ·rw [if_pos (by omega)] at hE
    have hne : ¬ (er = 0) := by omega
    rw [if_neg hne] at hP hQ
    simp (disch := omega) only [go_sem, ↓reduceIte, c1, c2]
    rw [hZ hne, hE, hP, hQ]
    simp [g0, m0, gA, mA, ints, eds]
   ·rw [if_neg (by omega)] at hE
    obtain rfl := t3 (by omega)
    obtain rfl := t4 (by omega)
    subst hE
    rw [if_pos rfl] at hP hQ
    have hG := hG rfl
    subst hG hP hQ
    clear t1 t2 t3 t4
    simp (disch := omega) only [go_sem, ↓reduceIte, c1, c2]
    refine W_loop (fun i : Nat => ⟨[(1, D.pt 0 0), (2, D.pt 3 0), (3, D.pt 6 0), (4, D.pt 9 0), (7, D.sl 10 0 ns'.length), (8, D.sl 11 0 es'.length), (9, D.pt 14 0), (10, D.int IntKind.i64 i)],
     [(0, Ent.box [D.lst 1 (ints bn), D.lst 3 (eds be), D.lst 1 (ints cn), D.lst 3 (eds ce), D.lst 1 (ints dn), D.lst 3 (eds de), D.lst 1 (ints fn), D.lst 1 (ints fe), D.lst 1 (ints gn), D.lst 1 (ints ge)]),
      (1, Ent.arr 1 []), (2, Ent.arr 3 []), (3, Ent.box [D.sl 1 0 0, D.sl 2 0 0]), (4, Ent.arr 1 []), (5, Ent.arr 1 []), (6, Ent.box [D.sl 4 0 0, D.sl 5 0 0]), (7, Ent.arr 1 []), (8, Ent.arr 1 []),
      (9, Ent.box [D.sl 7 0 0, D.sl 8 0 0]), (10, Ent.arr 2 (prs ns')), (11, Ent.arr 2 (prs es')), (12, Ent.arr 1 (ints ((ns'.take i).map fun p => gt bn p.a))), (13, Ent.arr 3 []), (14, Ent.box [D.sl 12 0 i, D.sl 13 0 0])], 15⟩) (fun i => i ≤ ns'.length) (fun i => ns'.length - i) 0 ?_ ?_ ?_
    ·simp (disch := omega) only [go_sem, ↓reduceIte]
     rfl
    ·simp
    ·intro i hi
     have e1 := fitN i hi
     simp (disch := omega) only [go_sem, ↓reduceIte, c_r11_Of_b12]
     refine bran_dec (fun c => ?_) (fun c => ?_)
     ·have hm := m1 _ (gt_mem (l := ns') (j := i) (by omega) (by omega))
      simp (disch := omega) only [go_sem, ↓reduceIte, e1]
      exact ⟨i + 1, by rw [take_gt (by omega)]; simp, by omega, by omega⟩
     ·obtain rfl : i = ns'.length := by omega
      rw [List.take_length] at e1
      simp (disch := omega) only [go_sem, ↓reduceIte, e1]
      refine W_loop (fun j : Nat => ⟨[(1, D.pt 0 0), (2, D.pt 3 0), (3, D.pt 6 0), (4, D.pt 9 0), (7, D.sl 10 0 ns'.length), (8, D.sl 11 0 es'.length), (9, D.pt 14 0), (11, D.int IntKind.i64 j)],
       [(0, Ent.box [D.lst 1 (ints bn), D.lst 3 (eds be), D.lst 1 (ints cn), D.lst 3 (eds ce), D.lst 1 (ints dn), D.lst 3 (eds de), D.lst 1 (ints fn), D.lst 1 (ints fe), D.lst 1 (ints gn), D.lst 1 (ints ge)]),
      (1, Ent.arr 1 []), (2, Ent.arr 3 []), (3, Ent.box [D.sl 1 0 0, D.sl 2 0 0]), (4, Ent.arr 1 []), (5, Ent.arr 1 []), (6, Ent.box [D.sl 4 0 0, D.sl 5 0 0]), (7, Ent.arr 1 []), (8, Ent.arr 1 []),
      (9, Ent.box [D.sl 7 0 0, D.sl 8 0 0]), (10, Ent.arr 2 (prs ns')), (11, Ent.arr 2 (prs es')), (12, Ent.arr 1 (ints (ns'.map fun p => gt bn p.a))), (13, Ent.arr 3 (eds ((es'.take j).map (pbEdge be ce ns')))), (14, Ent.box [D.sl 12 0 ns'.length, D.sl 13 0 j])], 15⟩) (fun j => j ≤ es'.length) (fun j => es'.length - j) 0 ?_ ?_ ?_
      ·simp (disch := omega) only [go_sem, ↓reduceIte]
       rfl
      ·simp
      ·intro j hj
       have e2 := fitE j hj
       simp (disch := omega) only [go_sem, ↓reduceIte, c_r11_Of_b18]
       refine bran_dec (fun c => ?_) (fun c => ?_)
       ·have hm := m2 _ (gt_mem (l := es') (j := j) (by omega) (by omega))
        have q1 := hx ns' (gt be (gt es' j).a).f (gt ce (gt es' j).b).f (by unfold maxL; omega)
        have q2 := hx ns' (gt be (gt es' j).a).o (gt ce (gt es' j).b).o (by unfold maxL; omega)
        simp (disch := omega) only [go_sem, ↓reduceIte, e2]
        refine call_by q1 ?_
        simp (disch := omega) only [go_sem, ↓reduceIte, e2]
        refine call_by q2 ?_
        simp (disch := omega) only [go_sem, ↓reduceIte, e2]
        exact ⟨j + 1, by rw [take_gt (by omega)]; simp [pbEdge], by omega, by omega⟩
       ·obtain rfl : j = es'.length := by omega
        rw [List.take_length] at e2
        simp (disch := omega) only [go_sem, ↓reduceIte, e1, e2]
        refine call_by (hs ns' (by omega)) ?_
        simp (disch := omega) only [go_sem, ↓reduceIte, e1, e2]
        refine call_by (hs es' (by omega)) ?_
        simp (disch := omega) only [go_sem, ↓reduceIte, e1, e2]
        simp [gA, mA, asA, asB]
end
@[go_sem] def c_r11_Check_r0 : LL := [qB 4 0,qB 5 1,qB 6 2,qB 7 3,qb 8 false]
@[go_sem] def c_r11_Check_r1 (F : Fn) : LL := [qL 16 10 4,qL 17 2 5,qL 18 2 6,qL 19 2 7,qc 20 (F "r11.Mediate") [.t 16,.t 17,.t 18,.t 19],qm 15 20,qx 21 15 0,qx 22 15 1,qa 9 [.nl 1,.nl 1],qs 2 9 21,qm 10 22]
@[go_sem] def c_r11_Check_r2 : LL := [qm 23 10,qk .neq 24 23 0]
@[go_sem] def c_r11_Check_r3 : LL := [qb 8 false]
@[go_sem] def c_r11_Check_r4 (F : Fn) : LL := [qL 26 10 4,qc 27 (F "r11.Of") [.t 26],qm 25 27,qx 28 25 0,qx 29 25 1,qx 30 25 2,qx 31 25 3,qa 11 [.nl 1,.nl 3],qa 12 [.nl 1,.nl 1],qa 13 [.nl 1,.nl 1],qs 2 11 28,qs 2 12 29,qs 2 13 30,
 qm 14 31]
@[go_sem] def c_r11_Check_r5 (F : Fn) : LL := [qL 32 2 5,qL 33 2 11,qL 34 2 9,qc 35 (F "r06.Injective") [.t 32,.t 33,.t 34],qm 36 35,qg 36 true (qL 37 2 5),qg 36 true (qL 38 2 11),qg 36 true (qL 39 2 9),
 qg 36 true (qc 40 (F "r06.Surjective") [.t 37,.t 38,.t 39]),qP 41 36 40,qm 8 41]
@[go_sem] def c_r11_Check (F : Fn) : LC := (.seq (.reg c_r11_Check_r0 [4,5,6,7]) (.seq (.reg (c_r11_Check_r1 F) [4,5,9,10]) (.seq (.seq (.reg c_r11_Check_r2 [4,5,9,24]) (.cond (.t 24) (.seq (.reg c_r11_Check_r3 [8]) .ret) .skip)) (.seq (.reg (c_r11_Check_r4 F) [5,9,11]) (.seq (.reg (c_r11_Check_r5 F) [8]) .ret)))))
def h_r11_Check : Hints := hOf [] (c_r11_Check fun _ => 0)
section
variable (P : Program) (F : String → Nat)
def K_r11_Mediate : Prop := ∀ (s : Cs) (x : G) (h k : Mo), FC P (F "r11.Mediate") [csD s, gD x, mD h, mD k] (.tup [mA (medM s x h k).1, .int .i64 (medM s x h k).2]) []
def K_r11_Check : Prop := ∀ (s : Cs) (x : G) (h k : Mo), FC P (F "r11.Check") [csD s, gD x, mD h, mD k] (.bool (checkM s x h k)) []
end
section
variable {P : Program} {F : String → Nat} {α : Type}
theorem meet_thr {f g h k : List Int} (hl : k.length = h.length) (hh : ∀ x ∈ h, 0 ≤ x ∧ x < f.length) (hk : ∀ x ∈ k, 0 ≤ x ∧ x < g.length) : meetOk (pairsL f g) h k = decide (thr h f = thr k g) := by
 rw [Bool.eq_iff_iff, decide_eq_true_eq, meetOk, List.all_eq_true]
 have key : ∀ i : Nat, i < h.length → (0 ≤ idx (fun p => decide (p = ⟨gt h i, gt k i⟩)) (pairsL f g) 0 ↔ gt (thr h f) i = gt (thr k g) i) := fun i hi => by
  rw [idx_mem, pairsL_in (hh _ (gt_mem (by omega) (by omega))) (hk _ (gt_mem (by omega) (by omega))), thr_gt hi, thr_gt (by omega)]
 simp only [meetL, meetI, List.mem_map, List.mem_range, decide_eq_true_eq, forall_exists_index, and_imp, forall_apply_eq_imp_iff₂]
 constructor
 ·intro hall
  exact list_ext_gt (by rw [thr_len, thr_len, hl]) fun i hi => (key i (by rwa [thr_len] at hi)).1 (hall i (by rwa [thr_len] at hi))
 ·intro he i hi
  rw [key i hi, he]
theorem at2_idx (l : List Pr) (a b : Int) : ∀ (n i : Nat), n = l.length - i → i ≤ l.length → at2 (asA l) (asB l) a b ((asA l).drop i) i = idx (fun p => decide (p = ⟨a, b⟩)) (l.drop i) i
 | 0, i, hn, hi => by
  rw [List.drop_of_length_le (by simp [asA]; omega), List.drop_of_length_le (by omega)]
  rfl
 | n + 1, i, hn, hi => by
  have hA : (asA l).length = l.length := by simp [asA]
  have hB : (asB l).length = l.length := by simp [asB]
  have h1 := at2_step (asA l) (asB l) a b (asA l) i (by omega)
  have h2 := idx_drop (fun p => decide (p = (⟨a, b⟩ : Pr))) l i (by omega)
  rw [h1, h2, at2_idx l a b n (i + 1) (by omega) (by omega)]
  have e1 : gt (asA l) i = (gt l i).a := by rw [gt_nat (by omega), gt_nat (by omega)]; simp [asA]
  have e2 : gt (asB l) i = (gt l i).b := by rw [gt_nat (by omega), gt_nat (by omega)]; simp [asB]
  rw [e1, e2]
  simp only [decide_eq_true_eq, eqPr]
theorem at2_all (l : List Pr) (a b : Int) : at2 (asA l) (asB l) a b (asA l) 0 = idx (fun p => decide (p = ⟨a, b⟩)) l 0 := by
 have := at2_idx l a b l.length 0 (by omega) (by omega)
 simpa using this
set_option maxHeartbeats 2000000 in
theorem w_r11_Mediate (ho : K_r11_Of P F) (hv : K_r06_Valid P F) (ht : K_r06_Then P F) (hs : K_r06_Same P F) (hx : K_r11_first P F) (s : Cs) (x : G) (h k : Mo) :
  W P (c_r11_Mediate F) (Done [.c 8 true 2, .t 9] [] (.tup [mA (medM s x h k).1, .int .i64 (medM s x h k).2]) []) (init [csD s, gD x, mD h, mD k]) := by
 refine W_of ?_
 have ro := ho s
 have r1 := hv x s.b h
 have r2 := hv x s.c k
 have hl := @pbN_len s
 have hl1 := @validM_len x s.b h
 have hl2 := @validM_len x s.c k
 have hs1 := @validM_spec x s.b h
 have hs2 := @validM_spec x s.c k
 have hb1 := @validM_bd x s.b h
 have hb2 := @validM_bd x s.c k
 have hgv := @givenE_spec s
 have hmd : medM s x h k = if medErr s x h k ≠ 0 then (m0, medErr s x h k) else
  if meetOk (pbN s) h.n k.n = true ∧ meetOk (pbE s) h.e k.e = true then (⟨meetL (pbN s) h.n k.n, meetL (pbE s) h.e k.e⟩, 0) else (m0, 11) := rfl
 have hE : medErr s x h k = if pbErr s ≠ 0 then pbErr s else if validM x s.b h ≠ 0 then validM x s.b h else validM x s.c k := rfl
 have hP : pbP s = if pbErr s = 0 then ⟨asA (pbN s), asA (pbE s)⟩ else m0 := rfl
 have hQ : pbQ s = if pbErr s = 0 then ⟨asB (pbN s), asB (pbE s)⟩ else m0 := rfl
 generalize medErr s x h k = er at *
 generalize medM s x h k = md at *
 generalize pbErr s = e0 at *
 generalize hw1 : validM x s.b h = e1 at *
 generalize hw2 : validM x s.c k = e2 at *
 generalize pbG s = gg at *
 generalize pbP s = pp at *
 generalize pbQ s = qq at *
 by_cases c0 : e0 = 0
 ·subst c0
  rw [if_neg (by simp)] at hE
  rw [if_pos rfl] at hP hQ
  subst hP hQ
  obtain ⟨p1, p2, hg0⟩ := hl rfl
  obtain ⟨gv1, gv2⟩ := hgv hg0
  by_cases c1 : e1 = 0
  ·subst c1
   rw [if_neg (by simp)] at hE
   subst hE
   by_cases c2 : er = 0
   ·subst c2
    rw [if_neg (by simp)] at hmd
    obtain ⟨q1, q2, _⟩ := hl1 rfl
    obtain ⟨q1', q2', _⟩ := hl2 rfl
    obtain ⟨_, _, q3, q4, _⟩ := hs1 rfl
    obtain ⟨_, _, q5, q6, _⟩ := hs2 rfl
    obtain ⟨b1, b2⟩ := hb1 rfl
    obtain ⟨b3, b4⟩ := hb2 rfl
    obtain ⟨_, _, z1, z2, _⟩ := validM_spec gv1
    obtain ⟨_, _, z3, z4, _⟩ := validM_spec gv2
    rw [← z1] at b1
    rw [← z2] at b2
    rw [← z3] at b3
    rw [← z4] at b4
    have m1 := meet_thr (f := s.f.n) (g := s.g.n) (by omega) b1 b3
    have m2 := meet_thr (f := s.f.e) (g := s.g.e) (by omega) b2 b4
    change meetOk (pbN s) h.n k.n = _ at m1
    change meetOk (pbE s) h.e k.e = _ at m2
    have t1 := ht h s.f (by omega) (by omega) b1 b2
    have t2 := ht k s.g (by omega) (by omega) b3 b4
    have hsm := hs (thenM h s.f) (thenM k s.g) (by simp only [thenM, thr_len, maxL]; omega) (by simp only [thenM, thr_len, maxL]; omega)
    have hc : decide (thenM h s.f = thenM k s.g) = (meetOk (pbN s) h.n k.n && meetOk (pbE s) h.e k.e) := by
     rw [m1, m2, Bool.eq_iff_iff]
     simp [thenM]
    rw [hc] at hsm
    have hA : ∀ l : List Pr, (asA l).length = l.length := fun l => by simp [asA]
    have hB : ∀ l : List Pr, (asB l).length = l.length := fun l => by simp [asB]
    have f1 : ∀ i : Nat, FC P (F "r11.first") [.lst 1 (ints (asA (pbN s))), .lst 1 (ints (asB (pbN s))), .int .i64 (gt h.n i), .int .i64 (gt k.n i)] (.int .i64 (idx (fun p => decide (p = ⟨gt h.n i, gt k.n i⟩)) (pbN s) 0)) [] := fun i => by
     have := hx (asA (pbN s)) (asB (pbN s)) (gt h.n i) (gt k.n i) (by rw [hA]; unfold maxL; omega) (by rw [hA, hB])
     rwa [at2_all] at this
    have f2 : ∀ i : Nat, FC P (F "r11.first") [.lst 1 (ints (asA (pbE s))), .lst 1 (ints (asB (pbE s))), .int .i64 (gt h.e i), .int .i64 (gt k.e i)] (.int .i64 (idx (fun p => decide (p = ⟨gt h.e i, gt k.e i⟩)) (pbE s) 0)) [] := fun i => by
     have := hx (asA (pbE s)) (asB (pbE s)) (gt h.e i) (gt k.e i) (by rw [hA]; unfold maxL; omega) (by rw [hA, hB])
     rwa [at2_all] at this
    have hAn := hA (pbN s)
    have hBn := hB (pbN s)
    have hAe := hA (pbE s)
    have hBe := hB (pbE s)
    clear hA hB m1 m2 hc
    have hm1 := meetI_succ (pbN s) h.n k.n
    have hm2 := meetI_succ (pbE s) h.e k.e
    have hm3 := meetI_len (pbN s) h.n k.n
    have hm4 := meetI_len (pbE s) h.e k.e
    rw [show meetL (pbN s) h.n k.n = meetI (pbN s) h.n k.n h.n.length from rfl, show meetL (pbE s) h.e k.e = meetI (pbE s) h.e k.e h.e.length from rfl] at hmd
    generalize meetOk (pbN s) h.n k.n = o1 at *
    generalize meetOk (pbE s) h.e k.e = o2 at *
    generalize thenM h s.f = tf at *
    generalize thenM k s.g = tg at *
    obtain ⟨tfn, tfe⟩ := tf
    obtain ⟨tgn, tge⟩ := tg
    generalize hAA : asA (pbN s) = an at *
    generalize hBB : asB (pbN s) = bbn at *
    generalize hAA2 : asA (pbE s) = ae at *
    generalize hBB2 : asB (pbE s) = bbe at *
    generalize pbN s = ns at *
    generalize pbE s = es at *
    obtain ⟨⟨bn, be⟩, ⟨cn, ce⟩, ⟨dn, de⟩, ⟨fn, fe⟩, ⟨gn, ge⟩⟩ := s
    obtain ⟨xn, xe⟩ := x
    obtain ⟨hn, he⟩ := h
    obtain ⟨kn, ke⟩ := k
    obtain ⟨ggn, gge⟩ := gg
    simp only [csD, gD, mD, gA, mA] at *
    simp (disch := omega) only [go_sem, ↓reduceIte]
    refine call_by ro ?_
    simp (disch := omega) only [go_sem, ↓reduceIte]
    refine call_by r1 ?_
    simp (disch := omega) only [go_sem, ↓reduceIte]
    refine call_by r2 ?_
    simp (disch := omega) only [go_sem, ↓reduceIte]
    refine call_by t1 ?_
    simp (disch := omega) only [go_sem, ↓reduceIte]
    refine call_by t2 ?_
    simp (disch := omega) only [go_sem, ↓reduceIte]
    refine call_by hsm ?_
    cases o1
    ·rw [if_neg (by simp)] at hmd
     subst hmd
     simp (disch := omega) only [go_sem, ↓reduceIte]
     simp [m0, mA, ints]
    ·cases o2
     ·rw [if_neg (by simp)] at hmd
      subst hmd
      simp (disch := omega) only [go_sem, ↓reduceIte]
      simp [m0, mA, ints]
     ·rw [if_pos (by simp)] at hmd
      subst hmd
      simp (disch := omega) only [go_sem, ↓reduceIte]
      refine W_loop (fun i : Nat => ⟨[(6, D.pt 0 0), (7, D.pt 1 0), (8, D.pt 4 0), (11, D.pt 7 0), (12, D.pt 10 0), (16, D.pt 13 0), (17, D.int IntKind.i64 i)],
       [(0, Ent.box [D.lst 1 (ints hn), D.lst 1 (ints he)]), (1, Ent.box [D.lst 1 (ints kn), D.lst 1 (ints ke)]),
        (2, Ent.arr 1 []), (3, Ent.arr 1 []), (4, Ent.box [D.sl 2 0 0, D.sl 3 0 0]), (5, Ent.arr 1 (ints an)), (6, Ent.arr 1 (ints ae)), (7, Ent.box [D.sl 5 0 an.length, D.sl 6 0 ae.length]), (8, Ent.arr 1 (ints bbn)),
        (9, Ent.arr 1 (ints bbe)), (10, Ent.box [D.sl 8 0 bbn.length, D.sl 9 0 bbe.length]), (11, Ent.arr 1 (ints (meetI ns hn kn i))), (12, Ent.arr 1 []), (13, Ent.box [D.sl 11 0 i, D.sl 12 0 0])], 14⟩) (fun i => i ≤ hn.length) (fun i => hn.length - i) 0 ?_ ?_ ?_
      ·simp (disch := omega) only [go_sem, ↓reduceIte, meetI_zero]
       rfl
      ·simp
      ·intro i hi
       have w1 := hm1 i
       have w2 := hm3 i
       have w3 := f1 i
       generalize idx (fun p => decide (p = ⟨gt hn i, gt kn i⟩)) ns 0 = y at *
       simp (disch := omega) only [go_sem, ↓reduceIte, c_r11_Mediate_b17]
       refine bran_dec (fun c => ?_) (fun c => ?_)
       ·simp (disch := omega) only [go_sem, ↓reduceIte, w2]
        refine call_by w3 ?_
        simp (disch := omega) only [go_sem, ↓reduceIte, w2]
        exact ⟨i + 1, by rw [w1]; simp, by omega, by omega⟩
       ·obtain rfl : i = hn.length := by omega
        simp (disch := omega) only [go_sem, ↓reduceIte, w2]
        refine W_loop (fun i : Nat => ⟨[(6, D.pt 0 0), (7, D.pt 1 0), (8, D.pt 4 0), (11, D.pt 7 0), (12, D.pt 10 0), (16, D.pt 13 0), (18, D.int IntKind.i64 i)],
         [(0, Ent.box [D.lst 1 (ints hn), D.lst 1 (ints he)]), (1, Ent.box [D.lst 1 (ints kn), D.lst 1 (ints ke)]),
        (2, Ent.arr 1 []), (3, Ent.arr 1 []), (4, Ent.box [D.sl 2 0 0, D.sl 3 0 0]), (5, Ent.arr 1 (ints an)), (6, Ent.arr 1 (ints ae)), (7, Ent.box [D.sl 5 0 an.length, D.sl 6 0 ae.length]), (8, Ent.arr 1 (ints bbn)),
        (9, Ent.arr 1 (ints bbe)), (10, Ent.box [D.sl 8 0 bbn.length, D.sl 9 0 bbe.length]), (11, Ent.arr 1 (ints (meetI ns hn kn hn.length))), (12, Ent.arr 1 (ints (meetI es he ke i))), (13, Ent.box [D.sl 11 0 hn.length, D.sl 12 0 i])], 14⟩) (fun i => i ≤ he.length) (fun i => he.length - i) 0 ?_ ?_ ?_
        ·simp (disch := omega) only [go_sem, ↓reduceIte, meetI_zero]
         rfl
        ·simp
        ·intro i hi
         have w1 := hm2 i
         have w4 := hm4 i
         have w3 := f2 i
         generalize idx (fun p => decide (p = ⟨gt he i, gt ke i⟩)) es 0 = y at *
         simp (disch := omega) only [go_sem, ↓reduceIte, c_r11_Mediate_b22]
         refine bran_dec (fun c => ?_) (fun c => ?_)
         ·simp (disch := omega) only [go_sem, ↓reduceIte, w2, w4]
          refine call_by w3 ?_
          simp (disch := omega) only [go_sem, ↓reduceIte, w2, w4]
          exact ⟨i + 1, by rw [w1]; simp, by omega, by omega⟩
         ·obtain rfl : i = he.length := by omega
          simp (disch := omega) only [go_sem, ↓reduceIte, w2, w4]
          simp [mA]
   ·rw [if_pos c2] at hmd
    subst hmd
    obtain ⟨ggn, gge⟩ := gg
    simp only [csD, gD, mD, gA, mA] at *
    simp (disch := omega) only [go_sem, ↓reduceIte]
    refine call_by ro ?_
    simp (disch := omega) only [go_sem, ↓reduceIte]
    refine call_by r1 ?_
    simp (disch := omega) only [go_sem, ↓reduceIte]
    refine call_by r2 ?_
    simp (disch := omega) only [go_sem, ↓reduceIte, c2]
    simp [m0, mA, ints]
  ·rw [if_pos c1] at hE
   subst hE
   rw [if_pos c1] at hmd
   subst hmd
   obtain ⟨ggn, gge⟩ := gg
   simp only [csD, gD, mD, gA, mA] at *
   simp (disch := omega) only [go_sem, ↓reduceIte]
   refine call_by ro ?_
   simp (disch := omega) only [go_sem, ↓reduceIte]
   refine call_by r1 ?_
   simp (disch := omega) only [go_sem, ↓reduceIte, c1]
   simp [m0, mA, ints]
 ·rw [if_pos c0] at hE
  subst hE
  rw [if_pos c0] at hmd
  subst hmd
  obtain ⟨ggn, gge⟩ := gg
  obtain ⟨ppn, ppe⟩ := pp
  obtain ⟨qqn, qqe⟩ := qq
  simp only [csD, gD, mD, gA, mA] at *
  simp (disch := omega) only [go_sem, ↓reduceIte]
  refine call_by ro ?_
  simp (disch := omega) only [go_sem, ↓reduceIte, c0]
  simp [m0, mA, ints]
end
section
variable (P : Program) (F : String → Nat)
end
section
variable {P : Program} {F : String → Nat} {α : Type}
theorem w_r11_Check (hm : K_r11_Mediate P F) (ho : K_r11_Of P F) (hi : K_r06_Injective P F) (hj : K_r06_Surjective P F) (s : Cs) (x : G) (h k : Mo) :
  W P (c_r11_Check F) (Done [.t 8] [] (.bool (checkM s x h k)) []) (init [csD s, gD x, mD h, mD k]) := by
 refine W_of ?_
 have r1 := hm s x h k
 have r2 := ho s
 have hl : (medM s x h k).1.n.length ≤ 1000000 ∧ (medM s x h k).1.e.length ≤ 1000000 := by
  unfold medM
  split
  ·simp [m0]
  ·rename_i h1
   have h1 := Decidable.not_not.1 h1
   split
   ·unfold medErr at h1
    split at h1
    ·rename_i h2; exact absurd h1 h2
    ·split at h1
     ·rename_i h2; exact absurd h1 h2
     ·rename_i h2
      have h2 := Decidable.not_not.1 h2
      obtain ⟨q1, q2, _⟩ := validM_len h2
      simp only [meetL, meetI_len]
      omega
   ·simp [m0]
 have hc : checkM s x h k = (decide ((medM s x h k).2 = 0) && (injM x (pbG s) (medM s x h k).1 && surM x (pbG s) (medM s x h k).1)) := rfl
 have r3 := hi x (pbG s) (medM s x h k).1 (by unfold maxL; omega) (by unfold maxL; omega)
 have r4 := hj x (pbG s) (medM s x h k).1
 generalize injM x (pbG s) (medM s x h k).1 = b1 at *
 generalize surM x (pbG s) (medM s x h k).1 = b2 at *
 generalize checkM s x h k = cm at *
 generalize medM s x h k = md at *
 generalize pbErr s = e0 at *
 generalize pbG s = gg at *
 generalize pbP s = pp at *
 generalize pbQ s = qq at *
 obtain ⟨⟨mn, me⟩, er⟩ := md
 obtain ⟨ggn, gge⟩ := gg
 obtain ⟨ppn, ppe⟩ := pp
 obtain ⟨qqn, qqe⟩ := qq
 simp only [csD, gD, mD, mA, gA] at *
 subst hc
 simp (disch := omega) only [go_sem, ↓reduceIte]
 refine call_by r1 ?_
 simp (disch := omega) only [go_sem, ↓reduceIte]
 refine bran_ndec (fun c => ?_) (fun c => ?_)
 ·simp (disch := omega) only [go_sem, ↓reduceIte, c]
  try simp
 ·subst c
  simp (disch := omega) only [go_sem, ↓reduceIte]
  refine call_by r2 ?_
  simp (disch := omega) only [go_sem, ↓reduceIte]
  refine call_by r3 ?_
  cases b1
  ·simp (disch := omega) only [go_sem, ↓reduceIte]
   try simp
  ·simp (disch := omega) only [go_sem, ↓reduceIte]
   refine call_by r4 ?_
   simp (disch := omega) only [go_sem, ↓reduceIte]
   try simp
end
@[go_sem] def c_r14_Valid_r0 : LL := [qB 1 0,qi 2 0]
@[go_sem] def c_r14_Valid_r1 (F : Fn) : LL := [qf 6 0 1,qL 7 2 6,qf 8 2 1,qL 9 2 8,qf 10 8 1,qL 11 2 10,qc 12 (F "r06.Valid") [.t 7,.t 9,.t 11],qm 3 12]
@[go_sem] def c_r14_Valid_r2 : LL := [qm 13 3,qk .neq 14 13 0]
@[go_sem] def c_r14_Valid_r3 : LL := [qm 15 3,qm 2 15]
@[go_sem] def c_r14_Valid_r4 (F : Fn) : LL := [qf 16 0 1,qL 17 2 16,qf 18 4 1,qL 19 2 18,qf 20 10 1,qL 21 2 20,qc 22 (F "r06.Valid") [.t 17,.t 19,.t 21],qm 4 22]
@[go_sem] def c_r14_Valid_r5 : LL := [qm 23 4,qk .neq 24 23 0]
@[go_sem] def c_r14_Valid_r6 : LL := [qm 25 4,qm 2 25]
@[go_sem] def c_r14_Valid_r7 (F : Fn) : LL := [qf 26 2 1,qL 27 2 26,qf 28 6 1,qL 29 2 28,qf 30 12 1,qL 31 2 30,qc 32 (F "r06.Valid") [.t 27,.t 29,.t 31],qm 5 32]
@[go_sem] def c_r14_Valid_r8 : LL := [qm 33 5,qk .neq 34 33 0]
@[go_sem] def c_r14_Valid_r9 : LL := [qm 35 5,qm 2 35]
@[go_sem] def c_r14_Valid_r10 (F : Fn) : LL := [qf 36 4 1,qL 37 2 36,qf 38 6 1,qL 39 2 38,qf 40 14 1,qL 41 2 40,qc 42 (F "r06.Valid") [.t 37,.t 39,.t 41],qm 2 42]
@[go_sem] def c_r14_Valid (F : Fn) : LC := (.seq (.reg c_r14_Valid_r0 [1]) (.seq (.seq (.reg (c_r14_Valid_r1 F) [1,3]) (.seq (.reg c_r14_Valid_r2 [1,3,14]) (.cond (.t 14) (.seq (.reg c_r14_Valid_r3 [2]) .ret) .skip))) (.seq (.seq (.reg (c_r14_Valid_r4 F) [1,4]) (.seq (.reg c_r14_Valid_r5 [1,4,24]) (.cond (.t 24) (.seq (.reg c_r14_Valid_r6 [2]) .ret) .skip))) (.seq (.seq (.reg (c_r14_Valid_r7 F) [1,5]) (.seq (.reg c_r14_Valid_r8 [1,5,34]) (.cond (.t 34) (.seq (.reg c_r14_Valid_r9 [2]) .ret) .skip))) (.seq (.reg (c_r14_Valid_r10 F) [2]) .ret)))))
def h_r14_Valid : Hints := hOf [] (c_r14_Valid fun _ => 0)
@[go_sem] def c_square_Commutes_r0 : LL := [qB 1 0,qb 2 false,qi 3 0]
@[go_sem] def c_square_Commutes_r1 (F : Fn) : LL := [qL 5 16 1,qc 6 (F "square.valid") [.t 5],qm 4 6]
@[go_sem] def c_square_Commutes_r2 : LL := [qm 7 4,qk .neq 8 7 0]
@[go_sem] def c_square_Commutes_r3 : LL := [qm 9 4,qb 2 false,qm 3 9]
@[go_sem] def c_square_Commutes_r4 (F : Fn) : LL := [qL 10 16 1,qc 11 (F "square.commutes") [.t 10],qm 2 11,qi 3 0]
@[go_sem] def c_square_Commutes (F : Fn) : LC := (.seq (.reg c_square_Commutes_r0 [1]) (.seq (.seq (.reg (c_square_Commutes_r1 F) [1,4]) (.seq (.reg c_square_Commutes_r2 [1,4,8]) (.cond (.t 8) (.seq (.reg c_square_Commutes_r3 [2,3]) .ret) .skip))) (.seq (.reg (c_square_Commutes_r4 F) [2,3]) .ret)))
def h_square_Commutes : Hints := hOf [] (c_square_Commutes fun _ => 0)
@[go_sem] def c_r14_commutes_r0 : LL := [qB 1 0,qb 2 false]
@[go_sem] def c_r14_commutes_r1 (F : Fn) : LL := [qf 3 8 1,qL 4 2 3,qf 5 12 1,qL 6 2 5,qc 7 (F "r06.Then") [.t 4,.t 6],qf 8 10 1,qL 9 2 8,qf 10 14 1,qL 11 2 10,qc 12 (F "r06.Then") [.t 9,.t 11],qc 13 (F "r06.Same") [.t 7,.t 12],qm 2 13]
@[go_sem] def c_r14_commutes (F : Fn) : LC := (.seq (.reg c_r14_commutes_r0 [1]) (.seq (.dreg [(4,none,[],true),(6,(some 32),[4],false),(8,(some 128),[4],false)] (c_r14_commutes_r1 F) [2]) .ret))
def h_r14_commutes : Hints := hOf [] (c_r14_commutes fun _ => 0)
@[go_sem] def c_r14_Commutes_r0 : LL := [qB 1 0,qb 2 false,qi 3 0]
@[go_sem] def c_r14_Commutes_r1 (F : Fn) : LL := [qL 5 16 1,qc 6 (F "r14.Valid") [.t 5],qm 4 6]
@[go_sem] def c_r14_Commutes_r2 : LL := [qm 7 4,qk .neq 8 7 0]
@[go_sem] def c_r14_Commutes_r3 : LL := [qm 9 4,qb 2 false,qm 3 9]
@[go_sem] def c_r14_Commutes_r4 (F : Fn) : LL := [qL 10 16 1,qc 11 (F "r14.commutes") [.t 10],qm 2 11,qi 3 0]
@[go_sem] def c_r14_Commutes (F : Fn) : LC := (.seq (.reg c_r14_Commutes_r0 [1]) (.seq (.seq (.reg (c_r14_Commutes_r1 F) [1,4]) (.seq (.reg c_r14_Commutes_r2 [1,4,8]) (.cond (.t 8) (.seq (.reg c_r14_Commutes_r3 [2,3]) .ret) .skip))) (.seq (.reg (c_r14_Commutes_r4 F) [2,3]) .ret)))
def h_r14_Commutes : Hints := hOf [] (c_r14_Commutes fun _ => 0)
@[go_sem] def c_r14_span_r0 : LL := [qB 1 0,qa 2 [.nl 1,.nl 3,.nl 1,.nl 3,.nl 1,.nl 3,.nl 1,.nl 1,.nl 1,.nl 1]]
@[go_sem] def c_r14_span_r1 : LL := [qf 3 0 1,qL 4 2 3,qf 5 2 1,qL 6 2 5,qf 7 4 1,qL 8 2 7,qf 9 8 1,qL 10 2 9,qf 11 10 1,qL 12 2 11,
 qu 13 [.nl 1,.nl 3,.nl 1,.nl 3,.nl 1,.nl 3,.nl 1,.nl 1,.nl 1,.nl 1] [(0,2,.t 4),(2,2,.t 6),(4,2,.t 8),(6,2,.t 10),(8,2,.t 12)],qs 10 2 13]
@[go_sem] def c_r14_span (F : Fn) : LC := (.seq (.reg c_r14_span_r0 [1,2]) (.seq (.reg c_r14_span_r1 [2]) .ret))
def h_r14_span : Hints := hOf [] (c_r14_span fun _ => 0)
@[go_sem] def c_r14_cospan_r0 : LL := [qB 1 0,qa 2 [.nl 1,.nl 3,.nl 1,.nl 3,.nl 1,.nl 3,.nl 1,.nl 1,.nl 1,.nl 1]]
@[go_sem] def c_r14_cospan_r1 : LL := [qf 3 2 1,qL 4 2 3,qf 5 4 1,qL 6 2 5,qf 7 6 1,qL 8 2 7,qf 9 12 1,qL 10 2 9,qf 11 14 1,qL 12 2 11,
 qu 13 [.nl 1,.nl 3,.nl 1,.nl 3,.nl 1,.nl 3,.nl 1,.nl 1,.nl 1,.nl 1] [(0,2,.t 4),(2,2,.t 6),(4,2,.t 8),(6,2,.t 10),(8,2,.t 12)],qs 10 2 13]
@[go_sem] def c_r14_cospan (F : Fn) : LC := (.seq (.reg c_r14_cospan_r0 [1,2]) (.seq (.reg c_r14_cospan_r1 [2]) .ret))
def h_r14_cospan : Hints := hOf [] (c_r14_cospan fun _ => 0)
@[go_sem] def c_r14_Few_r0 : LL := [qB 1 0,qb 2 false]
@[go_sem] def c_r14_Few_r1 (F : Fn) : LL := [qf 4 0 1,qL 5 2 4,qc 6 (F "r05.Few") [.t 5],qm 7 6,qg 7 true (qf 8 2 1),qg 7 true (qL 9 2 8),qg 7 true (qc 10 (F "r05.Few") [.t 9]),qP 11 7 10,qm 12 11,qg 12 true (qf 13 4 1),qg 12 true (qL 14 2 13),
 qg 12 true (qc 15 (F "r05.Few") [.t 14]),qP 16 12 15,qm 17 16,qg 17 true (qf 18 6 1),qg 17 true (qL 19 2 18),qg 17 true (qc 20 (F "r05.Few") [.t 19]),qP 21 17 20,qm 3 21]
@[go_sem] def c_r14_Few_r2 (F : Fn) : LL := [qm 22 3,qm 23 22,qg 23 true (qf 24 8 1),qg 23 true (qL 25 2 24),qg 23 true (qc 26 (F "r06.Few") [.t 25,.k (.int .i64 (140))]),qP 27 23 26,qm 28 27,qg 28 true (qf 29 10 1),
 qg 28 true (qL 30 2 29),qg 28 true (qc 31 (F "r06.Few") [.t 30,.k (.int .i64 (140))]),qP 32 28 31,qm 33 32,qg 33 true (qf 34 12 1),qg 33 true (qL 35 2 34),
 qg 33 true (qc 36 (F "r06.Few") [.t 35,.k (.int .i64 (140))]),qP 37 33 36,qm 38 37,qg 38 true (qf 39 14 1),qg 38 true (qL 40 2 39),qg 38 true (qc 41 (F "r06.Few") [.t 40,.k (.int .i64 (140))]),
 qP 42 38 41,qm 2 42]
@[go_sem] def c_r14_Few (F : Fn) : LC := (.seq (.reg c_r14_Few_r0 [1]) (.seq (.reg (c_r14_Few_r1 F) [1,3]) (.seq (.reg (c_r14_Few_r2 F) [2]) .ret)))
def h_r14_Few : Hints := hOf [] (c_r14_Few fun _ => 0)
def fewSq (s : Sq) : Bool := few s.a && (few s.b && (few s.c && (few s.d && (fewM s.f 140 && (fewM s.g 140 && (fewM s.h 140 && fewM s.k 140))))))
section
variable (P : Program) (F : String → Nat)
def K_r14_Valid : Prop := ∀ s : Sq, FC P (F "r14.Valid") [sqD s] (.int .i64 (sqE s)) []
def K_r14_commutes : Prop := ∀ s : Sq, sqE s = 0 → FC P (F "r14.commutes") [sqD s] (.bool (comB s)) []
def comR (s : Sq) : Bool × Int := if sqE s ≠ 0 then (false, sqE s) else (comB s, 0)
def K_square_Commutes : Prop := ∀ s : Sq, FC P (F "square.Commutes") [sqD s] (.tup [.bool (comR s).1, .int .i64 (comR s).2]) []
def K_r14_Commutes : Prop := ∀ s : Sq, FC P (F "r14.Commutes") [sqD s] (.tup [.bool (comR s).1, .int .i64 (comR s).2]) []
def K_r14_span : Prop := ∀ s : Sq, FC P (F "r14.span") [sqD s] (spD s.dn) []
def K_r14_cospan : Prop := ∀ s : Sq, FC P (F "r14.cospan") [sqD s] (csD s.up) []
def K_r14_Few : Prop := ∀ s : Sq, s.sm → FC P (F "r14.Few") [sqD s] (.bool (fewSq s)) []
end
section
variable {P : Program} {F : String → Nat} {α : Type}
theorem w_r14_Valid (hv : K_r06_Valid P F) (s : Sq) : W P (c_r14_Valid F) (Done [.t 2] [] (.int .i64 (sqE s)) []) (init [sqD s]) := by
 refine W_of ?_
 have r1 := hv s.a s.b s.f
 have r2 := hv s.a s.c s.g
 have r3 := hv s.b s.d s.h
 have r4 := hv s.c s.d s.k
 unfold sqE
 generalize validM s.a s.b s.f = v1 at *
 generalize validM s.a s.c s.g = v2 at *
 generalize validM s.b s.d s.h = v3 at *
 generalize validM s.c s.d s.k = v4 at *
 simp only [gD, mD, sqD] at *
 simp (disch := omega) only [go_sem, ↓reduceIte]
 refine call_by r1 ?_
 simp (disch := omega) only [go_sem, ↓reduceIte]
 refine bran_ndec (fun c => ?_) (fun c => ?_)
 ·simp (disch := omega) only [go_sem, ↓reduceIte]
  try rw [if_pos c]
 rw [if_neg (by simp [c])]
 simp (disch := omega) only [go_sem, ↓reduceIte]
 refine call_by r2 ?_
 simp (disch := omega) only [go_sem, ↓reduceIte]
 refine bran_ndec (fun c => ?_) (fun c => ?_)
 ·simp (disch := omega) only [go_sem, ↓reduceIte]
  try rw [if_pos c]
 rw [if_neg (by simp [c])]
 simp (disch := omega) only [go_sem, ↓reduceIte]
 refine call_by r3 ?_
 simp (disch := omega) only [go_sem, ↓reduceIte]
 refine bran_ndec (fun c => ?_) (fun c => ?_)
 ·simp (disch := omega) only [go_sem, ↓reduceIte]
  try rw [if_pos c]
 rw [if_neg (by simp [c])]
 simp (disch := omega) only [go_sem, ↓reduceIte]
 refine call_by r4 ?_
 simp (disch := omega) only [go_sem, ↓reduceIte]
theorem w_r14_commutes (ht : K_r06_Then P F) (hs : K_r06_Same P F) (s : Sq) (h0 : sqE s = 0) : W P (c_r14_commutes F) (Done [.t 2] [] (.bool (comB s)) []) (init [sqD s]) := by
 refine W_of ?_
 have q := sqE_ok.1 h0
 have f1 := q.f.fit q.h
 have f2 := q.g.fit q.k
 have r1 := ht s.f s.h (by omega) (by omega) f1.2.1 f1.2.2
 have r2 := ht s.g s.k (by omega) (by omega) f2.2.1 f2.2.2
 have e1 : (thenM s.f s.h).n.length = s.f.n.length := thr_len _ _
 have e2 : (thenM s.f s.h).e.length = s.f.e.length := thr_len _ _
 have r3 := hs (thenM s.f s.h) (thenM s.g s.k) (by unfold maxL; omega) (by unfold maxL; omega)
 unfold comB
 clear e1 e2 f1 f2 q h0
 generalize thenM s.f s.h = x at *
 generalize thenM s.g s.k = y at *
 obtain ⟨xn, xe⟩ := x
 obtain ⟨yn, ye⟩ := y
 simp only [mA, mD, sqD] at *
 simp (disch := omega) only [go_sem, ↓reduceIte]
 refine call_by r1 ?_
 simp (disch := omega) only [go_sem, ↓reduceIte]
 refine call_by r2 ?_
 simp (disch := omega) only [go_sem, ↓reduceIte]
 refine call_by r3 ?_
 simp (disch := omega) only [go_sem, ↓reduceIte]
theorem w_square_Commutes (hv : K_square_valid P F) (hc : K_square_commutes P F) (s : Sq) : W P (c_square_Commutes F) (Done [.t 2, .t 3] [] (.tup [.bool (comR s).1, .int .i64 (comR s).2]) []) (init [sqD s]) := by
 refine W_of ?_
 have r1 := hv s
 have r2 := hc s
 unfold comR
 generalize sqE s = v at *
 simp only [sqD] at *
 simp (disch := omega) only [go_sem, ↓reduceIte]
 refine call_by r1 ?_
 simp (disch := omega) only [go_sem, ↓reduceIte]
 refine bran_ndec (fun c => ?_) (fun c => ?_)
 ·simp (disch := omega) only [go_sem, ↓reduceIte]
  try rw [if_pos c]
 ·simp (disch := omega) only [go_sem, ↓reduceIte]
  refine call_by (r2 c) ?_
  simp (disch := omega) only [go_sem, ↓reduceIte]
  try rw [if_neg (by simp [c])]
theorem w_r14_Commutes (hv : K_r14_Valid P F) (hc : K_r14_commutes P F) (s : Sq) : W P (c_r14_Commutes F) (Done [.t 2, .t 3] [] (.tup [.bool (comR s).1, .int .i64 (comR s).2]) []) (init [sqD s]) := by
 refine W_of ?_
 have r1 := hv s
 have r2 := hc s
 unfold comR
 generalize sqE s = v at *
 simp only [sqD] at *
 simp (disch := omega) only [go_sem, ↓reduceIte]
 refine call_by r1 ?_
 simp (disch := omega) only [go_sem, ↓reduceIte]
 refine bran_ndec (fun c => ?_) (fun c => ?_)
 ·simp (disch := omega) only [go_sem, ↓reduceIte]
  try rw [if_pos c]
 ·simp (disch := omega) only [go_sem, ↓reduceIte]
  refine call_by (r2 c) ?_
  simp (disch := omega) only [go_sem, ↓reduceIte]
  try rw [if_neg (by simp [c])]
theorem w_r14_span (s : Sq) : W P (c_r14_span F) (Done [.c 2 true 10] [] (spD s.dn) []) (init [sqD s]) := by
 refine W_of ?_
 simp only [sqD]
 simp (disch := omega) only [go_sem, ↓reduceIte]
 rfl
theorem w_r14_cospan (s : Sq) : W P (c_r14_cospan F) (Done [.c 2 true 10] [] (csD s.up) []) (init [sqD s]) := by
 refine W_of ?_
 simp only [sqD]
 simp (disch := omega) only [go_sem, ↓reduceIte]
 rfl
end
@[go_sem] def c_r14_Kind_r0 : LL := [qB 1 0,qi 2 0,qi 3 0]
@[go_sem] def c_r14_Kind_r1 (F : Fn) : LL := [qL 14 16 1,qc 15 (F "r14.Valid") [.t 14],qm 4 15]
@[go_sem] def c_r14_Kind_r2 : LL := [qm 16 4,qk .neq 17 16 0]
@[go_sem] def c_r14_Kind_r3 : LL := [qm 18 4,qi 2 0,qm 3 18]
@[go_sem] def c_r14_Kind_r4 (F : Fn) : LL := [qL 19 16 1,qc 20 (F "r14.commutes") [.t 19],qv 21 20]
@[go_sem] def c_r14_Kind_r5 : LL := [qi 2 0,qi 3 0]
@[go_sem] def c_r14_Kind_r6 (F : Fn) : LL := [qf 23 2 1,qL 24 2 23,qf 25 4 1,qL 26 2 25,qc 27 (F "r05.Union") [.t 24,.t 26],qm 22 27,qx 28 22 0,qx 29 22 1,qx 30 22 2,qx 31 22 3,qa 5 [.nl 1,.nl 3],qa 6 [.nl 1,.nl 1],qa 7 [.nl 1,.nl 1],
 qs 2 5 28,qs 2 6 29,qs 2 7 30,qm 8 31]
@[go_sem] def c_r14_Kind_r7 : LL := [qm 32 8,qk .neq 33 32 0]
@[go_sem] def c_r14_Kind_r8 : LL := [qm 34 8,qi 2 0,qm 3 34]
@[go_sem] def c_r14_Kind_r9 (F : Fn) : LL := [qL 36 16 1,qc 37 (F "r14.cospan") [.t 36],qc 38 (F "r11.Of") [.t 37],qm 35 38,qx 39 35 0,qx 40 35 1,qx 41 35 2,qx 42 35 3,qa 9 [.nl 1,.nl 3],qa 10 [.nl 1,.nl 1],qa 11 [.nl 1,.nl 1],qs 2 9 39,
 qs 2 10 40,qs 2 11 41,qm 12 42]
@[go_sem] def c_r14_Kind_r10 : LL := [qm 43 12,qk .neq 44 43 0]
@[go_sem] def c_r14_Kind_r11 : LL := [qm 45 12,qi 2 0,qm 3 45]
@[go_sem] def c_r14_Kind_r12 : LL := [qi 13 0]
@[go_sem] def c_r14_Kind_r13 (F : Fn) : LL := [qL 46 16 1,qc 47 (F "r14.span") [.t 46],qf 48 6 1,qL 49 2 48,qf 50 12 1,qL 51 2 50,qf 52 14 1,qL 53 2 52,qc 54 (F "r10.Check") [.t 47,.t 49,.t 51,.t 53]]
@[go_sem] def c_r14_Kind_r14 : LL := [qm 55 13,qk .add 56 55 1,qm 13 56]
@[go_sem] def c_r14_Kind_r15 (F : Fn) : LL := [qL 57 16 1,qc 58 (F "r14.cospan") [.t 57],qf 59 0 1,qL 60 2 59,qf 61 8 1,qL 62 2 61,qf 63 10 1,qL 64 2 63,qc 65 (F "r11.Check") [.t 58,.t 60,.t 62,.t 64]]
@[go_sem] def c_r14_Kind_r16 : LL := [qm 66 13,qk .add 67 66 2,qm 13 67]
@[go_sem] def c_r14_Kind_r17 : LL := [qm 68 13,qm 2 68,qi 3 0]
@[go_sem] def c_r14_Kind (F : Fn) : LC := (.seq (.reg c_r14_Kind_r0 [1]) (.seq (.seq (.reg (c_r14_Kind_r1 F) [1,4]) (.seq (.reg c_r14_Kind_r2 [1,4,17]) (.cond (.t 17) (.seq (.reg c_r14_Kind_r3 [2,3]) .ret) .skip))) (.seq (.seq (.reg (c_r14_Kind_r4 F) [1,21]) (.cond (.t 21) (.seq (.reg c_r14_Kind_r5 [2,3]) .ret) .skip)) (.seq (.seq (.reg (c_r14_Kind_r6 F) [1,8]) (.seq (.reg c_r14_Kind_r7 [1,8,33]) (.cond (.t 33) (.seq (.reg c_r14_Kind_r8 [2,3]) .ret) .skip))) (.seq (.seq (.reg (c_r14_Kind_r9 F) [1,12]) (.seq (.reg c_r14_Kind_r10 [1,12,44]) (.cond (.t 44) (.seq (.reg c_r14_Kind_r11 [2,3]) .ret) .skip))) (.seq (.reg c_r14_Kind_r12 [1,13]) (.seq (.seq (.dreg [(1,none,[],true),(3,(some 4),[1],false),(5,(some 16),[1],false),(7,(some 64),[1],false)] (c_r14_Kind_r13 F) [1,13,54]) (.cond (.t 54) (.reg c_r14_Kind_r14 [1,13]) .skip)) (.seq (.seq (.dreg [(1,none,[],true),(3,(some 4),[1],false),(5,(some 16),[1],false),(7,(some 64),[1],false)] (c_r14_Kind_r15 F) [13,65]) (.cond (.t 65) (.reg c_r14_Kind_r16 [13]) .skip)) (.seq (.reg c_r14_Kind_r17 [2,3]) .ret)))))))))
def h_r14_Kind : Hints := hOf [] (c_r14_Kind fun _ => 0)
section
variable (P : Program) (F : String → Nat)
def K_r14_Kind : Prop := ∀ s : Sq, FC P (F "r14.Kind") [sqD s] (.tup [.int .i64 (kindR s).1, .int .i64 (kindR s).2]) []
end
section
variable {P : Program} {F : String → Nat} {α : Type}
set_option maxHeartbeats 1000000 in
theorem w_r14_Few (hg : K_r05_Few P F) (hm : K_r06_Few P F) (s : Sq) (h : s.sm) : W P (c_r14_Few F) (Done [.t 2] [] (.bool (fewSq s)) []) (init [sqD s]) := by
 refine W_of ?_
 obtain ⟨f, g, hh, k⟩ := h
 have ra := hg s.a
 have rb := hg s.b
 have rc := hg s.c
 have rd := hg s.d
 have rf := hm s.f 140 f.1 f.2
 have rg := hm s.g 140 g.1 g.2
 have rh := hm s.h 140 hh.1 hh.2
 have rk := hm s.k 140 k.1 k.2
 unfold fewSq
 generalize few s.a = za at *
 generalize few s.b = zb at *
 generalize few s.c = zc at *
 generalize few s.d = zd at *
 generalize fewM s.f 140 = zf at *
 generalize fewM s.g 140 = zg at *
 generalize fewM s.h 140 = zh at *
 generalize fewM s.k 140 = zk at *
 simp only [gD, mD, sqD] at *
 cases za
 ·simp (disch := omega) only [go_sem, ↓reduceIte]
  refine call_by ra ?_
  simp (disch := omega) only [go_sem, ↓reduceIte]
  try simp
 cases zb
 ·simp (disch := omega) only [go_sem, ↓reduceIte]
  refine call_by ra ?_
  simp (disch := omega) only [go_sem, ↓reduceIte]
  refine call_by rb ?_
  simp (disch := omega) only [go_sem, ↓reduceIte]
  try simp
 cases zc
 ·simp (disch := omega) only [go_sem, ↓reduceIte]
  refine call_by ra ?_
  simp (disch := omega) only [go_sem, ↓reduceIte]
  refine call_by rb ?_
  simp (disch := omega) only [go_sem, ↓reduceIte]
  refine call_by rc ?_
  simp (disch := omega) only [go_sem, ↓reduceIte]
  try simp
 cases zd
 ·simp (disch := omega) only [go_sem, ↓reduceIte]
  refine call_by ra ?_
  simp (disch := omega) only [go_sem, ↓reduceIte]
  refine call_by rb ?_
  simp (disch := omega) only [go_sem, ↓reduceIte]
  refine call_by rc ?_
  simp (disch := omega) only [go_sem, ↓reduceIte]
  refine call_by rd ?_
  simp (disch := omega) only [go_sem, ↓reduceIte]
  try simp
 cases zf
 ·simp (disch := omega) only [go_sem, ↓reduceIte]
  refine call_by ra ?_
  simp (disch := omega) only [go_sem, ↓reduceIte]
  refine call_by rb ?_
  simp (disch := omega) only [go_sem, ↓reduceIte]
  refine call_by rc ?_
  simp (disch := omega) only [go_sem, ↓reduceIte]
  refine call_by rd ?_
  simp (disch := omega) only [go_sem, ↓reduceIte]
  refine call_by rf ?_
  simp (disch := omega) only [go_sem, ↓reduceIte]
  try simp
 cases zg
 ·simp (disch := omega) only [go_sem, ↓reduceIte]
  refine call_by ra ?_
  simp (disch := omega) only [go_sem, ↓reduceIte]
  refine call_by rb ?_
  simp (disch := omega) only [go_sem, ↓reduceIte]
  refine call_by rc ?_
  simp (disch := omega) only [go_sem, ↓reduceIte]
  refine call_by rd ?_
  simp (disch := omega) only [go_sem, ↓reduceIte]
  refine call_by rf ?_
  simp (disch := omega) only [go_sem, ↓reduceIte]
  refine call_by rg ?_
  simp (disch := omega) only [go_sem, ↓reduceIte]
  try simp
 cases zh
 ·simp (disch := omega) only [go_sem, ↓reduceIte]
  refine call_by ra ?_
  simp (disch := omega) only [go_sem, ↓reduceIte]
  refine call_by rb ?_
  simp (disch := omega) only [go_sem, ↓reduceIte]
  refine call_by rc ?_
  simp (disch := omega) only [go_sem, ↓reduceIte]
  refine call_by rd ?_
  simp (disch := omega) only [go_sem, ↓reduceIte]
  refine call_by rf ?_
  simp (disch := omega) only [go_sem, ↓reduceIte]
  refine call_by rg ?_
  simp (disch := omega) only [go_sem, ↓reduceIte]
  refine call_by rh ?_
  simp (disch := omega) only [go_sem, ↓reduceIte]
  try simp
 cases zk
 ·simp (disch := omega) only [go_sem, ↓reduceIte]
  refine call_by ra ?_
  simp (disch := omega) only [go_sem, ↓reduceIte]
  refine call_by rb ?_
  simp (disch := omega) only [go_sem, ↓reduceIte]
  refine call_by rc ?_
  simp (disch := omega) only [go_sem, ↓reduceIte]
  refine call_by rd ?_
  simp (disch := omega) only [go_sem, ↓reduceIte]
  refine call_by rf ?_
  simp (disch := omega) only [go_sem, ↓reduceIte]
  refine call_by rg ?_
  simp (disch := omega) only [go_sem, ↓reduceIte]
  refine call_by rh ?_
  simp (disch := omega) only [go_sem, ↓reduceIte]
  refine call_by rk ?_
  simp (disch := omega) only [go_sem, ↓reduceIte]
  try simp
 ·simp (disch := omega) only [go_sem, ↓reduceIte]
  refine call_by ra ?_
  simp (disch := omega) only [go_sem, ↓reduceIte]
  refine call_by rb ?_
  simp (disch := omega) only [go_sem, ↓reduceIte]
  refine call_by rc ?_
  simp (disch := omega) only [go_sem, ↓reduceIte]
  refine call_by rd ?_
  simp (disch := omega) only [go_sem, ↓reduceIte]
  refine call_by rf ?_
  simp (disch := omega) only [go_sem, ↓reduceIte]
  refine call_by rg ?_
  simp (disch := omega) only [go_sem, ↓reduceIte]
  refine call_by rh ?_
  simp (disch := omega) only [go_sem, ↓reduceIte]
  refine call_by rk ?_
  simp (disch := omega) only [go_sem, ↓reduceIte]
  try simp
theorem dn_ok {s : Sq} (h : sqE s = 0) : spE s.dn = 0 := by
 have q := sqE_ok.1 h
 exact spE_ok.2 ⟨q.f, q.g⟩
set_option maxHeartbeats 1000000 in
theorem w_r14_Kind (hv : K_r14_Valid P F) (hc : K_r14_commutes P F) (ho : K_r05_Union P F) (hb : K_r11_Of P F) (hsp : K_r14_span P F) (hcs : K_r14_cospan P F) (h1 : K_r10_Check P F) (h2 : K_r11_Check P F) (s : Sq) : W P (c_r14_Kind F) (Done [.t 2, .t 3] [] (.tup [.int .i64 (kindR s).1, .int .i64 (kindR s).2]) []) (init [sqD s]) := by
 refine W_of ?_
 have r1 := hv s
 have r2 := hc s
 have r3 := ho s.b s.c
 have r4 := hb s.up
 have r5 := h1 s.dn s.d s.h s.k
 have r6 := h2 s.up s.a s.f s.g
 have r7 := hsp s
 have r8 := hcs s
 have e3 : sqE s = 0 → (uniG s.b s.c).2.2.2 = poErr s.dn := fun h => by
  have q := sqE_ok.1 h
  rw [uniG_ok q.f.vb q.g.vb]
  unfold poErr
  rw [if_neg (show ¬ spE s.dn ≠ 0 by simp [dn_ok h])]
  show (if Big s.b s.c then _ else _ : G × Mo × Mo × Int).2.2.2 = if Big s.b s.c then 3 else 0
  split <;> rfl
 unfold kindR kindV
 generalize sqE s = v1 at *
 generalize comB s = v2 at *
 generalize chkP s.dn s.d s.h s.k = v5 at *
 generalize checkM s.up s.a s.f s.g = v6 at *
 generalize poErr s.dn = v3 at *
 generalize pbErr s.up = v4 at *
 generalize uniG s.b s.c = R at *
 generalize pbG s.up = pg at *
 generalize pbP s.up = pp at *
 generalize pbQ s.up = pq at *
 obtain ⟨⟨rn, re⟩, ⟨an, ae⟩, ⟨bn, be⟩, v⟩ := R
 simp only at e3
 simp only [gD, mD, gA, mA, sqD, spD, csD, uniD, Sq.dn, Sq.up] at *
 simp (disch := omega) only [go_sem, ↓reduceIte]
 refine call_by r1 ?_
 simp (disch := omega) only [go_sem, ↓reduceIte]
 refine bran_ndec (fun c => ?_) (fun c => ?_)
 ·simp (disch := omega) only [go_sem, ↓reduceIte]
  try simp [c]
 rw [if_neg (by simp [c])]
 have r2 := r2 c
 have e3 := e3 c
 subst e3
 cases v2
 ·simp (disch := omega) only [go_sem, ↓reduceIte]
  refine call_by r2 ?_
  simp (disch := omega) only [go_sem, ↓reduceIte]
  try simp
 rw [if_neg (by simp)]
 simp (disch := omega) only [go_sem, ↓reduceIte]
 refine call_by r2 ?_
 simp (disch := omega) only [go_sem, ↓reduceIte]
 refine call_by r3 ?_
 simp (disch := omega) only [go_sem, ↓reduceIte]
 refine bran_ndec (fun c => ?_) (fun c => ?_)
 ·simp (disch := omega) only [go_sem, ↓reduceIte]
  try simp [c]
 rw [if_neg (by simp [c])]
 simp (disch := omega) only [go_sem, ↓reduceIte]
 refine call_by r8 ?_
 simp (disch := omega) only [go_sem, ↓reduceIte]
 refine call_by r4 ?_
 simp (disch := omega) only [go_sem, ↓reduceIte]
 refine bran_ndec (fun c => ?_) (fun c => ?_)
 ·simp (disch := omega) only [go_sem, ↓reduceIte]
  try simp [c]
 rw [if_neg (by simp [c])]
 simp (disch := omega) only [go_sem, ↓reduceIte]
 refine call_by r7 ?_
 simp (disch := omega) only [go_sem, ↓reduceIte]
 refine call_by r5 ?_
 cases v5 <;> cases v6
 all_goals
  simp (disch := omega) only [go_sem, ↓reduceIte]
  refine call_by r8 ?_
  simp (disch := omega) only [go_sem, ↓reduceIte]
  refine call_by r6 ?_
  simp (disch := omega) only [go_sem, ↓reduceIte]
  try simp
end
@[go_sem] def c_l14_SquareKind_r0 : LL := [qB 1 0,qb 2 false]
@[go_sem] def c_l14_SquareKind_r1 (F : Fn) : LL := [qc 11 (F "l14.awake") [],qv 12 11,qm 13 12,qg 13 false (qL 14 16 1),qg 13 false (qc 15 (F "r14.Few") [.t 14]),qg 13 false (qv 16 15),qQ 17 13 16]
@[go_sem] def c_l14_SquareKind_r2 (F : Fn) : LL := [qc 18 (F "l14.awake") [],qm 2 18]
@[go_sem] def c_l14_SquareKind_r3 (F : Fn) : LL := [qL 20 16 1,qc 21 (F "square.Commutes") [.t 20],qm 19 21,qx 22 19 0,qx 23 19 1,qm 3 22,qm 4 23]
@[go_sem] def c_l14_SquareKind_r4 (F : Fn) : LL := [qL 25 16 1,qc 26 (F "r14.Commutes") [.t 25],qm 24 26,qx 27 24 0,qx 28 24 1,qm 5 27,qm 6 28]
@[go_sem] def c_l14_SquareKind_r5 (F : Fn) : LL := [qL 30 16 1,qc 31 (F "square.Kind") [.t 30],qm 29 31,qx 32 29 0,qx 33 29 1,qm 7 32,qm 8 33]
@[go_sem] def c_l14_SquareKind_r6 (F : Fn) : LL := [qL 35 16 1,qc 36 (F "r14.Kind") [.t 35],qm 34 36,qx 37 34 0,qx 38 34 1,qm 9 37,qm 10 38]
@[go_sem] def c_l14_SquareKind_r7 : LL := [qm 39 3,qm 40 5,⟨some 41,.eqB false (.t 39) (.t 40),none⟩,qm 42 41,qg 42 true (qm 43 4),qg 42 true (qm 44 6),qg 42 true (qo .eql 45 43 44),qP 46 42 45,qm 47 46,
 qg 47 true (qm 48 7),qg 47 true (qm 49 9),qg 47 true (qo .eql 50 48 49),qP 51 47 50,qm 52 51,qg 52 true (qm 53 8),qg 52 true (qm 54 10),qg 52 true (qo .eql 55 53 54),qP 56 52 55,
 qm 2 56]
@[go_sem] def c_l14_SquareKind (F : Fn) : LC := (.seq (.reg c_l14_SquareKind_r0 [1]) (.seq (.seq (.reg (c_l14_SquareKind_r1 F) [1,17]) (.cond (.t 17) (.seq (.reg (c_l14_SquareKind_r2 F) [2]) .ret) .skip)) (.seq (.reg (c_l14_SquareKind_r3 F) [1,3,4]) (.seq (.reg (c_l14_SquareKind_r4 F) [1,3,4,5,6]) (.seq (.reg (c_l14_SquareKind_r5 F) [1,3,4,5,6,7,8]) (.seq (.reg (c_l14_SquareKind_r6 F) [3,4,5,6,7,8,9,10]) (.seq (.reg c_l14_SquareKind_r7 [2]) .ret)))))))
def h_l14_SquareKind : Hints := hOf [] (c_l14_SquareKind fun _ => 0)
section
variable (P : Program) (F : String → Nat)
def K_l14_SquareKind : Prop := ∀ s : Sq, s.sm → FC P (F "l14.SquareKind") [sqD s] (.bool true) []
end
section
variable {P : Program} {F : String → Nat} {α : Type}
set_option maxHeartbeats 1000000 in
theorem w_l14_SquareKind (hw : K_l14_awake P F) (hf : K_r14_Few P F) (h1 : K_square_Commutes P F) (h2 : K_r14_Commutes P F) (h3 : K_square_Kind P F) (h4 : K_r14_Kind P F) (s : Sq) (hs : s.sm) : W P (c_l14_SquareKind F) (Done [.t 2] [] (.bool true) []) (init [sqD s]) := by
 refine W_of ?_
 have r1 := hf s hs
 have r2 := h1 s
 have r3 := h2 s
 have r4 := h3 s
 have r5 := h4 s
 generalize comR s = x at *
 generalize kindR s = y at *
 obtain ⟨x1, x2⟩ := x
 obtain ⟨y1, y2⟩ := y
 simp only [sqD] at *
 cases c : fewSq s
 ·rw [c] at r1
  simp (disch := omega) only [go_sem, ↓reduceIte]
  refine call_by hw ?_
  simp (disch := omega) only [go_sem, ↓reduceIte]
  refine call_by r1 ?_
  simp (disch := omega) only [go_sem, ↓reduceIte]
  refine call_by hw ?_
  simp (disch := omega) only [go_sem, ↓reduceIte]
 rw [c] at r1
 simp (disch := omega) only [go_sem, ↓reduceIte]
 refine call_by hw ?_
 simp (disch := omega) only [go_sem, ↓reduceIte]
 refine call_by r1 ?_
 simp (disch := omega) only [go_sem, ↓reduceIte]
 refine call_by r2 ?_
 simp (disch := omega) only [go_sem, ↓reduceIte]
 refine call_by r3 ?_
 simp (disch := omega) only [go_sem, ↓reduceIte]
 refine call_by r4 ?_
 simp (disch := omega) only [go_sem, ↓reduceIte]
 refine call_by r5 ?_
 simp (disch := omega) only [go_sem, ↓reduceIte]
 try simp
def shSq : Sh := .cat [shG, shG, shG, shG, shM, shM, shM, shM]
theorem rd_sq {x : D} (h : HasEl shSq x) : ∃ s : Sq, x = sqD s ∧ s.sm := by
 simp only [shSq, HasEl] at h
 obtain ⟨ds, rfl, h⟩ := h
 obtain ⟨_, _, rfl, h1, h⟩ := hasShs_cat h
 obtain ⟨_, _, rfl, h2, h⟩ := hasShs_cat h
 obtain ⟨_, _, rfl, h3, h⟩ := hasShs_cat h
 obtain ⟨_, _, rfl, h4, h⟩ := hasShs_cat h
 obtain ⟨_, _, rfl, h5, h⟩ := hasShs_cat h
 obtain ⟨_, _, rfl, h6, h⟩ := hasShs_cat h
 obtain ⟨_, _, rfl, h7, h⟩ := hasShs_cat h
 obtain ⟨_, _, rfl, h8, h⟩ := hasShs_cat h
 obtain rfl := hasShs_nil h
 obtain ⟨a, rfl⟩ := rd_gl h1
 obtain ⟨b, rfl⟩ := rd_gl h2
 obtain ⟨c, rfl⟩ := rd_gl h3
 obtain ⟨d, rfl⟩ := rd_gl h4
 obtain ⟨f, rfl, k1⟩ := rd_ml h5
 obtain ⟨g, rfl, k2⟩ := rd_ml h6
 obtain ⟨hh, rfl, k3⟩ := rd_ml h7
 obtain ⟨k, rfl, k4⟩ := rd_ml h8
 exact ⟨⟨a, b, c, d, f, g, hh, k⟩, rfl, k1, k2, k3, k4⟩
theorem x_l14_SquareKind (h : K_l14_SquareKind P F) (args : List D) (ha : HasEls [shSq] args) : FC P (F "l14.SquareKind") args (.bool true) [] := by
 simp only [HasEls] at ha
 obtain ⟨_, _, rfl, h1, rfl⟩ := ha
 obtain ⟨s, rfl, k⟩ := rd_sq h1
 exact h s k
end
end Go.Am
