/- The graph package and its reference: parts. -/
import Derived.Test.YtelmgaflhmcihaaGreatSpPa
import Derived.Test.YtelmgaflhmcihaaGreatSpPb
import Derived.Test.YtelmgaflhmcihaaGreatSpPc
import Derived.Test.YtelmgaflhmcihaaGreatSpPd
import Derived.Test.YtelmgaflhmcihaaGreatSpPe
namespace Go.Am
open Go
set_option linter.unusedVariables false
set_option linter.unusedSimpArgs false
@[go_sem] def c_r05_kind_r0 : LL := [qb 2 false]
@[go_sem] def c_r05_kind_r1 : LL := [qm 3 0,qk .geq 4 3 0,qm 5 4,qg 5 true (qm 6 0),qg 5 true (qk .leq 7 6 99),qP 8 5 7,qm 2 8]
@[go_sem] def c_r05_kind (F : Fn) : LC := (.seq (.reg c_r05_kind_r0 [0]) (.seq (.reg c_r05_kind_r1 [2]) .ret))
def h_r05_kind : Hints := hOf [] (c_r05_kind fun _ => 0)
@[go_sem] def c_r05_right_r0 : LL := [qB 2 0,qb 4 false]
@[go_sem] def c_r05_right_r1 (F : Fn) : LL := [qf 5 0 2,ql 6 1 5,qc 7 (F "r05.kind") [.t 6],qm 8 7,qg 8 true (qf 9 1 2),qg 8 true (ql 10 1 9),qg 8 true (qk .geq 11 10 0),qP 12 8 11,qm 13 12,qg 13 true (qf 14 1 2),qg 13 true (ql 15 1 14),
 qg 13 true (qm 16 1),qg 13 true (qo .lss 17 15 16),qP 18 13 17,qm 19 18,qg 19 true (qf 20 2 2),qg 19 true (ql 21 1 20),qg 19 true (qk .geq 22 21 0),qP 23 19 22,qm 24 23,
 qg 24 true (qf 25 2 2),qg 24 true (ql 26 1 25),qg 24 true (qm 27 1),qg 24 true (qo .lss 28 26 27),qP 29 24 28,qm 4 29]
@[go_sem] def c_r05_right (F : Fn) : LC := (.seq (.reg c_r05_right_r0 [1,2]) (.seq (.reg (c_r05_right_r1 F) [4]) .ret))
def h_r05_right : Hints := hOf [] (c_r05_right fun _ => 0)
@[go_sem] def c_r05_Numbers_r0 : LL := [qn 4 1]
@[go_sem] def c_r05_Numbers_r1 : LL := [qn 5 1]
@[go_sem] def c_r05_Numbers_r2 : LL := [qi 6 0]
@[go_sem] def c_r05_Numbers_r3 : LL := [qm 7 6,qm 8 1,qo .lss 9 7 8]
@[go_sem] def c_r05_Numbers_r4 : LL := [qm 12 5,qm 13 0,qm 14 6,qo .add 15 13 14,⟨some 16,.buildSl 1 8 (.int .i64 (0)) 1 [(0,.t 15)],none⟩,qp 17 1 8 12 16,qm 5 17]
@[go_sem] def c_r05_Numbers_r5 : LL := [qm 10 6,qk .add 11 10 1,qm 6 11]
def c_r05_Numbers_b6 : LC := (.seq (.seq (.reg c_r05_Numbers_r3 [0,1,5,6,9]) (.cond (.t 9) .skip (.exit 0))) (.seq (.block 1 (.reg c_r05_Numbers_r4 [0,1,5,6])) (.reg c_r05_Numbers_r5 [0,1,5,6])))
@[go_sem] def c_r05_Numbers_r7 : LL := [qm 18 5,qm 4 18]
@[go_sem] def c_r05_Numbers (F : Fn) : LC := (.seq (.reg c_r05_Numbers_r0 [0,1]) (.seq (.reg c_r05_Numbers_r1 [0,1,5]) (.seq (.seq (.reg c_r05_Numbers_r2 [0,1,5,6]) (.block 0 (.loop [0,1,5,6] c_r05_Numbers_b6))) (.seq (.reg c_r05_Numbers_r7 [4]) .ret))))
def h_r05_Numbers : Hints := hOf [] (c_r05_Numbers fun _ => 0)
section
variable (P : Program) (F : String → Nat)
def K_r05_Numbers : Prop := ∀ (f : Int) (n : Nat), 0 ≤ f → f ≤ 1000000 → n ≤ 1000000 → FC P (F "r05.Numbers") [.int .i64 f, .int .i64 n] (.arr 1 (ints (nums f n))) []
def K_r05_kind : Prop := ∀ n : Int, FC P (F "r05.kind") [.int .i64 n] (.bool (okN n)) []
def K_r05_right : Prop := ∀ (x : E) (n : Int), FC P (F "r05.right") [edD x, .int .i64 n] (.bool (fitsE n x)) []
def K_r05_Valid : Prop := ∀ g : G, FC P (F "r05.Valid") [gD g] (.int .i64 (validG g)) []
end
section
variable {P : Program} {F : String → Nat} {α : Type}
theorem w_r05_Numbers (f : Int) (n : Nat) (h0 : 0 ≤ f) (h1 : f ≤ 1000000) (h2 : n ≤ 1000000) : W P (c_r05_Numbers F) (Done [.t 4] [] (.arr 1 (ints (nums f n))) []) (init [.int .i64 f, .int .i64 n]) := by
 refine W_of ?_
 simp (disch := omega) only [go_sem, ↓reduceIte]
 refine W_loop (fun i : Nat => ⟨[(0, .int .i64 f), (1, .int .i64 n), (5, .sl 0 0 i), (6, .int .i64 i)], [(0, .arr 1 (ints (nums f i)))], 1⟩) (fun i => i ≤ n) (fun i => n - i) 0 ?_ ?_ ?_
 ·simp (disch := omega) only [go_sem, ↓reduceIte, nums_zero, ints_nil]
  rfl
 ·omega
 ·intro i hi
  have e1 := nums_len f i
  simp (disch := omega) only [go_sem, ↓reduceIte, c_r05_Numbers_b6]
  refine bran_dec (fun a => ?_) (fun a => ?_)
  ·simp (disch := omega) only [go_sem, ↓reduceIte, e1]
   exact ⟨i + 1, by simp [nums_succ], by omega, by omega⟩
  ·obtain rfl : i = n := by omega
   simp (disch := omega) only [go_sem, ↓reduceIte, e1]
theorem w_r05_kind (n : Int) : W P (c_r05_kind F) (Done [.t 2] [] (.bool (okN n)) []) (init [.int .i64 n]) := by
 refine W_of ?_
 simp (disch := omega) only [go_sem, ↓reduceIte]
 refine bran_dec (fun a => ?_) (fun a => ?_)
 ·simp (disch := omega) only [go_sem, ↓reduceIte, a]
  simp [okN, a]
 ·simp (disch := omega) only [go_sem, ↓reduceIte, a]
  simp [okN, a]
theorem w_r05_right (h : K_r05_kind P F) (x : E) (n : Int) : W P (c_r05_right F) (Done [.t 4] [] (.bool (fitsE n x)) []) (init [edD x, .int .i64 n]) := by
 refine W_of ?_
 simp (disch := omega) only [go_sem, ↓reduceIte, edD]
 refine call_by (h _) ?_
 simp (disch := omega) only [go_sem, ↓reduceIte]
 refine bran_by (fun a => ?_) (fun a => ?_)
 ·have a' : 0 ≤ x.t ∧ x.t ≤ 99 := by simpa [okN] using a
  simp (disch := omega) only [go_sem, ↓reduceIte, a]
  refine bran_dec (fun b => ?_) (fun b => ?_)
  ·simp (disch := omega) only [go_sem, ↓reduceIte, b]
   refine bran_dec (fun c => ?_) (fun c => ?_)
   ·simp (disch := omega) only [go_sem, ↓reduceIte, c]
    refine bran_dec (fun d => ?_) (fun d => ?_)
    ·simp (disch := omega) only [go_sem, ↓reduceIte, d]
     have e1 : decide (x.f ≤ n - 1) = true := by rw [decide_eq_true_eq]; omega
     have e2 : decide (x.o < n) = decide (x.o ≤ n - 1) := by rw [Bool.eq_iff_iff, decide_eq_true_eq, decide_eq_true_eq]; omega
     simp only [fitsE, Bool.decide_and, a', b, d, e1, e2, decide_true, Bool.true_and, Bool.and_true]
    ·simp (disch := omega) only [go_sem, ↓reduceIte, d]
     simp [fitsE, a', d]
   ·simp (disch := omega) only [go_sem, ↓reduceIte, c]
    simp [fitsE, a']
    omega
  ·simp (disch := omega) only [go_sem, ↓reduceIte, b]
   simp [fitsE, a']
   omega
 ·have a' : ¬ (0 ≤ x.t ∧ x.t ≤ 99) := by simpa [okN] using a
  simp (disch := omega) only [go_sem, ↓reduceIte, a]
  simp [fitsE, a']
end
@[go_sem] def c_r05_Valid_r0 : LL := [qB 1 0,qi 2 0]
@[go_sem] def c_r05_Valid_r1 : LL := [qf 5 0 1,ql 6 1 5,qz 7 6,qk .gtr 8 7 40,qm 9 8,qg 9 false (qf 10 1 1),qg 9 false (ql 11 1 10),qg 9 false (qz 12 11),qg 9 false (qk .gtr 13 12 80),qQ 14 9 13]
@[go_sem] def c_r05_Valid_r2 : LL := [qi 2 3]
@[go_sem] def c_r05_Valid_r3 : LL := [qi 3 0]
@[go_sem] def c_r05_Valid_r4 : LL := [qm 15 3,qf 16 0 1,ql 17 1 16,qz 18 17,qo .lss 19 15 18]
@[go_sem] def c_r05_Valid_r5 (F : Fn) : LL := [qf 22 0 1,ql 23 1 22,qm 24 3,qd 25 1 23 24,ql 26 1 25,qc 27 (F "r05.kind") [.t 26],qv 28 27]
@[go_sem] def c_r05_Valid_r6 : LL := [qi 2 6]
@[go_sem] def c_r05_Valid_r7 : LL := [qm 20 3,qk .add 21 20 1,qm 3 21]
def c_r05_Valid_b8 (F : Fn) : LC := (.seq (.seq (.reg c_r05_Valid_r4 [1,3,19]) (.cond (.t 19) .skip (.exit 0))) (.seq (.block 1 (.seq (.reg (c_r05_Valid_r5 F) [1,3,28]) (.cond (.t 28) (.seq (.reg c_r05_Valid_r6 [2]) .ret) .skip))) (.reg c_r05_Valid_r7 [1,3])))
@[go_sem] def c_r05_Valid_r9 : LL := [qi 4 0]
@[go_sem] def c_r05_Valid_r10 : LL := [qm 29 4,qf 30 1 1,ql 31 1 30,qz 32 31,qo .lss 33 29 32]
@[go_sem] def c_r05_Valid_r11 (F : Fn) : LL := [qf 36 1 1,ql 37 1 36,qm 38 4,qd 39 3 37 38,qL 40 3 39,qf 41 0 1,ql 42 1 41,qz 43 42,qc 44 (F "r05.right") [.t 40,.t 43],qv 45 44]
@[go_sem] def c_r05_Valid_r12 : LL := [qi 2 6]
@[go_sem] def c_r05_Valid_r13 : LL := [qm 34 4,qk .add 35 34 1,qm 4 35]
def c_r05_Valid_b14 (F : Fn) : LC := (.seq (.seq (.reg c_r05_Valid_r10 [1,4,33]) (.cond (.t 33) .skip (.exit 2))) (.seq (.block 3 (.seq (.dreg [] (c_r05_Valid_r11 F) [1,4,45]) (.cond (.t 45) (.seq (.reg c_r05_Valid_r12 [2]) .ret) .skip))) (.reg c_r05_Valid_r13 [1,4])))
@[go_sem] def c_r05_Valid_r15 : LL := [qi 2 0]
@[go_sem] def c_r05_Valid (F : Fn) : LC := (.seq (.reg c_r05_Valid_r0 [1]) (.seq (.seq (.reg c_r05_Valid_r1 [1,14]) (.cond (.t 14) (.seq (.reg c_r05_Valid_r2 [2]) .ret) .skip)) (.seq (.seq (.reg c_r05_Valid_r3 [1,3]) (.block 0 (.loop [1,3] (c_r05_Valid_b8 F)))) (.seq (.seq (.reg c_r05_Valid_r9 [1,4]) (.block 2 (.loop [1,4] (c_r05_Valid_b14 F)))) (.seq (.reg c_r05_Valid_r15 [2]) .ret)))))
def h_r05_Valid : Hints := hn [] [(0,[1]),(1,[1,14]),(2,[2]),(3,[1,3]),(4,[1,3,19]),(5,[1,3]),(6,[1,3,28]),(7,[2]),(8,[1,4]),(9,[1,4,33]),(10,[1,4]),(11,[1,4,45]),(12,[2]),(13,[2])] [(4,[1,3]),(9,[1,4])]
section
variable {P : Program} {F : String → Nat} {α : Type}
theorem w_r05_Valid (hk : K_r05_kind P F) (hr : K_r05_right P F) (g : G) : W P (c_r05_Valid F) (Done [.t 2] [] (.int .i64 (validG g)) []) (init [gD g]) := by
 refine W_of ?_
 obtain ⟨ns, es⟩ := g
 simp (disch := omega) only [go_sem, ↓reduceIte, gD]
 refine bran_dec (fun a1 => ?_) (fun a1 => ?_)
 ·simp (disch := omega) only [go_sem, ↓reduceIte, a1]
  simp [validG]
  omega
 ·simp (disch := omega) only [go_sem, ↓reduceIte, a1]
  refine bran_dec (fun a2 => ?_) (fun a2 => ?_)
  ·simp (disch := omega) only [go_sem, ↓reduceIte]
   simp [validG]
   omega
  ·have hv : validG ⟨ns, es⟩ = if ns.all okN && es.all (fitsE ns.length) then 0 else 6 := by
    simp only [validG]; rw [if_neg (by omega)]
   rw [hv]
   simp (disch := omega) only [go_sem, ↓reduceIte]
   refine W_loop (fun i : Nat => ⟨[(1, .pt 0 0), (3, .int .i64 i)], [(0, .box [.lst 1 (ints ns), .lst 3 (eds es)])], 1⟩) (fun i => i ≤ ns.length ∧ ns.all okN = (ns.drop i).all okN) (fun i => ns.length - i) 0 ?_ ?_ ?_
   ·simp (disch := omega) only [go_sem, ↓reduceIte]
    rfl
   ·simp
   ·intro i hi
    simp (disch := omega) only [go_sem, ↓reduceIte, c_r05_Valid_b8]
    refine bran_dec (fun f => ?_) (fun f => ?_)
    ·have hd := drop_gt (l := ns) (i := i) (by omega)
     simp (disch := omega) only [go_sem, ↓reduceIte]
     refine call_by (hk _) ?_
     simp (disch := omega) only [go_sem, ↓reduceIte]
     refine bran_nby (fun d => ?_) (fun d => ?_)
     ·simp (disch := omega) only [go_sem, ↓reduceIte]
      rw [hi.2, hd]
      simp [d]
     ·simp (disch := omega) only [go_sem, ↓reduceIte]
      exact ⟨i + 1, by simp, ⟨by omega, by rw [hi.2, hd]; simp [d]⟩, by omega⟩
    ·have hn : ns.all okN = true := by rw [hi.2, List.drop_of_length_le (by omega)]; rfl
     simp (disch := omega) only [go_sem, ↓reduceIte]
     refine W_loop (fun i : Nat => ⟨[(1, .pt 0 0), (4, .int .i64 i)], [(0, .box [.lst 1 (ints ns), .lst 3 (eds es)])], 1⟩) (fun i => i ≤ es.length ∧ es.all (fitsE ns.length) = (es.drop i).all (fitsE ns.length)) (fun i => es.length - i) 0 ?_ ?_ ?_
     ·simp (disch := omega) only [go_sem, ↓reduceIte]
      rfl
     ·simp
     ·intro i hi
      simp (disch := omega) only [go_sem, ↓reduceIte, c_r05_Valid_b14]
      refine bran_dec (fun f => ?_) (fun f => ?_)
      ·have hd := drop_gt (l := es) (i := i) (by omega)
       simp (disch := omega) only [go_sem, ↓reduceIte]
       refine call_by (hr _ _) ?_
       simp (disch := omega) only [go_sem, ↓reduceIte]
       refine bran_nby (fun d => ?_) (fun d => ?_)
       ·simp (disch := omega) only [go_sem, ↓reduceIte]
        rw [hi.2, hd]
        simp [d]
       ·simp (disch := omega) only [go_sem, ↓reduceIte]
        exact ⟨i + 1, by simp, ⟨by omega, by rw [hi.2, hd]; simp [d]⟩, by omega⟩
      ·simp (disch := omega) only [go_sem, ↓reduceIte]
       rw [hi.2, List.drop_of_length_le (by omega), hn]
       rfl
end
@[go_sem] def c_r05_Made_r0 : LL := [qB 1 0,qa 2 [.nl 1,.nl 3]]
@[go_sem] def c_r05_Made_r1 : LL := [qa 3 [.nl 1,.nl 3]]
@[go_sem] def c_r05_Made_r2 : LL := [qi 4 0]
@[go_sem] def c_r05_Made_r3 : LL := [qm 7 4,qf 8 0 1,ql 9 1 8,qz 10 9,qo .lss 11 7 10,qm 12 11,qg 12 true (qm 13 4),qg 12 true (qk .lss 14 13 8),qP 15 12 14]
@[go_sem] def c_r05_Made_r4 : LL := [qf 18 0 3,ql 19 1 18,qf 20 0 1,ql 21 1 20,qm 22 4,qd 23 1 21 22,ql 24 1 23,⟨some 25,.bin .rem (.t 24) (.k (.int .u8 (3))),none⟩,⟨some 26,.conv .i64 (.t 25),none⟩,
 ⟨some 27,.buildSl 1 8 (.int .i64 (0)) 1 [(0,.t 26)],none⟩,qp 28 1 8 19 27,qf 29 0 3,qs 1 29 28]
@[go_sem] def c_r05_Made_r5 : LL := [qm 16 4,qk .add 17 16 1,qm 4 17]
def c_r05_Made_b6 : LC := (.seq (.seq (.reg c_r05_Made_r3 [1,2,3,4,15]) (.cond (.t 15) .skip (.exit 0))) (.seq (.block 1 (.dreg [(1,none,[],true),(9,none,[1],false)] c_r05_Made_r4 [1,2,3,4])) (.reg c_r05_Made_r5 [1,2,3,4])))
@[go_sem] def c_r05_Made_r7 : LL := [qf 30 0 3,ql 31 1 30,qz 32 31,qm 5 32]
@[go_sem] def c_r05_Made_r8 : LL := [qi 6 0]
@[go_sem] def c_r05_Made_r9 : LL := [qm 33 6,qf 34 1 1,ql 35 1 34,qz 36 35,qo .lss 37 33 36,qm 38 37,qg 38 true (qm 39 6),qg 38 true (qk .lss 40 39 10),qP 41 38 40,qm 42 41,qg 42 true (qm 43 5),
 qg 42 true (qk .gtr 44 43 0),qP 45 42 44]
@[go_sem] def c_r05_Made_r10 : LL := [qf 48 1 3,ql 49 1 48,qf 50 1 1,ql 51 1 50,qm 52 6,qd 53 3 51 52,⟨some 54,.iaa 3 1 (.t 53) (.k (.int .i64 (0))),none⟩,ql 55 1 54,
 ⟨some 56,.bin .rem (.t 55) (.k (.int .u8 (2))),none⟩,⟨some 57,.conv .i64 (.t 56),none⟩,qf 58 1 1,ql 59 1 58,qm 60 6,qd 61 3 59 60,
 ⟨some 62,.iaa 3 1 (.t 61) (.k (.int .i64 (1))),none⟩,ql 63 1 62,⟨some 64,.conv .i64 (.t 63),none⟩,qm 65 5,qo .rem 66 64 65,qf 67 1 1,ql 68 1 67,qm 69 6,qd 70 3 68 69,
 ⟨some 71,.iaa 3 1 (.t 70) (.k (.int .i64 (2))),none⟩,ql 72 1 71,⟨some 73,.conv .i64 (.t 72),none⟩,qm 74 5,qo .rem 75 73 74,
 qu 76 [.int .i64 (0),.int .i64 (0),.int .i64 (0)] [(0,1,.t 57),(1,1,.t 66),(2,1,.t 75)],
 ⟨some 77,.buildSl 3 24 (.agg [.int .i64 (0),.int .i64 (0),.int .i64 (0)]) 1 [(0,.t 76)],none⟩,qp 78 3 24 49 77,qf 79 1 3,qs 1 79 78]
@[go_sem] def c_r05_Made_r11 : LL := [qm 46 6,qk .add 47 46 1,qm 6 47]
def c_r05_Made_b12 : LC := (.seq (.seq (.reg c_r05_Made_r9 [1,2,3,5,6,45]) (.cond (.t 45) .skip (.exit 2))) (.seq (.block 3 (.dreg [(1,none,[],true),(29,none,[1],false)] c_r05_Made_r10 [1,2,3,5,6])) (.reg c_r05_Made_r11 [1,2,3,5,6])))
@[go_sem] def c_r05_Made_r13 : LL := [qL 80 2 3,qs 2 2 80]
@[go_sem] def c_r05_Made (F : Fn) : LC := (.seq (.reg c_r05_Made_r0 [1,2]) (.seq (.reg c_r05_Made_r1 [1,2,3]) (.seq (.seq (.reg c_r05_Made_r2 [1,2,3,4]) (.block 0 (.loop [1,2,3,4] c_r05_Made_b6))) (.seq (.reg c_r05_Made_r7 [1,2,3,5]) (.seq (.seq (.reg c_r05_Made_r8 [1,2,3,5,6]) (.block 2 (.loop [1,2,3,5,6] c_r05_Made_b12))) (.seq (.reg c_r05_Made_r13 [2]) .ret))))))
def h_r05_Made : Hints := hOf [] (c_r05_Made fun _ => 0)
def drD (x : Dr) : D := .agg [.lst 1 (u8s x.n), .lst 3 (trs x.e)]
def madeN (x : Dr) : List Int := (x.n.take 8).map fun v => v.tmod 3
def madeE (x : Dr) (m : Int) (t : E) : E := ⟨t.t.tmod 2, t.f.tmod m, t.o.tmod m⟩
def madeG (x : Dr) : G := ⟨madeN x, if (madeN x).length = 0 then [] else (x.e.take 10).map (madeE x (madeN x).length)⟩
section
variable (P : Program) (F : String → Nat)
def K_r05_Made : Prop := ∀ x : Dr, x.ok → x.n.length ≤ maxL → x.e.length ≤ maxL → FC P (F "r05.Made") [drD x] (gA (madeG x)) []
end
theorem hasShs_slc {z b : Nat} {e : Sh} {l : List Sh} {ds : List D} (h : HasShs (.slc z b e :: l) ds) : ∃ a b', ds = a :: b' ∧ HasEl (.slc z b e) a ∧ HasShs l b' := by simpa only [HasShs] using h
theorem hasShs_nil {ds : List D} (h : HasShs [] ds) : ds = [] := by simpa only [HasShs] using h
def shU8 : Sh := .int .u8
def shU8s : Sh := .slc 1 1 shU8
def shTr : Sh := .cat [shU8, shU8, shU8]
def shDr : Sh := .cat [shU8s, .slc 3 3 shTr]
theorem rd_u8 {x : D} (h : HasEl shU8 x) : ∃ n : Int, x = .int .u8 n ∧ Byte n := by
 simp only [shU8, HasEl] at h
 obtain ⟨n, rfl, h1, h2⟩ := h
 exact ⟨n, rfl, h1, h2⟩
theorem rd_u8l : ∀ {xs : List D}, (∀ y ∈ xs, HasEl shU8 y) → ∃ l : List Int, xs = u8s l ∧ ∀ v ∈ l, Byte v
 | [], _ => ⟨[], rfl, by simp⟩
 | x :: xs, h => by
  obtain ⟨l, rfl, hl⟩ := rd_u8l (xs := xs) fun y hy => h y (by simp [hy])
  obtain ⟨n, rfl, hn⟩ := rd_u8 (h x (by simp))
  exact ⟨n :: l, rfl, by simpa [hn] using hl⟩
theorem rd_u8s {x : D} (h : HasEl shU8s x) : ∃ l : List Int, x = .lst 1 (u8s l) ∧ (∀ v ∈ l, Byte v) ∧ l.length ≤ maxL := by
 simp only [shU8s, HasEl] at h
 obtain ⟨xs, rfl, h1, h2⟩ := h
 obtain ⟨l, rfl, hl⟩ := rd_u8l h2
 refine ⟨l, rfl, hl, ?_⟩
 rw [u8s_length] at h1
 unfold reachBytes at h1
 unfold maxL
 omega
theorem rd_tr {x : D} (h : HasEl shTr x) : ∃ e : E, x = .agg [.int .u8 e.t, .int .u8 e.f, .int .u8 e.o] ∧ Byte e.t ∧ Byte e.f ∧ Byte e.o := by
 simp only [shTr, HasEl] at h
 obtain ⟨ds, rfl, h⟩ := h
 simp only [shU8, HasShs, HasEl] at h
 obtain ⟨_, _, rfl, ⟨a, rfl, a1, a2⟩, _, _, rfl, ⟨b, rfl, b1, b2⟩, _, _, rfl, ⟨c, rfl, c1, c2⟩, rfl⟩ := h
 exact ⟨⟨a, b, c⟩, rfl, ⟨a1, a2⟩, ⟨b1, b2⟩, ⟨c1, c2⟩⟩
theorem rd_trl : ∀ {xs : List D}, (∀ y ∈ xs, HasEl shTr y) → ∃ l : List E, xs = trs l ∧ ∀ v ∈ l, Byte v.t ∧ Byte v.f ∧ Byte v.o
 | [], _ => ⟨[], rfl, by simp⟩
 | x :: xs, h => by
  obtain ⟨l, rfl, hl⟩ := rd_trl (xs := xs) fun y hy => h y (by simp [hy])
  obtain ⟨n, rfl, hn⟩ := rd_tr (h x (by simp))
  refine ⟨n :: l, rfl, fun v hv => ?_⟩
  simp only [List.mem_cons] at hv
  rcases hv with rfl | hv
  ·exact hn
  ·exact hl v hv
theorem rd_draft {x : D} (h : HasEl shDr x) : ∃ g : Dr, x = drD g ∧ g.ok ∧ g.n.length ≤ maxL ∧ g.e.length ≤ maxL := by
 simp only [shDr, HasEl] at h
 obtain ⟨ds, rfl, h⟩ := h
 have h' : ∃ a b, ds = a :: b ∧ HasEl shU8s a ∧ HasShs [.slc 3 3 shTr] b := by simpa only [shU8s, HasShs] using h
 obtain ⟨a, _, rfl, h1, h'⟩ := h'
 obtain ⟨l, rfl, hl, hl2⟩ := rd_u8s h1
 simp only [HasShs, HasEl] at h'
 obtain ⟨_, _, rfl, ⟨xs, rfl, hb, h3⟩, rfl⟩ := h'
 obtain ⟨es, rfl, he⟩ := rd_trl h3
 refine ⟨⟨l, es⟩, rfl, ⟨hl, he⟩, hl2, ?_⟩
 rw [trs_length] at hb
 unfold reachBytes at hb
 simp only [maxL]
 omega
section
variable {P : Program} {F : String → Nat} {α : Type}
theorem tmod_bd {x m : Int} (hx : 0 ≤ x) (hm : 0 < m) : 0 ≤ x.tmod m ∧ x.tmod m < m := ⟨Int.tmod_nonneg _ hx, Int.tmod_lt_of_pos _ hm⟩
theorem w_r05_Made (x : Dr) (hx : x.ok) (h1 : x.n.length ≤ maxL) (h2 : x.e.length ≤ maxL) : W P (c_r05_Made F) (Done [.c 2 true 2] [] (gA (madeG x)) []) (init [drD x]) := by
 refine W_of ?_
 obtain ⟨xn, xe⟩ := x
 obtain ⟨o1, o2⟩ := hx
 simp only at h1 h2 o1 o2
 unfold maxL at h1 h2
 simp (disch := omega) only [go_sem, ↓reduceIte, drD]
 have ml : ∀ i, ((xn.take i).map fun v => v.tmod 3).length = min i xn.length := fun i => by simp
 refine W_loop (fun i : Nat => ⟨[(1, D.pt 0 0), (2, D.pt 3 0), (3, D.pt 6 0), (4, D.int IntKind.i64 i)],
   [(0, Ent.box [D.lst 1 (u8s xn), D.lst 3 (trs xe)]), (1, Ent.arr 1 []), (2, Ent.arr 3 []), (3, Ent.box [D.sl 1 0 0, D.sl 2 0 0]), (4, Ent.arr 1 (ints ((xn.take i).map fun v => v.tmod 3))), (5, Ent.arr 3 []),
    (6, Ent.box [D.sl 4 0 i, D.sl 5 0 0])], 7⟩) (fun i => i ≤ xn.length ∧ i ≤ 8) (fun i => 8 - i) 0 ?_ ?_ ?_
 ·simp (disch := omega) only [go_sem, ↓reduceIte]
  rfl
 ·simp
 ·rintro i ⟨hi, hi8⟩
  have hml : ((xn.take i).map fun v => v.tmod 3).length = i := by rw [ml]; omega
  simp (disch := omega) only [go_sem, ↓reduceIte, c_r05_Made_b6]
  refine bran_dec ?ga ?gb
  case' ga =>
   intro c
   simp (disch := omega) only [go_sem, ↓reduceIte, c]
   refine bran_dec ?gc ?gd
   case' gc =>
    intro c2
    have ho := o1 _ (gt_mem (l := xn) (j := i) (by omega) (by omega))
    have hb := tmod_bd (m := 3) ho.1 (by omega)
    have hz : ¬ ((3 : Int) = 0) := by omega
    simp (disch := omega) only [go_sem, ↓reduceIte, hml, hz]
    exact ⟨i + 1, by rw [take_gt (by omega)]; simp, by omega, by omega⟩
   intro c2
   have h8 : i = 8 ∨ i = xn.length := by omega
   simp (disch := omega) only [go_sem, ↓reduceIte]
  case' gb =>
   intro c
   have h8 : i = 8 ∨ i = xn.length := by omega
   simp (disch := omega) only [go_sem, ↓reduceIte, c]
  all_goals
   have hmn : madeN ⟨xn, xe⟩ = (xn.take i).map fun v => v.tmod 3 := by
    simp only [madeN]
    rw [show xn.take 8 = xn.take i from List.take_eq_take_iff.2 (by omega)]
   have fin : ∀ j : Nat, (0 < i → j = 10 ∨ j = xe.length) → (i = 0 → j = 0) → j ≤ 10 → madeG ⟨xn, xe⟩ = ⟨(xn.take i).map fun v => v.tmod 3, (xe.take j).map (madeE ⟨xn, xe⟩ i)⟩ := fun j h1 h2 h3 => by
    simp only [madeG, hmn, hml]
    by_cases h0 : i = 0
    ·rw [if_pos h0, h2 h0]; simp
    ·rw [if_neg h0, show xe.take 10 = xe.take j from List.take_eq_take_iff.2 (by have := h1 (by omega); omega)]
   generalize hns : ((xn.take i).map fun v => v.tmod 3) = ns at hml fin
   clear hmn hns
   refine W_loop (fun j : Nat => ⟨[(1, D.pt 0 0), (2, D.pt 3 0), (3, D.pt 6 0), (5, D.int IntKind.i64 i), (6, D.int IntKind.i64 j)],
    [(0, Ent.box [D.lst 1 (u8s xn), D.lst 3 (trs xe)]), (1, Ent.arr 1 []), (2, Ent.arr 3 []), (3, Ent.box [D.sl 1 0 0, D.sl 2 0 0]), (4, Ent.arr 1 (ints ns)), (5, Ent.arr 3 (eds ((xe.take j).map (madeE ⟨xn, xe⟩ i)))),
     (6, Ent.box [D.sl 4 0 i, D.sl 5 0 j])], 7⟩) (fun j => j ≤ xe.length ∧ j ≤ 10 ∧ (i = 0 → j = 0)) (fun j => 10 - j) 0 ?_ ?_ ?_
   ·simp (disch := omega) only [go_sem, ↓reduceIte]
    rfl
   ·simp
   ·rintro j ⟨hj, hj10, hj0⟩
    have hel : ((xe.take j).map (madeE ⟨xn, xe⟩ i)).length = j := by simp; omega
    simp (disch := omega) only [go_sem, ↓reduceIte, c_r05_Made_b12]
    refine bran_dec (fun d => ?_) (fun d => ?_)
    ·simp (disch := omega) only [go_sem, ↓reduceIte, d]
     refine bran_dec (fun d2 => ?_) (fun d2 => ?_)
     ·simp (disch := omega) only [go_sem, ↓reduceIte, d2]
      refine bran_dec (fun d3 => ?_) (fun d3 => ?_)
      ·obtain ⟨ot, of, oo⟩ := o2 _ (gt_mem (l := xe) (j := j) (by omega) (by omega))
       have b1 := tmod_bd (x := (gt xe j).t) (m := 2) ot.1 (by omega)
       have b2 := tmod_bd (x := (gt xe j).f) (m := i) of.1 (by omega)
       have b3 := tmod_bd (x := (gt xe j).o) (m := i) oo.1 (by omega)
       have w1 : IntKind.i64.wrap (gt xe j).f = (gt xe j).f := wrap_i64 (by have := of.1; omega) (by have := of.2; omega)
       have w2 : IntKind.i64.wrap (gt xe j).o = (gt xe j).o := wrap_i64 (by have := oo.1; omega) (by have := oo.2; omega)
       have z1 : ¬ ((2 : Int) = 0) := by omega
       have z2 : ¬ ((i : Int) = 0) := by omega
       simp (disch := omega) only [go_sem, ↓reduceIte, hel, w1, w2, z1, z2, Int.reduceToNat]
       exact ⟨j + 1, by rw [take_gt (by omega)]; simp [madeE], by omega, by omega⟩
      ·simp (disch := omega) only [go_sem, ↓reduceIte, d3, hel, hml]
       rw [fin j (by omega) hj0 hj10]
       simp [gA]
     ·simp (disch := omega) only [go_sem, ↓reduceIte, d2, hel, hml]
      rw [fin j (by omega) hj0 hj10]
      simp [gA]
    ·simp (disch := omega) only [go_sem, ↓reduceIte, d, hel, hml]
     rw [fin j (by omega) hj0 hj10]
     simp [gA]
theorem madeN_len (x : Dr) : (madeN x).length ≤ 8 := by simp [madeN]; omega
theorem madeE_len (x : Dr) : (madeG x).e.length ≤ 10 := by
 simp only [madeG]
 split
 ·simp
 ·simp; omega
theorem madeG_valid {x : Dr} (hx : x.ok) : validG (madeG x) = 0 := by
 have h1 := madeN_len x
 have h2 := madeE_len x
 unfold validG
 rw [if_neg (show ¬ (40 < (madeG x).n.length ∨ 80 < (madeG x).e.length) by simp only [madeG] at h2 ⊢; omega), if_pos]
 simp only [Bool.and_eq_true, List.all_eq_true]
 refine ⟨fun v hv => ?_, fun v hv => ?_⟩
 ·simp only [madeG, madeN, List.mem_map] at hv
  obtain ⟨u, hu, rfl⟩ := hv
  have := hx.1 u (List.mem_of_mem_take hu)
  have := tmod_bd (x := u) (m := 3) this.1 (by omega)
  simp only [okN, decide_eq_true_eq]
  omega
 ·simp only [madeG] at hv
  split at hv
  ·simp at hv
  ·rename_i h0
   simp only [List.mem_map] at hv
   obtain ⟨u, hu, rfl⟩ := hv
   obtain ⟨o1, o2, o3⟩ := hx.2 u (List.mem_of_mem_take hu)
   have b1 := tmod_bd (x := u.t) (m := 2) o1.1 (by omega)
   have b2 := tmod_bd (x := u.f) (m := (madeN x).length) o2.1 (by omega)
   have b3 := tmod_bd (x := u.o) (m := (madeN x).length) o3.1 (by omega)
   exact fits_mk (by simp only [madeE]; omega) b2 b3
end
@[go_sem] def c_r06_Valid_r0 : LL := [qB 3 0,qB 4 1,qB 5 2,qi 6 0]
@[go_sem] def c_r06_Valid_r1 (F : Fn) : LL := [qL 13 2 3,qc 14 (F "r05.Valid") [.t 13],qm 7 14]
@[go_sem] def c_r06_Valid_r2 : LL := [qm 15 7,qk .neq 16 15 0]
@[go_sem] def c_r06_Valid_r3 : LL := [qm 17 7,qm 6 17]
@[go_sem] def c_r06_Valid_r4 (F : Fn) : LL := [qL 18 2 4,qc 19 (F "r05.Valid") [.t 18],qm 8 19]
@[go_sem] def c_r06_Valid_r5 : LL := [qm 20 8,qk .neq 21 20 0]
@[go_sem] def c_r06_Valid_r6 : LL := [qm 22 8,qm 6 22]
@[go_sem] def c_r06_Valid_r7 : LL := [qf 23 0 5,ql 24 1 23,qz 25 24,qf 26 0 3,ql 27 1 26,qz 28 27,qo .neq 29 25 28,qm 30 29,qg 30 false (qf 31 1 5),qg 30 false (ql 32 1 31),qg 30 false (qz 33 32),
 qg 30 false (qf 34 1 3),qg 30 false (ql 35 1 34),qg 30 false (qz 36 35),qg 30 false (qo .neq 37 33 36),qQ 38 30 37]
@[go_sem] def c_r06_Valid_r8 : LL := [qi 6 20]
@[go_sem] def c_r06_Valid_r9 : LL := [qi 9 0]
@[go_sem] def c_r06_Valid_r10 : LL := [qm 39 9,qf 40 0 3,ql 41 1 40,qz 42 41,qo .lss 43 39 42]
@[go_sem] def c_r06_Valid_r11 : LL := [qf 46 0 5,ql 47 1 46,qm 48 9,qd 49 1 47 48,ql 50 1 49,qk .lss 51 50 0,qm 52 51,qg 52 false (qf 53 0 5),qg 52 false (ql 54 1 53),qg 52 false (qm 55 9),qg 52 false (qd 56 1 54 55),
 qg 52 false (ql 57 1 56),qg 52 false (qf 58 0 4),qg 52 false (ql 59 1 58),qg 52 false (qz 60 59),qg 52 false (qo .geq 61 57 60),qQ 62 52 61]
@[go_sem] def c_r06_Valid_r12 : LL := [qi 6 6]
@[go_sem] def c_r06_Valid_r13 : LL := [qf 63 0 4,ql 64 1 63,qf 65 0 5,ql 66 1 65,qm 67 9,qd 68 1 66 67,ql 69 1 68,qd 70 1 64 69,ql 71 1 70,qf 72 0 3,ql 73 1 72,qm 74 9,qd 75 1 73 74,ql 76 1 75,qo .neq 77 71 76]
@[go_sem] def c_r06_Valid_r14 : LL := [qi 6 13]
@[go_sem] def c_r06_Valid_r15 : LL := [qm 44 9,qk .add 45 44 1,qm 9 45]
def c_r06_Valid_b16 : LC := (.seq (.seq (.reg c_r06_Valid_r10 [3,4,5,9,43]) (.cond (.t 43) .skip (.exit 0))) (.seq (.block 1 (.seq (.seq (.dreg [] c_r06_Valid_r11 [3,4,5,9,62]) (.cond (.t 62) (.seq (.reg c_r06_Valid_r12 [6]) .ret) .skip)) (.seq (.dreg [] c_r06_Valid_r13 [3,4,5,9,77]) (.cond (.t 77) (.seq (.reg c_r06_Valid_r14 [6]) .ret) .skip)))) (.reg c_r06_Valid_r15 [3,4,5,9])))
@[go_sem] def c_r06_Valid_r17 : LL := [qi 10 0]
@[go_sem] def c_r06_Valid_r18 : LL := [qm 78 10,qf 79 1 3,ql 80 1 79,qz 81 80,qo .lss 82 78 81]
@[go_sem] def c_r06_Valid_r19 : LL := [qf 85 1 5,ql 86 1 85,qm 87 10,qd 88 1 86 87,ql 89 1 88,qk .lss 90 89 0,qm 91 90,qg 91 false (qf 92 1 5),qg 91 false (ql 93 1 92),qg 91 false (qm 94 10),qg 91 false (qd 95 1 93 94),
 qg 91 false (ql 96 1 95),qg 91 false (qf 97 1 4),qg 91 false (ql 98 1 97),qg 91 false (qz 99 98),qg 91 false (qo .geq 100 96 99),qQ 101 91 100]
@[go_sem] def c_r06_Valid_r20 : LL := [qi 6 6]
@[go_sem] def c_r06_Valid_r21 : LL := [qf 102 1 3,ql 103 1 102,qm 104 10,qd 105 3 103 104,qL 106 3 105,qf 107 1 4,ql 108 1 107,qf 109 1 5,ql 110 1 109,qm 111 10,qd 112 1 110 111,ql 113 1 112,qd 114 3 108 113,
 qL 115 3 114,qa 11 [.int .i64 (0),.int .i64 (0),.int .i64 (0)],qa 12 [.int .i64 (0),.int .i64 (0),.int .i64 (0)],qs 3 11 106,qs 3 12 115]
@[go_sem] def c_r06_Valid_r22 : LL := [qf 116 0 11,ql 117 1 116,qf 118 0 12,ql 119 1 118,qo .neq 120 117 119]
@[go_sem] def c_r06_Valid_r23 : LL := [qi 6 13]
@[go_sem] def c_r06_Valid_r24 : LL := [qf 121 0 5,ql 122 1 121,qf 123 1 11,ql 124 1 123,qd 125 1 122 124,ql 126 1 125,qf 127 1 12,ql 128 1 127,qo .neq 129 126 128,qm 130 129,qg 130 false (qf 131 0 5),
 qg 130 false (ql 132 1 131),qg 130 false (qf 133 2 11),qg 130 false (ql 134 1 133),qg 130 false (qd 135 1 132 134),qg 130 false (ql 136 1 135),qg 130 false (qf 137 2 12),
 qg 130 false (ql 138 1 137),qg 130 false (qo .neq 139 136 138),qQ 140 130 139]
@[go_sem] def c_r06_Valid_r25 : LL := [qi 6 11]
@[go_sem] def c_r06_Valid_r26 : LL := [qm 83 10,qk .add 84 83 1,qm 10 84]
def c_r06_Valid_b27 : LC := (.seq (.seq (.reg c_r06_Valid_r18 [3,4,5,10,82]) (.cond (.t 82) .skip (.exit 2))) (.seq (.block 3 (.seq (.seq (.dreg [] c_r06_Valid_r19 [3,4,5,10,101]) (.cond (.t 101) (.seq (.reg c_r06_Valid_r20 [6]) .ret) .skip)) (.seq (.dreg [(6,none,[],true),(8,none,[],true),(10,none,[],true),(11,none,[],true),(12,none,[],true),(13,none,[],true),(16,none,[6,8,10,11,12,13],false)] c_r06_Valid_r21 [3,4,5,10,11,12]) (.seq (.seq (.reg c_r06_Valid_r22 [3,4,5,10,11,12,120]) (.cond (.t 120) (.seq (.reg c_r06_Valid_r23 [6]) .ret) .skip)) (.seq (.dreg [] c_r06_Valid_r24 [3,4,5,10,140]) (.cond (.t 140) (.seq (.reg c_r06_Valid_r25 [6]) .ret) .skip)))))) (.reg c_r06_Valid_r26 [3,4,5,10])))
@[go_sem] def c_r06_Valid_r28 : LL := [qi 6 0]
@[go_sem] def c_r06_Valid (F : Fn) : LC := (.seq (.reg c_r06_Valid_r0 [3,4,5]) (.seq (.seq (.reg (c_r06_Valid_r1 F) [3,4,5,7]) (.seq (.reg c_r06_Valid_r2 [3,4,5,7,16]) (.cond (.t 16) (.seq (.reg c_r06_Valid_r3 [6]) .ret) .skip))) (.seq (.seq (.reg (c_r06_Valid_r4 F) [3,4,5,8]) (.seq (.reg c_r06_Valid_r5 [3,4,5,8,21]) (.cond (.t 21) (.seq (.reg c_r06_Valid_r6 [6]) .ret) .skip))) (.seq (.seq (.reg c_r06_Valid_r7 [3,4,5,38]) (.cond (.t 38) (.seq (.reg c_r06_Valid_r8 [6]) .ret) .skip)) (.seq (.seq (.reg c_r06_Valid_r9 [3,4,5,9]) (.block 0 (.loop [3,4,5,9] c_r06_Valid_b16))) (.seq (.seq (.reg c_r06_Valid_r17 [3,4,5,10]) (.block 2 (.loop [3,4,5,10] c_r06_Valid_b27))) (.seq (.reg c_r06_Valid_r28 [6]) .ret)))))))
def h_r06_Valid : Hints := hn [] [(0,[3,4,5]),(1,[3,4,5,7]),(2,[3,4,5,7,16]),(3,[6]),(4,[3,4,5,8]),(5,[3,4,5,8,21]),(6,[6]),(7,[3,4,5,38]),(8,[6]),(9,[3,4,5,9]),(10,[3,4,5,9,43]),(11,[3,4,5,9]),(12,[3,4,5,9,62]),(13,[6]),(14,[3,4,5,9,77]),(15,[6]),(16,[3,4,5,10]),(17,[3,4,5,10,82]),(18,[3,4,5,10]),(19,[3,4,5,10,101]),(20,[6]),(21,[3,4,5,10,11,12]),(22,[3,4,5,10,11,12,120]),(23,[6]),(24,[3,4,5,10,140]),(25,[6]),(26,[6])] [(10,[3,4,5,9]),(17,[3,4,5,10])]
@[go_sem] def c_r06_Through_r0 : LL := [qn 4 1]
@[go_sem] def c_r06_Through_r1 : LL := [qn 5 1]
@[go_sem] def c_r06_Through_r2 : LL := [qi 6 0]
@[go_sem] def c_r06_Through_r3 : LL := [qm 7 6,qm 8 0,qz 9 8,qo .lss 10 7 9]
@[go_sem] def c_r06_Through_r4 : LL := [qm 13 5,qm 14 1,qm 15 0,qm 16 6,qd 17 1 15 16,ql 18 1 17,qd 19 1 14 18,ql 20 1 19,⟨some 21,.buildSl 1 8 (.int .i64 (0)) 1 [(0,.t 20)],none⟩,qp 22 1 8 13 21,qm 5 22]
@[go_sem] def c_r06_Through_r5 : LL := [qm 11 6,qk .add 12 11 1,qm 6 12]
def c_r06_Through_b6 : LC := (.seq (.seq (.reg c_r06_Through_r3 [0,1,5,6,10]) (.cond (.t 10) .skip (.exit 0))) (.seq (.block 1 (.reg c_r06_Through_r4 [0,1,5,6])) (.reg c_r06_Through_r5 [0,1,5,6])))
@[go_sem] def c_r06_Through_r7 : LL := [qm 23 5,qm 4 23]
@[go_sem] def c_r06_Through (F : Fn) : LC := (.seq (.reg c_r06_Through_r0 [0,1]) (.seq (.reg c_r06_Through_r1 [0,1,5]) (.seq (.seq (.reg c_r06_Through_r2 [0,1,5,6]) (.block 0 (.loop [0,1,5,6] c_r06_Through_b6))) (.seq (.reg c_r06_Through_r7 [4]) .ret))))
def h_r06_Through : Hints := hOf [] (c_r06_Through fun _ => 0)
@[go_sem] def c_r06_Then_r0 : LL := [qB 2 0,qB 3 1,qa 4 [.nl 1,.nl 1]]
@[go_sem] def c_r06_Then_r1 (F : Fn) : LL := [qf 5 0 2,ql 6 1 5,qf 7 0 3,ql 8 1 7,qc 9 (F "r06.Through") [.t 6,.t 8],qf 10 1 2,ql 11 1 10,qf 12 1 3,ql 13 1 12,qc 14 (F "r06.Through") [.t 11,.t 13],qu 15 [.nl 1,.nl 1] [(0,1,.t 9),(1,1,.t 14)],
 qs 2 4 15]
@[go_sem] def c_r06_Then (F : Fn) : LC := (.seq (.reg c_r06_Then_r0 [2,3,4]) (.seq (.dreg [(4,none,[],true),(6,(some 32),[4],false),(8,(some 128),[4],false)] (c_r06_Then_r1 F) [4]) .ret))
def h_r06_Then : Hints := hOf [] (c_r06_Then fun _ => 0)
section
variable (P : Program) (F : String → Nat)
def K_r06_Valid : Prop := ∀ (a b : G) (m : Mo), FC P (F "r06.Valid") [gD a, gD b, mD m] (.int .i64 (validM a b m)) []
def K_r06_Through : Prop := ∀ l b : List Int, l.length ≤ 1000000 → (∀ x ∈ l, 0 ≤ x ∧ x < b.length) → FC P (F "r06.Through") [.lst 1 (ints l), .lst 1 (ints b)] (.arr 1 (ints (thr l b))) []
def K_r06_Then : Prop := ∀ m n : Mo, m.n.length ≤ 1000000 → m.e.length ≤ 1000000 → (∀ x ∈ m.n, 0 ≤ x ∧ x < n.n.length) → (∀ x ∈ m.e, 0 ≤ x ∧ x < n.e.length) → FC P (F "r06.Then") [mD m, mD n] (mA (thenM m n)) []
end
section
variable {P : Program} {F : String → Nat} {α : Type}
theorem w_r06_Valid (hv : K_r05_Valid P F) (a b : G) (m : Mo) : W P (c_r06_Valid F) (Done [.t 6] [] (.int .i64 (validM a b m)) []) (init [gD a, gD b, mD m]) := by
 refine W_of ?_
 have rva := hv a
 have rvb := hv b
 have sva := @valid_spec a
 have svb := @valid_spec b
 have hvm : validM a b m = if validG a ≠ 0 then validG a else if validG b ≠ 0 then validG b else if m.n.length ≠ a.n.length ∨ m.e.length ≠ a.e.length then 20
  else if nodeE b.n m.n a.n ≠ 0 then nodeE b.n m.n a.n else edgeE b.e m.n m.e a.e := rfl
 rw [hvm]
 generalize validG a = va at *
 generalize validG b = vb at *
 clear hvm
 obtain ⟨an, ae⟩ := a
 obtain ⟨bn, be⟩ := b
 obtain ⟨mn, me⟩ := m
 simp only [gD] at rva rvb
 simp only at sva svb
 simp (disch := omega) only [go_sem, ↓reduceIte, gD, mD]
 refine call_by rva ?_
 simp (disch := omega) only [go_sem, ↓reduceIte]
 refine bran_ndec (fun c1 => ?_) (fun c1 => ?_)
 ·simp (disch := omega) only [go_sem, ↓reduceIte]
 ·subst c1
  obtain ⟨a1, a2, _, a4⟩ := sva rfl
  simp (disch := omega) only [go_sem, ↓reduceIte]
  refine call_by rvb ?_
  simp (disch := omega) only [go_sem, ↓reduceIte]
  refine bran_ndec (fun c2 => ?_) (fun c2 => ?_)
  ·simp (disch := omega) only [go_sem, ↓reduceIte]
   simp [c2]
  ·subst c2
   obtain ⟨b1, b2, _, b4⟩ := svb rfl
   simp (disch := omega) only [go_sem, ↓reduceIte]
   refine bran_ndec (fun c3 => ?_) (fun c3 => ?_)
   ·simp (disch := omega) only [go_sem, ↓reduceIte, c3]
    rw [if_neg (by simp), if_neg (by simp)]
   ·simp (disch := omega) only [go_sem, ↓reduceIte, c3]
    refine bran_ndec (fun c4 => ?_) (fun c4 => ?_)
    ·simp (disch := omega) only [go_sem, ↓reduceIte, c3, c4]
     rw [if_neg (by simp), if_neg (by simp)]
    ·have d3 : mn.length = an.length := by omega
     have d4 : me.length = ae.length := by omega
     rw [if_neg (by simp), if_neg (by simp), if_neg (by simp only; omega)]
     clear c3 c4
     simp (disch := omega) only [go_sem, ↓reduceIte, d3, d4]
     refine W_loop (fun i : Nat => ⟨[(3, .pt 0 0), (4, .pt 1 0), (5, .pt 2 0), (9, .int .i64 i)],
      [(0, .box [.lst 1 (ints an), .lst 3 (eds ae)]), (1, .box [.lst 1 (ints bn), .lst 3 (eds be)]), (2, .box [.lst 1 (ints mn), .lst 1 (ints me)])], 3⟩)
      (fun i => i ≤ mn.length ∧ nodeE bn mn an = nodeE bn (mn.drop i) (an.drop i)) (fun i => mn.length - i) 0 ?_ ?_ ?_
     ·simp (disch := omega) only [go_sem, ↓reduceIte, d3]
      rfl
     ·simp
     ·rintro i ⟨hi, hn⟩
      simp (disch := omega) only [go_sem, ↓reduceIte, c_r06_Valid_b16]
      refine bran_dec (fun c5 => ?_) (fun c5 => ?_)
      ·have hs := nodeE_step (bn := bn) (ms := mn) (as := an) (i := i) (by omega) (by omega)
       simp (disch := omega) only [go_sem, ↓reduceIte]
       refine bran_dec (fun c6 => ?_) (fun c6 => ?_)
       ·simp (disch := omega) only [go_sem, ↓reduceIte, c6]
        rw [if_neg (show ¬ (0 ≤ gt mn i ∧ gt mn i < bn.length) by omega)] at hs
        rw [hn, hs]
        try simp
       ·simp (disch := omega) only [go_sem, ↓reduceIte, c6]
        refine bran_dec (fun c7 => ?_) (fun c7 => ?_)
        ·simp (disch := omega) only [go_sem, ↓reduceIte]
         rw [if_neg (show ¬ (0 ≤ gt mn i ∧ gt mn i < bn.length) by omega)] at hs
         rw [hn, hs]
         try simp
        ·rw [if_pos (show (0 ≤ gt mn i ∧ gt mn i < bn.length) by omega)] at hs
         simp (disch := omega) only [go_sem, ↓reduceIte]
         refine bran_ndec (fun c8 => ?_) (fun c8 => ?_)
         ·rw [if_neg c8] at hs
          simp (disch := omega) only [go_sem, ↓reduceIte]
          rw [hn, hs]
          try simp
         ·rw [if_pos c8] at hs
          simp (disch := omega) only [go_sem, ↓reduceIte]
          exact ⟨i + 1, by simp, ⟨by omega, by rw [hn, hs]⟩, by omega⟩
      ·rw [nodeE_end (by omega)] at hn
       simp (disch := omega) only [go_sem, ↓reduceIte]
       refine W_loop (fun i : Nat => ⟨[(3, .pt 0 0), (4, .pt 1 0), (5, .pt 2 0), (10, .int .i64 i)],
        [(0, .box [.lst 1 (ints an), .lst 3 (eds ae)]), (1, .box [.lst 1 (ints bn), .lst 3 (eds be)]), (2, .box [.lst 1 (ints mn), .lst 1 (ints me)])], 3⟩)
        (fun i => i ≤ me.length ∧ edgeE be mn me ae = edgeE be mn (me.drop i) (ae.drop i)) (fun i => me.length - i) 0 ?_ ?_ ?_
       ·simp (disch := omega) only [go_sem, ↓reduceIte, d4]
        rfl
       ·simp
       ·rintro i ⟨hi, he⟩
        simp (disch := omega) only [go_sem, ↓reduceIte, c_r06_Valid_b27]
        refine bran_dec (fun c5 => ?_) (fun c5 => ?_)
        ·have hs := edgeE_step (be := be) (mn := mn) (ms := me) (as := ae) (i := i) (by omega) (by omega)
         have hae := fits_spec (a4 _ (gt_mem (l := ae) (j := i) (by omega) (by omega)))
         simp (disch := omega) only [go_sem, ↓reduceIte]
         refine bran_dec (fun c6 => ?_) (fun c6 => ?_)
         ·simp (disch := omega) only [go_sem, ↓reduceIte, c6]
          rw [if_neg (show ¬ (0 ≤ gt me i ∧ gt me i < be.length) by omega)] at hs
          rw [hn, he, hs]
          simp
         ·simp (disch := omega) only [go_sem, ↓reduceIte, c6]
          refine bran_dec (fun c7 => ?_) (fun c7 => ?_)
          ·simp (disch := omega) only [go_sem, ↓reduceIte]
           rw [if_neg (show ¬ (0 ≤ gt me i ∧ gt me i < be.length) by omega)] at hs
           rw [hn, he, hs]
           simp
          ·rw [if_pos (show (0 ≤ gt me i ∧ gt me i < be.length) by omega)] at hs
           simp (disch := omega) only [go_sem, ↓reduceIte]
           refine bran_ndec (fun c8 => ?_) (fun c8 => ?_)
           ·rw [if_neg c8] at hs
            simp (disch := omega) only [go_sem, ↓reduceIte]
            rw [hn, he, hs]
            simp
           ·rw [if_pos c8] at hs
            simp (disch := omega) only [go_sem, ↓reduceIte]
            refine bran_ndec (fun c9 => ?_) (fun c9 => ?_)
            ·rw [if_neg (fun h => c9 h.1)] at hs
             simp (disch := omega) only [go_sem, ↓reduceIte, c9]
             rw [hn, he, hs]
             simp
            ·simp (disch := omega) only [go_sem, ↓reduceIte, c9]
             refine bran_ndec (fun d1 => ?_) (fun d1 => ?_)
             ·rw [if_neg (fun h => d1 h.2)] at hs
              simp (disch := omega) only [go_sem, ↓reduceIte]
              rw [hn, he, hs]
              simp
             ·rw [if_pos ⟨c9, d1⟩] at hs
              simp (disch := omega) only [go_sem, ↓reduceIte]
              exact ⟨i + 1, by simp, ⟨by omega, by rw [he, hs]⟩, by omega⟩
        ·rw [edgeE_end (by omega)] at he
         simp (disch := omega) only [go_sem, ↓reduceIte]
         rw [hn, he]
         simp
theorem w_r06_Through (l b : List Int) (hl : l.length ≤ 1000000) (hb : ∀ x ∈ l, 0 ≤ x ∧ x < b.length) : W P (c_r06_Through F) (Done [.t 4] [] (.arr 1 (ints (thr l b))) []) (init [.lst 1 (ints l), .lst 1 (ints b)]) := by
 refine W_of ?_
 simp (disch := omega) only [go_sem, ↓reduceIte]
 refine W_loop (fun i : Nat => ⟨[(0, .lst 1 (ints l)), (1, .lst 1 (ints b)), (5, .sl 0 0 i), (6, .int .i64 i)], [(0, .arr 1 (ints (thr (l.take i) b)))], 1⟩) (fun i => i ≤ l.length) (fun i => l.length - i) 0 ?_ ?_ ?_
 ·simp (disch := omega) only [go_sem, ↓reduceIte]
  rfl
 ·simp
 ·intro i hi
  have el : (thr (l.take i) b).length = i := by rw [thr_len]; simp; omega
  simp (disch := omega) only [go_sem, ↓reduceIte, c_r06_Through_b6]
  refine bran_dec (fun c => ?_) (fun c => ?_)
  ·have hx := hb _ (gt_mem (l := l) (j := i) (by omega) (by omega))
   simp (disch := omega) only [go_sem, ↓reduceIte, el]
   exact ⟨i + 1, by simp [thr_step (show i < l.length by omega)], by omega, by omega⟩
  ·simp (disch := omega) only [go_sem, ↓reduceIte, el]
   rw [List.take_of_length_le (by omega)]
theorem w_r06_Then (ht : K_r06_Through P F) (m n : Mo) (h1 : m.n.length ≤ 1000000) (h2 : m.e.length ≤ 1000000) (h3 : ∀ x ∈ m.n, 0 ≤ x ∧ x < n.n.length) (h4 : ∀ x ∈ m.e, 0 ≤ x ∧ x < n.e.length) :
  W P (c_r06_Then F) (Done [.c 4 true 2] [] (mA (thenM m n)) []) (init [mD m, mD n]) := by
 refine W_of ?_
 obtain ⟨mn, me⟩ := m
 obtain ⟨nn, ne⟩ := n
 have r1 := ht mn nn h1 h3
 have r2 := ht me ne h2 h4
 simp (disch := omega) only [go_sem, ↓reduceIte, mD]
 refine call_by r1 ?_
 simp (disch := omega) only [go_sem, ↓reduceIte]
 refine call_by r2 ?_
 simp (disch := omega) only [go_sem, ↓reduceIte, mA, thenM]
end
@[go_sem] def c_slices_Equal_E_r0 : LL := [qb 4 false]
@[go_sem] def c_slices_Equal_E_r1 : LL := [qm 6 0,qz 7 6,qm 8 1,qz 9 8,qo .neq 10 7 9]
@[go_sem] def c_slices_Equal_E_r2 : LL := [qb 4 false]
@[go_sem] def c_slices_Equal_E_r3 : LL := [qm 11 0,qz 12 11,qi 13 0]
@[go_sem] def c_slices_Equal_E_r4 : LL := [qo .lss 14 13 12]
@[go_sem] def c_slices_Equal_E_r5 : LL := [qm 15 13,qm 5 15]
@[go_sem] def c_slices_Equal_E_r6 : LL := [qm 16 0,qm 17 5,qd 18 3 16 17,qL 19 3 18,qm 20 1,qm 21 5,qd 22 3 20 21,qL 23 3 22,⟨some 24,.eqA 3 true (.t 19) (.t 23),none⟩]
@[go_sem] def c_slices_Equal_E_r7 : LL := [qb 4 false]
@[go_sem] def c_slices_Equal_E_r8 : LL := [qk .add 25 13 1,qm 13 25]
def c_slices_Equal_E_b9 : LC := (.seq (.reg c_slices_Equal_E_r4 [0,1,12,13,14]) (.seq (.cond (.t 14) .skip (.exit 0)) (.seq (.block 1 (.seq (.reg c_slices_Equal_E_r5 [0,1,5,12,13]) (.seq (.dreg [] c_slices_Equal_E_r6 [0,1,12,13,24]) (.cond (.t 24) (.seq (.reg c_slices_Equal_E_r7 [4]) .ret) .skip)))) (.reg c_slices_Equal_E_r8 [0,1,12,13]))))
@[go_sem] def c_slices_Equal_E_r10 : LL := [qb 4 true]
@[go_sem] def c_slices_Equal_E (F : Fn) : LC := (.seq (.reg c_slices_Equal_E_r0 [0,1]) (.seq (.seq (.reg c_slices_Equal_E_r1 [0,1,10]) (.cond (.t 10) (.seq (.reg c_slices_Equal_E_r2 [4]) .ret) .skip)) (.seq (.seq (.reg c_slices_Equal_E_r3 [0,1,12,13]) (.block 0 (.loop [0,1,12,13] c_slices_Equal_E_b9))) (.seq (.reg c_slices_Equal_E_r10 [4]) .ret))))
def h_slices_Equal_E : Hints := hOf [] (c_slices_Equal_E fun _ => 0)
section
variable (P : Program) (F : String → Nat)
def K_slices_Equal_E : Prop := ∀ a b : List E, a.length ≤ maxL → FC P (F "slices.Equal.E") [.lst 3 (eds a), .lst 3 (eds b)] (.bool (decide (a = b))) []
end
section
variable {P : Program} {F : String → Nat} {α : Type}
theorem w_slices_Equal_E (a b : List E) (hl : a.length ≤ maxL) : W P (c_slices_Equal_E F) (Done [.t 4] [] (.bool (decide (a = b))) []) (init [.lst 3 (eds a), .lst 3 (eds b)]) := by
 refine W_of ?_
 unfold maxL at hl
 simp (disch := omega) only [go_sem, ↓reduceIte]
 refine bran_ndec (fun h => ?_) (fun h => ?_)
 ·simp (disch := omega) only [go_sem, ↓reduceIte]
  have : a ≠ b := fun e => h (by rw [e])
  simp [this]
 ·have h' : a.length = b.length := by omega
  simp (disch := omega) only [go_sem, ↓reduceIte]
  refine W_loop (fun i : Nat => ⟨[(0, .lst 3 (eds a)), (1, .lst 3 (eds b)), (12, .int .i64 a.length), (13, .int .i64 i)], [], 0⟩) (fun i => i ≤ a.length ∧ a.take i = b.take i) (fun i => a.length - i) 0 ?_ ?_ ?_
  ·simp (disch := omega) only [go_sem, ↓reduceIte]
   rfl
  ·simp
  ·intro i hi
   simp (disch := omega) only [go_sem, ↓reduceIte, c_slices_Equal_E_b9]
   refine bran_dec (fun c => ?_) (fun c => ?_)
   ·have he : (decide ((gt a i).t = (gt b i).t) && (decide ((gt a i).f = (gt b i).f) && decide ((gt a i).o = (gt b i).o))) = decide (gt a i = gt b i) := by
     rw [Bool.eq_iff_iff]; simp [eqE]
    simp (disch := omega) only [go_sem, ↓reduceIte, he]
    refine bran_ndec (fun d => ?_) (fun d => ?_)
    ·simp (disch := omega) only [go_sem, ↓reduceIte]
     have : a ≠ b := fun e => d (by rw [e])
     simp [this]
    ·simp (disch := omega) only [go_sem, ↓reduceIte]
     exact ⟨i + 1, by simp, ⟨by omega, by rw [take_gt (by omega), take_gt (by omega), hi.2, d]⟩, by omega⟩
   ·simp (disch := omega) only [go_sem, ↓reduceIte]
    obtain rfl : i = a.length := by omega
    have := hi.2
    rw [List.take_length, List.take_of_length_le (by omega)] at this
    simp [this]
end
section
variable {α : Type}
theorem idM_inj {g : G} (h : validG g = 0) : injM g g (idM g) = true := by
 unfold injM
 rw [mok.2 (idM_ok h)]
 simp [distinct, idM, nums_nodup]
theorem covers_nums (n : Nat) : covers (nums 0 n) n = true := by
 unfold covers
 rw [List.all_eq_true]
 intro k hk
 simp only [decide_eq_true_eq, nums_mem]
 simp at hk
 omega
theorem idM_sur {g : G} (h : validG g = 0) : surM g g (idM g) = true := by
 unfold surM
 rw [mok.2 (idM_ok h)]
 simp [idM, covers_nums]
end
def codeL (l : List Int) : List Int := if l = [] then [0] else l
def outN (g : G) (q : List Int) (n : Nat) : Nat → List Int
 | 0 => List.replicate n 0
 | i + 1 => (outN g q n i).set (gt q i).toNat (gt g.n i)
def findE (oe : List E) (x : E) (c : List Int) (i : Nat) : Nat → Int
 | 0 => -1
 | k + 1 => if gt oe k = x ∧ (gt c (((i : Int) + k).tmod c.length)).tmod 2 = 0 then k else findE oe x c i k
def imgX (g : G) (q : List Int) (i : Nat) : E := ⟨(gt g.e i).t, gt q (gt g.e i).f, gt q (gt g.e i).o⟩
def imgE (g : G) (q c : List Int) : Nat → List E × List Int
 | 0 => ([], [])
 | i + 1 => if findE (imgE g q c i).1 (imgX g q i) c i (imgE g q c i).1.length < 0 then ((imgE g q c i).1 ++ [imgX g q i], (imgE g q c i).2 ++ [((imgE g q c i).1.length : Int)])
   else ((imgE g q c i).1, (imgE g q c i).2 ++ [findE (imgE g q c i).1 (imgX g q i) c i (imgE g q c i).1.length])
def imgP (g : G) (l : List Int) : List Int := part g (codeL l) (g.n.length - 1)
def imgQ (g : G) (l : List Int) : List Int := (quo (imgP g l) g.n.length).1
def imgC (g : G) (l : List Int) : Nat := (quo (imgP g l) g.n.length).2
def imG (g : G) (l : List Int) : G := ⟨outN g (imgQ g l) (imgC g l) g.n.length, (imgE g (imgQ g l) (codeL l) g.e.length).1⟩
def imMo (g : G) (l : List Int) : Mo := ⟨imgQ g l, (imgE g (imgQ g l) (codeL l) g.e.length).2⟩
section
theorem codeL_len (l : List Int) : 0 < (codeL l).length := by
 unfold codeL
 split
 ·simp
 ·rename_i h; exact List.length_pos_iff.2 h
theorem codeL_ok {l : List Int} (h : ∀ v ∈ l, Byte v) : ∀ v ∈ codeL l, Byte v := by
 unfold codeL
 split
 ·intro v hv; simp at hv; subst hv; unfold Byte; omega
 ·exact h
theorem key_bd {c : List Int} (hl : 0 < c.length) (hc : ∀ v ∈ c, Byte v) (i : Nat) : 0 ≤ keyI c i ∧ keyI c i ≤ i := by
 unfold keyI
 have h1 := tmod_bd (x := (i : Int)) (m := (c.length : Int)) (by omega) (by omega)
 have h2 := hc _ (gt_mem (l := c) h1.1 h1.2)
 have h3 := tmod_bd (x := gt c ((i : Int).tmod c.length)) (m := (i : Int) + 1) h2.1 (by omega)
 omega
structure PV (g : G) (p : List Int) : Prop where
 l : p.length = g.n.length
 h : ∀ i : Nat, i < g.n.length → (0 ≤ gt p i ∧ gt p i ≤ i) ∧ gt p (gt p i) = gt p i ∧ gt g.n (gt p i) = gt g.n i
theorem PV.merge {g : G} {p : List Int} (hp : PV g p) {a b : Nat} (ha : a < g.n.length) (hb : b < g.n.length) (he : gt g.n a = gt g.n b) : PV g (mergeL p a b) := by
 obtain ⟨hl, h⟩ := hp
 obtain ⟨a1, a2, a3⟩ := h a ha
 obtain ⟨b1, b2, b3⟩ := h b hb
 have hg : ∀ i : Nat, i < g.n.length → gt (mergeL p a b) i = if gt p i = max (gt p a) (gt p b) then min (gt p a) (gt p b) else gt p i := fun i hi => by
  unfold mergeL
  rw [gt_nat (by simp; omega), gt_nat (l := p) (i := i) (by omega)]
  simp
 have hlo : gt p (min (gt p a) (gt p b)) = min (gt p a) (gt p b) ∧ (0 ≤ min (gt p a) (gt p b) ∧ min (gt p a) (gt p b) < g.n.length) ∧ gt g.n (min (gt p a) (gt p b)) = gt g.n (max (gt p a) (gt p b)) := by
  by_cases c : gt p a ≤ gt p b
  ·rw [Int.min_eq_left c, Int.max_eq_right c]
   exact ⟨a2, by omega, by rw [a3, b3, he]⟩
  ·rw [Int.min_eq_right (by omega), Int.max_eq_left (by omega)]
   exact ⟨b2, by omega, by rw [a3, b3, he]⟩
 have hle : min (gt p a) (gt p b) ≤ max (gt p a) (gt p b) := by omega
 generalize min (gt p a) (gt p b) = lo at *
 generalize max (gt p a) (gt p b) = hi at *
 obtain ⟨l1, l2, l3⟩ := hlo
 obtain ⟨k, hk⟩ : ∃ k : Nat, lo = k := ⟨lo.toNat, by omega⟩
 refine ⟨by rw [merge_len, hl], fun i hi' => ?_⟩
 obtain ⟨c1, c2, c3⟩ := h i hi'
 rw [hg i hi']
 by_cases c : gt p i = hi
 ·rw [if_pos c]
  refine ⟨by omega, ?_, by rw [l3, ← c, c3]⟩
  rw [hk, hg k (by omega), ← hk, l1]
  split <;> rfl
 ·rw [if_neg c]
  refine ⟨c1, ?_, c3⟩
  obtain ⟨m, hm⟩ : ∃ m : Nat, gt p i = m := ⟨(gt p i).toNat, by omega⟩
  rw [hm, hg m (by omega), ← hm, c2, if_neg c]
theorem nums_PV (g : G) : PV g (nums 0 g.n.length) := ⟨by rw [nums_len], fun i hi => by
 rw [nums_gt hi]
 exact ⟨by omega, nums_gt hi, rfl⟩⟩
theorem part_PV {g : G} {c : List Int} (hl : 0 < c.length) (hc : ∀ v ∈ c, Byte v) : ∀ k : Nat, k ≤ g.n.length - 1 → PV g (part g c k)
 | 0, _ => nums_PV g
 | k + 1, hk => by
  have ih := part_PV (g := g) hl hc k (by omega)
  have hb := key_bd hl hc (k + 1)
  rw [part]
  split
  ·rename_i h
   obtain ⟨m, hm⟩ : ∃ m : Nat, keyI c (k + 1) = m := ⟨(keyI c (k + 1)).toNat, by omega⟩
   rw [hm] at h hb ⊢
   exact ih.merge (by omega) (by omega) h.2
  ·exact ih
structure QV (g : G) (n : Nat) (s : List Int × Nat) : Prop where
 l : s.1.length = n
 c : s.2 ≤ n
 b : ∀ i : Nat, i < n → 0 ≤ gt s.1 i ∧ gt s.1 i < s.2
 e : ∀ i j : Nat, i < n → j < n → gt s.1 i = gt s.1 j → gt g.n i = gt g.n j
theorem quo_QV {g : G} {p : List Int} (hp : PV g p) : ∀ n : Nat, n ≤ g.n.length → QV g n (quo p n)
 | 0, _ => ⟨rfl, Nat.le_refl _, fun i hi => by omega, fun i j hi => by omega⟩
 | n + 1, hn => by
  obtain ⟨h1, h2, h3, h4⟩ := quo_QV hp n (by omega)
  obtain ⟨p1, p2, p3⟩ := hp.h n (by omega)
  rw [quo]
  generalize quo p n = s at *
  obtain ⟨q, c⟩ := s
  simp only at h1 h2 h3 h4 ⊢
  split
  ·refine ⟨by simp [h1], by omega, fun i hi => ?_, fun i j hi hj he => ?_⟩
   ·by_cases x : i = n
    ·subst x
     simp only
     rw [gt_lastS h1.symm]; omega
    ·simp only
     rw [gt_appS (by omega)]
     have := h3 i (by omega)
     omega
   ·simp only at he
    by_cases x : i = n
    ·by_cases y : j = n
     ·rw [x, y]
     ·rw [x, gt_lastS h1.symm, gt_appS (by omega)] at he
      have := h3 j (by omega)
      omega
    ·by_cases y : j = n
     ·rw [y, gt_lastS h1.symm, gt_appS (by omega)] at he
      have := h3 i (by omega)
      omega
     ·rw [gt_appS (by omega), gt_appS (by omega)] at he
      exact h4 i j (by omega) (by omega) he
  ·rename_i hne
   obtain ⟨m, hm⟩ : ∃ m : Nat, gt p n = m := ⟨(gt p n).toNat, by omega⟩
   rw [hm] at p1 p3 hne ⊢
   have hmn : m < n := by omega
   refine ⟨by simp [h1], by simp only; omega, fun i hi => ?_, fun i j hi hj he => ?_⟩
   ·by_cases x : i = n
    ·subst x
     simp only
     rw [gt_lastS h1.symm]; exact h3 m hmn
    ·simp only
     rw [gt_appS (by omega)]
     exact h3 i (by omega)
   ·simp only at he
    by_cases x : i = n
    ·by_cases y : j = n
     ·rw [x, y]
     ·rw [x, gt_lastS h1.symm, gt_appS (by omega)] at he
      rw [x, ← p3]
      exact h4 m j hmn (by omega) he
    ·by_cases y : j = n
     ·rw [y, gt_lastS h1.symm, gt_appS (by omega)] at he
      rw [y, ← p3]
      exact h4 i m (by omega) hmn he
     ·rw [gt_appS (by omega), gt_appS (by omega)] at he
      exact h4 i j (by omega) (by omega) he
theorem outN_len (g : G) (q : List Int) (n : Nat) : ∀ i, (outN g q n i).length = n
 | 0 => by simp [outN]
 | i + 1 => by rw [outN, List.length_set, outN_len g q n i]
theorem outN_ok {g : G} {s : List Int × Nat} {n : Nat} (hs : QV g n s) : ∀ m : Nat, m ≤ n → ∀ i : Nat, i < m → gt (outN g s.1 s.2 m) (gt s.1 i) = gt g.n i
 | 0, _, i, hi => by omega
 | m + 1, hm, i, hi => by
  obtain ⟨b1, b2⟩ := hs.b i (by omega)
  obtain ⟨b3, b4⟩ := hs.b m (by omega)
  have hl := outN_len g s.1 s.2 m
  obtain ⟨k, hk⟩ : ∃ k : Nat, gt s.1 i = k := ⟨(gt s.1 i).toNat, by omega⟩
  rw [outN, hk, gt_setH (by omega)]
  by_cases x : (gt s.1 m).toNat = k
  ·rw [if_pos x]
   exact hs.e m i (by omega) (by omega) (by omega)
  ·rw [if_neg x, ← hk]
   refine outN_ok hs m (by omega) i ?_
   by_cases y : i = m
   ·subst y; omega
   ·omega
theorem outN_in {g : G} {q : List Int} {n : Nat} (h : ∀ x ∈ g.n, okN x = true) : ∀ m : Nat, m ≤ g.n.length → ∀ x ∈ outN g q n m, okN x = true
 | 0, _, x, hx => by
  simp only [outN, List.mem_replicate] at hx
  rw [hx.2]
  decide
 | m + 1, hm, x, hx => by
  rw [outN] at hx
  rcases List.mem_or_eq_of_mem_set hx with hx | hx
  ·exact outN_in h m (by omega) x hx
  ·rw [hx]; exact h _ (gt_mem (by omega) (by omega))
theorem find_ok {oe : List E} {x : E} {c : List Int} {i : Nat} : ∀ k : Nat, k ≤ oe.length → findE oe x c i k < 0 ∨ ((0 ≤ findE oe x c i k ∧ findE oe x c i k < oe.length) ∧ gt oe (findE oe x c i k) = x)
 | 0, _ => .inl (by simp [findE])
 | k + 1, hk => by
  rw [findE]
  split
  ·rename_i h
   exact .inr ⟨by omega, h.1⟩
  ·exact find_ok k (by omega)
structure EV (g : G) (q : List Int) (c : Nat) (n : Nat) (s : List E × List Int) : Prop where
 l : s.2.length = n
 m : s.1.length ≤ n
 f : ∀ x ∈ s.1, fitsE c x = true
 b : ∀ i : Nat, i < n → (0 ≤ gt s.2 i ∧ gt s.2 i < s.1.length) ∧ gt s.1 (gt s.2 i) = imgX g q i
theorem imgE_EV {g : G} {q c : List Int} {k : Nat} (hv : validG g = 0) (hq : ∀ i : Nat, i < g.n.length → 0 ≤ gt q i ∧ gt q i < k) : ∀ n : Nat, n ≤ g.e.length → EV g q k n (imgE g q c n)
 | 0, _ => ⟨rfl, Nat.le_refl _, fun x hx => by simp [imgE] at hx, fun i hi => by omega⟩
 | n + 1, hn => by
  obtain ⟨h1, h2, h3, h4⟩ := imgE_EV (c := c) hv hq n (by omega)
  have hf := find_ok (oe := (imgE g q c n).1) (x := imgX g q n) (c := c) (i := n) (imgE g q c n).1.length (Nat.le_refl _)
  obtain ⟨t1, t2, t3⟩ := edge_fits hv (i := n) (by omega)
  have hx : fitsE k (imgX g q n) = true := by
   obtain ⟨a, ha, ha2⟩ := gtI t2
   obtain ⟨b, hb, hb2⟩ := gtI t3
   unfold imgX
   rw [ha2, hb2]
   exact fits_mk t1 (hq a ha) (hq b hb)
  rw [imgE]
  generalize imgE g q c n = s at *
  generalize findE s.1 (imgX g q n) c n s.1.length = y at *
  generalize hxx : imgX g q n = x at *
  obtain ⟨oe, me⟩ := s
  simp only at h1 h2 h3 h4 hf ⊢
  split
  ·refine ⟨by simp [h1], by simp; omega, fun z hz => ?_, fun i hi => ?_⟩
   ·simp only [List.mem_append, List.mem_singleton] at hz
    rcases hz with hz | rfl
    ·exact h3 z hz
    ·exact hx
   ·simp only [List.length_append, List.length_singleton]
    by_cases c : i = n
    ·rw [gt_lastS (show i = me.length by omega), gt_lastS rfl]
     refine ⟨by omega, ?_⟩
     rw [c]; exact hxx.symm
    ·obtain ⟨h5, h6⟩ := h4 i (by omega)
     rw [gt_appS (show i < me.length by omega)]
     obtain ⟨a, ha, ha2⟩ := gtI h5
     rw [ha2, gt_appS ha, ← ha2]
     exact ⟨by omega, h6⟩
  ·rename_i hy
   rcases hf with hf | ⟨hf, hf2⟩
   ·exact absurd hf hy
   ·refine ⟨by simp [h1], by simp only; omega, h3, fun i hi => ?_⟩
    simp only
    by_cases c : i = n
    ·rw [gt_lastS (show i = me.length by omega)]
     refine ⟨hf, ?_⟩
     rw [hf2]
     rw [c]; exact hxx.symm
    ·rw [gt_appS (show i < me.length by omega)]
     exact h4 i (by omega)
theorem img_okM {g : G} {l : List Int} (hv : validG g = 0) (hl : ∀ v ∈ l, Byte v) : MOk g (imG g l) (imMo g l) := by
 have vs := valid_spec hv
 have hp : PV g (imgP g l) := part_PV (codeL_len l) (codeL_ok hl) _ (Nat.le_refl _)
 have hq : QV g g.n.length (quo (imgP g l) g.n.length) := quo_QV hp _ (Nat.le_refl _)
 have he : EV g (imgQ g l) (imgC g l) g.e.length (imgE g (imgQ g l) (codeL l) g.e.length) := imgE_EV hv hq.b _ (Nat.le_refl _)
 have ho := outN_ok hq _ (Nat.le_refl _)
 have hlo := outN_len g (imgQ g l) (imgC g l) g.n.length
 have hc : imgC g l ≤ g.n.length := hq.c
 have hm := he.m
 refine ⟨hv, valid_mk ?_ ?_ (fun y hy => ?_) (fun y hy => ?_), ?_, ?_, fun i hi => ?_, fun i hi => ?_⟩
 ·simp only [imG]; omega
 ·simp only [imG]; omega
 ·exact outN_in vs.2.2.1 _ (Nat.le_refl _) y hy
 ·have := he.f y hy
  simp only [imG]
  rw [hlo]
  exact this
 ·exact hq.l
 ·exact he.l
 ·simp only [imG, imMo]
  rw [hlo]
  exact ⟨hq.b i hi, ho i hi⟩
 ·simp only [imG, imMo]
  obtain ⟨h1, h2⟩ := he.b i hi
  refine ⟨h1, ?_⟩
  rw [h2]
  exact ⟨rfl, rfl, rfl⟩
theorem img_sz {g : G} {l : List Int} (hl : ∀ v ∈ l, Byte v) (hv : validG g = 0) : (imgQ g l).length = g.n.length ∧ (imG g l).n.length ≤ g.n.length ∧ (imG g l).e.length ≤ g.e.length := by
 have hp : PV g (imgP g l) := part_PV (codeL_len l) (codeL_ok hl) _ (Nat.le_refl _)
 have hq : QV g g.n.length (quo (imgP g l) g.n.length) := quo_QV hp _ (Nat.le_refl _)
 have he : EV g (imgQ g l) (imgC g l) g.e.length (imgE g (imgQ g l) (codeL l) g.e.length) := imgE_EV hv hq.b _ (Nat.le_refl _)
 refine ⟨hq.l, ?_, he.m⟩
 simp only [imG]
 rw [outN_len]
 exact hq.c
end
attribute [local irreducible] W
@[go_sem] def c_r06_numbers_r0 : LL := [qn 2 1]
@[go_sem] def c_r06_numbers_r1 : LL := [⟨some 5,.buildSl 1 8 (.int .i64 (0)) 0 [],none⟩,qm 3 5]
@[go_sem] def c_r06_numbers_r2 : LL := [qi 4 0]
@[go_sem] def c_r06_numbers_r3 : LL := [qm 6 4,qm 7 0,qz 8 7,qo .lss 9 6 8]
@[go_sem] def c_r06_numbers_r4 : LL := [qm 12 3,qm 13 0,qm 14 4,qd 15 1 13 14,ql 16 1 15,⟨some 17,.conv .i64 (.t 16),none⟩,⟨some 18,.buildSl 1 8 (.int .i64 (0)) 1 [(0,.t 17)],none⟩,qp 19 1 8 12 18,qm 3 19]
@[go_sem] def c_r06_numbers_r5 : LL := [qm 10 4,qk .add 11 10 1,qm 4 11]
def c_r06_numbers_b6 : LC := (.seq (.seq (.reg c_r06_numbers_r3 [0,3,4,9]) (.cond (.t 9) .skip (.exit 0))) (.seq (.block 1 (.reg c_r06_numbers_r4 [0,3,4])) (.reg c_r06_numbers_r5 [0,3,4])))
@[go_sem] def c_r06_numbers_r7 : LL := [qm 20 3,qz 21 20,qk .eql 22 21 0]
@[go_sem] def c_r06_numbers_r8 : LL := [⟨some 23,.buildSl 1 8 (.int .i64 (0)) 1 [(0,.k (.int .i64 (0)))],none⟩,qm 3 23]
@[go_sem] def c_r06_numbers_r9 : LL := [qm 24 3,qm 2 24]
@[go_sem] def c_r06_numbers (F : Fn) : LC := (.seq (.reg c_r06_numbers_r0 [0]) (.seq (.reg c_r06_numbers_r1 [0,3]) (.seq (.seq (.reg c_r06_numbers_r2 [0,3,4]) (.block 0 (.loop [0,3,4] c_r06_numbers_b6))) (.seq (.seq (.reg c_r06_numbers_r7 [3,22]) (.cond (.t 22) (.reg c_r06_numbers_r8 [3]) .skip)) (.seq (.reg c_r06_numbers_r9 [2]) .ret)))))
def h_r06_numbers : Hints := hOf [] (c_r06_numbers fun _ => 0)
@[go_sem] def c_r02_Merge_r0 : LL := [qn 6 1]
@[go_sem] def c_r02_Merge_r1 : LL := [qm 12 0,qm 13 1,qd 14 1 12 13,ql 15 1 14,qm 16 0,qm 17 2,qd 18 1 16 17,ql 19 1 18,⟨some 20,.mn [.t 15,.t 19],none⟩,qm 21 0,qm 22 1,qd 23 1 21 22,ql 24 1 23,qm 25 0,qm 26 2,
 qd 27 1 25 26,ql 28 1 27,⟨some 29,.mx [.t 24,.t 28],none⟩,qm 7 20,qm 8 29]
@[go_sem] def c_r02_Merge_r2 : LL := [qn 9 1]
@[go_sem] def c_r02_Merge_r3 : LL := [qi 10 0]
@[go_sem] def c_r02_Merge_r4 : LL := [qm 30 10,qm 31 0,qz 32 31,qo .lss 33 30 32]
@[go_sem] def c_r02_Merge_r5 : LL := [qm 36 0,qm 37 10,qd 38 1 36 37,ql 39 1 38,qm 11 39]
@[go_sem] def c_r02_Merge_r6 : LL := [qm 40 11,qm 41 8,qo .eql 42 40 41]
@[go_sem] def c_r02_Merge_r7 : LL := [qm 43 7,qm 11 43]
@[go_sem] def c_r02_Merge_r8 : LL := [qm 44 9,qm 45 11,⟨some 46,.buildSl 1 8 (.int .i64 (0)) 1 [(0,.t 45)],none⟩,qp 47 1 8 44 46,qm 9 47]
@[go_sem] def c_r02_Merge_r9 : LL := [qm 34 10,qk .add 35 34 1,qm 10 35]
def c_r02_Merge_b10 : LC := (.seq (.seq (.reg c_r02_Merge_r4 [0,7,8,9,10,33]) (.cond (.t 33) .skip (.exit 0))) (.seq (.block 1 (.seq (.reg c_r02_Merge_r5 [0,7,8,9,10,11]) (.seq (.seq (.reg c_r02_Merge_r6 [0,7,8,9,10,11,42]) (.cond (.t 42) (.reg c_r02_Merge_r7 [0,7,8,9,10,11]) .skip)) (.reg c_r02_Merge_r8 [0,7,8,9,10])))) (.reg c_r02_Merge_r9 [0,7,8,9,10])))
@[go_sem] def c_r02_Merge_r11 : LL := [qm 48 9,qm 6 48]
@[go_sem] def c_r02_Merge (F : Fn) : LC := (.seq (.reg c_r02_Merge_r0 [0,1,2]) (.seq (.dreg [] c_r02_Merge_r1 [0,7,8]) (.seq (.reg c_r02_Merge_r2 [0,7,8,9]) (.seq (.seq (.reg c_r02_Merge_r3 [0,7,8,9,10]) (.block 0 (.loop [0,7,8,9,10] c_r02_Merge_b10))) (.seq (.reg c_r02_Merge_r11 [6]) .ret)))))
def h_r02_Merge : Hints := hn [] [(0,[0,1,2]),(1,[0,7,8]),(2,[0,7,8,9]),(3,[0,7,8,9,10]),(4,[0,7,8,9,10,33]),(5,[0,7,8,9,10]),(6,[0,7,8,9,10,11]),(7,[0,7,8,9,10,11,42]),(8,[0,7,8,9,10,11]),(9,[0,7,8,9,10]),(10,[6])] [(4,[0,7,8,9,10])]
@[go_sem] def c_r02_Valid_r0 : LL := [qb 2 false]
@[go_sem] def c_r02_Valid_r1 : LL := [qm 4 0,qz 5 4,qk .gtr 6 5 80]
@[go_sem] def c_r02_Valid_r2 : LL := [qb 2 false]
@[go_sem] def c_r02_Valid_r3 : LL := [qi 3 0]
@[go_sem] def c_r02_Valid_r4 : LL := [qm 7 3,qm 8 0,qz 9 8,qo .lss 10 7 9]
@[go_sem] def c_r02_Valid_r5 : LL := [qm 13 0,qm 14 3,qd 15 1 13 14,ql 16 1 15,qk .lss 17 16 0,qm 18 17,qg 18 false (qm 19 0),qg 18 false (qm 20 3),qg 18 false (qd 21 1 19 20),qg 18 false (ql 22 1 21),
 qg 18 false (qm 23 3),qg 18 false (qo .gtr 24 22 23),qQ 25 18 24,qm 26 25,qg 26 false (qm 27 0),qg 26 false (qm 28 0),qg 26 false (qm 29 3),qg 26 false (qd 30 1 28 29),
 qg 26 false (ql 31 1 30),qg 26 false (qd 32 1 27 31),qg 26 false (ql 33 1 32),qg 26 false (qm 34 0),qg 26 false (qm 35 3),qg 26 false (qd 36 1 34 35),qg 26 false (ql 37 1 36),
 qg 26 false (qo .neq 38 33 37),qQ 39 26 38]
@[go_sem] def c_r02_Valid_r6 : LL := [qb 2 false]
@[go_sem] def c_r02_Valid_r7 : LL := [qm 11 3,qk .add 12 11 1,qm 3 12]
def c_r02_Valid_b8 : LC := (.seq (.seq (.reg c_r02_Valid_r4 [0,3,10]) (.cond (.t 10) .skip (.exit 0))) (.seq (.block 1 (.seq (.dreg [] c_r02_Valid_r5 [0,3,39]) (.cond (.t 39) (.seq (.reg c_r02_Valid_r6 [2]) .ret) .skip))) (.reg c_r02_Valid_r7 [0,3])))
@[go_sem] def c_r02_Valid_r9 : LL := [qb 2 true]
@[go_sem] def c_r02_Valid (F : Fn) : LC := (.seq (.reg c_r02_Valid_r0 [0]) (.seq (.seq (.reg c_r02_Valid_r1 [0,6]) (.cond (.t 6) (.seq (.reg c_r02_Valid_r2 [2]) .ret) .skip)) (.seq (.seq (.reg c_r02_Valid_r3 [0,3]) (.block 0 (.loop [0,3] c_r02_Valid_b8))) (.seq (.reg c_r02_Valid_r9 [2]) .ret))))
def h_r02_Valid : Hints := hn [] [(0,[0]),(1,[0,6]),(2,[2]),(3,[0,3]),(4,[0,3,10]),(5,[0,3]),(6,[0,3,39]),(7,[2]),(8,[2])] [(4,[0,3])]
@[go_sem] def c_r02_one_r0 : LL := [qi 2 0]
@[go_sem] def c_r02_one_r1 : LL := [qm 3 0,qz 4 3,qk .gtr 5 4 80]
@[go_sem] def c_r02_one_r2 : LL := [qi 2 3]
@[go_sem] def c_r02_one_r3 (F : Fn) : LL := [qm 6 0,qc 7 (F "r02.Valid") [.t 6],qv 8 7]
@[go_sem] def c_r02_one_r4 : LL := [qi 2 1]
@[go_sem] def c_r02_one_r5 : LL := [qi 2 0]
@[go_sem] def c_r02_one (F : Fn) : LC := (.seq (.reg c_r02_one_r0 [0]) (.seq (.seq (.reg c_r02_one_r1 [0,5]) (.cond (.t 5) (.seq (.reg c_r02_one_r2 [2]) .ret) .skip)) (.seq (.seq (.reg (c_r02_one_r3 F) [8]) (.cond (.t 8) (.seq (.reg c_r02_one_r4 [2]) .ret) .skip)) (.seq (.reg c_r02_one_r5 [2]) .ret))))
def h_r02_one : Hints := hOf [] (c_r02_one fun _ => 0)
@[go_sem] def c_r02_Quotient_r0 : LL := [qn 2 1,qi 3 0,qi 4 0]
@[go_sem] def c_r02_Quotient_r1 (F : Fn) : LL := [qm 9 0,qc 10 (F "r02.one") [.t 9],qm 5 10]
@[go_sem] def c_r02_Quotient_r2 : LL := [qm 11 5,qk .neq 12 11 0]
@[go_sem] def c_r02_Quotient_r3 : LL := [qm 13 5,qn 2 1,qi 3 0,qm 4 13]
@[go_sem] def c_r02_Quotient_r4 : LL := [qn 6 1]
@[go_sem] def c_r02_Quotient_r5 : LL := [qi 7 0]
@[go_sem] def c_r02_Quotient_r6 : LL := [qi 8 0]
@[go_sem] def c_r02_Quotient_r7 : LL := [qm 14 8,qm 15 0,qz 16 15,qo .lss 17 14 16]
@[go_sem] def c_r02_Quotient_r8 : LL := [qm 20 0,qm 21 8,qd 22 1 20 21,ql 23 1 22,qm 24 8,qo .eql 25 23 24]
@[go_sem] def c_r02_Quotient_r9 : LL := [qm 26 6,qm 27 7,⟨some 28,.buildSl 1 8 (.int .i64 (0)) 1 [(0,.t 27)],none⟩,qp 29 1 8 26 28,qm 6 29]
@[go_sem] def c_r02_Quotient_r10 : LL := [qm 30 7,qk .add 31 30 1,qm 7 31]
@[go_sem] def c_r02_Quotient_r11 : LL := [qm 32 6,qm 33 6,qm 34 0,qm 35 8,qd 36 1 34 35,ql 37 1 36,qd 38 1 33 37,ql 39 1 38,⟨some 40,.buildSl 1 8 (.int .i64 (0)) 1 [(0,.t 39)],none⟩,qp 41 1 8 32 40,qm 6 41]
@[go_sem] def c_r02_Quotient_r12 : LL := [qm 18 8,qk .add 19 18 1,qm 8 19]
def c_r02_Quotient_b13 : LC := (.seq (.seq (.reg c_r02_Quotient_r7 [0,6,7,8,17]) (.cond (.t 17) .skip (.exit 0))) (.seq (.block 1 (.seq (.reg c_r02_Quotient_r8 [0,6,7,8,25]) (.cond (.t 25) (.seq (.reg c_r02_Quotient_r9 [0,6,7,8]) (.reg c_r02_Quotient_r10 [0,6,7,8])) (.reg c_r02_Quotient_r11 [0,6,7,8])))) (.reg c_r02_Quotient_r12 [0,6,7,8])))
@[go_sem] def c_r02_Quotient_r14 : LL := [qm 42 6,qm 43 7,qm 2 42,qm 3 43,qi 4 0]
@[go_sem] def c_r02_Quotient (F : Fn) : LC := (.seq (.reg c_r02_Quotient_r0 [0]) (.seq (.seq (.reg (c_r02_Quotient_r1 F) [0,5]) (.seq (.reg c_r02_Quotient_r2 [0,5,12]) (.cond (.t 12) (.seq (.reg c_r02_Quotient_r3 [2,3,4]) .ret) .skip))) (.seq (.reg c_r02_Quotient_r4 [0,6]) (.seq (.reg c_r02_Quotient_r5 [0,6,7]) (.seq (.seq (.reg c_r02_Quotient_r6 [0,6,7,8]) (.block 0 (.loop [0,6,7,8] c_r02_Quotient_b13))) (.seq (.reg c_r02_Quotient_r14 [2,3,4]) .ret))))))
def h_r02_Quotient : Hints := hn [] [(0,[0]),(1,[0,5]),(2,[0,5,12]),(3,[2,3,4]),(4,[0,6]),(5,[0,6,7]),(6,[0,6,7,8]),(7,[0,6,7,8,17]),(8,[0,6,7,8]),(9,[0,6,7,8,25]),(10,[0,6,7,8]),(11,[0,6,7,8]),(12,[0,6,7,8]),(13,[2,3,4])] [(7,[0,6,7,8])]
structure Pv (p : List Int) : Prop where
 l : p.length ≤ 80
 h : ∀ i : Nat, i < p.length → (0 ≤ gt p i ∧ gt p i ≤ i) ∧ gt p (gt p i) = gt p i
section
variable (P : Program) (F : String → Nat)
def K_r06_numbers : Prop := ∀ l : List Int, l.length ≤ 2000000 → (∀ v ∈ l, Byte v) → FC P (F "r06.numbers") [.lst 1 (u8s l)] (.arr 1 (ints (codeL l))) []
def K_r02_Merge : Prop := ∀ (p : List Int) (a b : Nat), p.length ≤ 1000 → a < p.length → b < p.length → FC P (F "r02.Merge") [.lst 1 (ints p), .int .i64 a, .int .i64 b] (.arr 1 (ints (mergeL p a b))) []
def K_r02_Valid : Prop := ∀ p : List Int, Pv p → FC P (F "r02.Valid") [.lst 1 (ints p)] (.bool true) []
def K_r02_one : Prop := ∀ p : List Int, Pv p → FC P (F "r02.one") [.lst 1 (ints p)] (.int .i64 0) []
def K_r02_Quotient : Prop := ∀ p : List Int, Pv p → FC P (F "r02.Quotient") [.lst 1 (ints p)] (.tup [.arr 1 (ints (quo p p.length).1), .int .i64 (quo p p.length).2, .int .i64 0]) []
end
section
variable {P : Program} {F : String → Nat} {α : Type}
theorem w_r06_numbers (l : List Int) (hl : l.length ≤ 2000000) (hb : ∀ v ∈ l, Byte v) : W P (c_r06_numbers F) (Done [.t 2] [] (.arr 1 (ints (codeL l))) []) (init [.lst 1 (u8s l)]) := by
 refine W_of ?_
 simp (disch := omega) only [go_sem, ↓reduceIte]
 refine W_loop (fun i : Nat => ⟨[(0, .lst 1 (u8s l)), (3, .sl 0 0 i), (4, .int .i64 i)], [(0, .arr 1 (ints (l.take i)))], 1⟩) (fun i => i ≤ l.length) (fun i => l.length - i) 0 ?_ ?_ ?_
 ·simp (disch := omega) only [go_sem, ↓reduceIte, ints_nil]
  rfl
 ·simp
 ·intro i hi
  have e1 : (l.take i).length = i := by simp; omega
  simp (disch := omega) only [go_sem, ↓reduceIte, c_r06_numbers_b6]
  refine bran_dec (fun c => ?_) (fun c => ?_)
  ·have hv := hb _ (gt_mem (l := l) (j := i) (by omega) (by omega))
   have w1 : IntKind.i64.wrap (gt l i) = gt l i := wrap_i64 (by have := hv.1; omega) (by have := hv.2; omega)
   simp (disch := omega) only [go_sem, ↓reduceIte, e1, w1]
   exact ⟨i + 1, by rw [take_gt (by omega)]; simp, by omega, by omega⟩
  ·obtain rfl : i = l.length := by omega
   unfold codeL
   by_cases h0 : l = []
   ·subst h0
    simp (disch := omega) only [go_sem, ↓reduceIte]
    refine bran_dec (fun _ => ?_) (fun h => absurd rfl h)
    simp (disch := omega) only [go_sem, ↓reduceIte]
    rfl
   ·have h1 := List.length_pos_iff.2 h0
    rw [if_neg h0]
    have g0 : decide ((l.length : Int) = 0) = false := decide_eq_false (by omega)
    simp (disch := omega) only [go_sem, ↓reduceIte, e1, g0]
    try simp
theorem w_r02_Merge (p : List Int) (a b : Nat) (hl : p.length ≤ 1000) (ha : a < p.length) (hb : b < p.length) : W P (c_r02_Merge F) (Done [.t 6] [] (.arr 1 (ints (mergeL p a b))) []) (init [.lst 1 (ints p), .int .i64 a, .int .i64 b]) := by
 refine W_of ?_
 have ht : ∀ i : Nat, i < p.length → mergeL (p.take (i + 1)) (0 : Int) 0 = mergeL (p.take (i + 1)) 0 0 := fun i hi => rfl
 have hE : mergeL p a b = p.map fun k => if k = max (gt p a) (gt p b) then min (gt p a) (gt p b) else k := rfl
 have hlo : min (gt p a) (gt p b) = if gt p b < gt p a then gt p b else gt p a := by rw [Int.min_def]; split <;> split <;> omega
 have hhi : max (gt p a) (gt p b) = if gt p a < gt p b then gt p b else gt p a := by rw [Int.max_def]; split <;> split <;> omega
 rw [hE, hlo, hhi]
 clear hE ht hlo hhi
 simp (disch := omega) only [go_sem, ↓reduceIte]
 generalize (if gt p (b : Int) < gt p (a : Int) then gt p (b : Int) else gt p (a : Int)) = lo
 generalize (if gt p (a : Int) < gt p (b : Int) then gt p (b : Int) else gt p (a : Int)) = hi
 refine W_loop (fun i : Nat => ⟨[(0, .lst 1 (ints p)), (7, .int .i64 lo), (8, .int .i64 hi), (9, .sl 0 0 i), (10, .int .i64 i)], [(0, .arr 1 (ints ((p.take i).map fun k => if k = hi then lo else k)))], 1⟩) (fun i => i ≤ p.length) (fun i => p.length - i) 0 ?_ ?_ ?_
 ·simp (disch := omega) only [go_sem, ↓reduceIte, ints_nil]
  rfl
 ·simp
 ·intro i hi'
  have e1 : ((p.take i).map fun k => if k = hi then lo else k).length = i := by simp; omega
  simp (disch := omega) only [go_sem, ↓reduceIte, c_r02_Merge_b10]
  refine bran_dec (fun c => ?_) (fun c => ?_)
  ·simp (disch := omega) only [go_sem, ↓reduceIte]
   refine bran_dec (fun d => ?_) (fun d => ?_)
   ·simp (disch := omega) only [go_sem, ↓reduceIte, e1]
    exact ⟨i + 1, by rw [take_gt (by omega)]; simp [d], by omega, by omega⟩
   ·simp (disch := omega) only [go_sem, ↓reduceIte, e1]
    exact ⟨i + 1, by rw [take_gt (by omega)]; simp [d], by omega, by omega⟩
  ·obtain rfl : i = p.length := by omega
   rw [List.take_length] at e1
   simp (disch := omega) only [go_sem, ↓reduceIte, e1]
theorem w_r02_Valid (p : List Int) (hp : Pv p) : W P (c_r02_Valid F) (Done [.t 2] [] (.bool true) []) (init [.lst 1 (ints p)]) := by
 refine W_of ?_
 obtain ⟨hl, h⟩ := hp
 have g0 : decide ((80 : Int) < p.length) = false := decide_eq_false (by omega)
 simp (disch := omega) only [go_sem, ↓reduceIte, g0]
 refine W_loop (fun i : Nat => ⟨[(0, .lst 1 (ints p)), (3, .int .i64 i)], [], 0⟩) (fun i => i ≤ p.length) (fun i => p.length - i) 0 ?_ ?_ ?_
 ·simp (disch := omega) only [go_sem, ↓reduceIte]
  rfl
 ·simp
 ·intro i hi
  by_cases c : i < p.length
  ·obtain ⟨⟨h1, h2⟩, h3⟩ := h i c
   have g1 : decide ((i : Int) < p.length) = true := decide_eq_true (by omega)
   have g2 : decide (gt p i < 0) = false := decide_eq_false (by omega)
   have g3 : decide ((i : Int) < gt p i) = false := decide_eq_false (by omega)
   have g4 : decide (gt p (gt p i) = gt p i) = true := decide_eq_true h3
   simp (disch := omega) only [go_sem, ↓reduceIte, c_r02_Valid_b8, g1, g2, g3, g4]
   exact ⟨i + 1, by simp, by omega, by omega⟩
  ·have g1 : decide ((i : Int) < p.length) = false := decide_eq_false (by omega)
   simp (disch := omega) only [go_sem, ↓reduceIte, c_r02_Valid_b8, g1]
theorem w_r02_one (hv : K_r02_Valid P F) (p : List Int) (hp : Pv p) : W P (c_r02_one F) (Done [.t 2] [] (.int .i64 0) []) (init [.lst 1 (ints p)]) := by
 refine W_of ?_
 have r := hv p hp
 obtain ⟨hl, h⟩ := hp
 have g0 : decide ((80 : Int) < p.length) = false := decide_eq_false (by omega)
 simp (disch := omega) only [go_sem, ↓reduceIte, g0]
 refine call_by r ?_
 simp (disch := omega) only [go_sem, ↓reduceIte]
theorem w_r02_Quotient (ho : K_r02_one P F) (p : List Int) (hp : Pv p) : W P (c_r02_Quotient F) (Done [.t 2, .t 3, .t 4] [] (.tup [.arr 1 (ints (quo p p.length).1), .int .i64 (quo p p.length).2, .int .i64 0]) []) (init [.lst 1 (ints p)]) := by
 refine W_of ?_
 have r := ho p hp
 obtain ⟨hl, h⟩ := hp
 have ql : ∀ i : Nat, (quo p i).1.length = i ∧ (quo p i).2 ≤ i := fun i => by
  induction i with
  | zero => simp [quo]
  | succ i ih =>
   rw [quo]
   split <;> simp [ih.1] <;> omega
 simp (disch := omega) only [go_sem, ↓reduceIte]
 refine call_by r ?_
 simp (disch := omega) only [go_sem, ↓reduceIte]
 refine W_loop (fun i : Nat => ⟨[(0, .lst 1 (ints p)), (6, .sl 0 0 i), (7, .int .i64 (quo p i).2), (8, .int .i64 i)], [(0, .arr 1 (ints (quo p i).1))], 1⟩) (fun i => i ≤ p.length) (fun i => p.length - i) 0 ?_ ?_ ?_
 ·simp (disch := omega) only [go_sem, ↓reduceIte, ints_nil, quo]
  rfl
 ·simp
 ·intro i hi
  obtain ⟨e1, e2⟩ := ql i
  have hs : quo p (i + 1) = if gt p i = i then ((quo p i).1 ++ [((quo p i).2 : Int)], (quo p i).2 + 1) else ((quo p i).1 ++ [gt (quo p i).1 (gt p i)], (quo p i).2) := rfl
  simp (disch := omega) only [go_sem, ↓reduceIte, c_r02_Quotient_b13]
  refine bran_dec (fun c => ?_) (fun c => ?_)
  ·obtain ⟨⟨h1, h2⟩, h3⟩ := h i (by omega)
   simp (disch := omega) only [go_sem, ↓reduceIte]
   refine bran_dec (fun d => ?_) (fun d => ?_)
   ·rw [if_pos d] at hs
    simp (disch := omega) only [go_sem, ↓reduceIte, e1]
    exact ⟨i + 1, by simp [hs], by omega, by omega⟩
   ·rw [if_neg d] at hs
    simp (disch := omega) only [go_sem, ↓reduceIte, e1]
    exact ⟨i + 1, by simp [hs], by omega, by omega⟩
  ·obtain rfl : i = p.length := by omega
   simp (disch := omega) only [go_sem, ↓reduceIte, e1]
end
section
theorem setL_eq {α : Type} [Inhabited α] {l : List α} {q : List Int} {z w : List α} {n : Nat} (hz : z.length = w.length) (h : ∀ i : Nat, i < n → 0 ≤ gt q i ∧ gt w (gt q i) = gt l i) (hc : ∀ k : Nat, k < w.length → ∃ i : Nat, i < n ∧ gt q i = k) : setL l q z n = w := by
 refine list_ext_gt (by rw [setL_len, hz]) fun k hk => ?_
 rw [setL_len] at hk
 rcases setL_gt h k hk with e | ⟨_, e⟩
 ·exact e
 ·obtain ⟨i, hi, hi2⟩ := hc k (by omega)
  exact absurd hi2 (e i hi)
end
@[go_sem] def c_r02_Generate_r0 : LL := [qn 4 1,qi 5 0]
@[go_sem] def c_r02_Generate_r1 : LL := [qm 9 0,qk .gtr 10 9 80]
@[go_sem] def c_r02_Generate_r2 : LL := [qn 4 1,qi 5 3]
@[go_sem] def c_r02_Generate_r3 : LL := [qm 11 0,qk .lss 12 11 0]
@[go_sem] def c_r02_Generate_r4 : LL := [qn 4 1,qi 5 6]
@[go_sem] def c_r02_Generate_r5 : LL := [qi 6 0]
@[go_sem] def c_r02_Generate_r6 : LL := [qm 13 6,qm 14 1,qz 15 14,qo .lss 16 13 15]
@[go_sem] def c_r02_Generate_r7 : LL := [qm 19 1,qm 20 6,qd 21 2 19 20,qf 22 0 21,ql 23 1 22,qk .lss 24 23 0,qm 25 24,qg 25 false (qm 26 1),qg 25 false (qm 27 6),qg 25 false (qd 28 2 26 27),qg 25 false (qf 29 0 28),
 qg 25 false (ql 30 1 29),qg 25 false (qm 31 0),qg 25 false (qo .geq 32 30 31),qQ 33 25 32,qm 34 33,qg 34 false (qm 35 1),qg 34 false (qm 36 6),qg 34 false (qd 37 2 35 36),
 qg 34 false (qf 38 1 37),qg 34 false (ql 39 1 38),qg 34 false (qk .lss 40 39 0),qQ 41 34 40,qm 42 41,qg 42 false (qm 43 1),qg 42 false (qm 44 6),qg 42 false (qd 45 2 43 44),
 qg 42 false (qf 46 1 45),qg 42 false (ql 47 1 46),qg 42 false (qm 48 0),qg 42 false (qo .geq 49 47 48),qQ 50 42 49]
@[go_sem] def c_r02_Generate_r8 : LL := [qn 4 1,qi 5 6]
@[go_sem] def c_r02_Generate_r9 : LL := [qm 17 6,qk .add 18 17 1,qm 6 18]
def c_r02_Generate_b10 : LC := (.seq (.seq (.reg c_r02_Generate_r6 [0,1,6,16]) (.cond (.t 16) .skip (.exit 0))) (.seq (.block 1 (.seq (.reg c_r02_Generate_r7 [0,1,6,50]) (.cond (.t 50) (.seq (.reg c_r02_Generate_r8 [4,5]) .ret) .skip))) (.reg c_r02_Generate_r9 [0,1,6])))
@[go_sem] def c_r02_Generate_r11 (F : Fn) : LL := [qm 51 0,qc 52 (F "r02.Finest") [.t 51],qm 7 52]
@[go_sem] def c_r02_Generate_r12 : LL := [qi 8 0]
@[go_sem] def c_r02_Generate_r13 : LL := [qm 53 8,qm 54 1,qz 55 54,qo .lss 56 53 55]
@[go_sem] def c_r02_Generate_r14 (F : Fn) : LL := [qm 59 7,qm 60 1,qm 61 8,qd 62 2 60 61,qf 63 0 62,ql 64 1 63,qm 65 1,qm 66 8,qd 67 2 65 66,qf 68 1 67,ql 69 1 68,qc 70 (F "r02.Merge") [.t 59,.t 64,.t 69],qm 7 70]
@[go_sem] def c_r02_Generate_r15 : LL := [qm 57 8,qk .add 58 57 1,qm 8 58]
def c_r02_Generate_b16 (F : Fn) : LC := (.seq (.seq (.reg c_r02_Generate_r13 [1,7,8,56]) (.cond (.t 56) .skip (.exit 2))) (.seq (.block 3 (.dreg [] (c_r02_Generate_r14 F) [1,7,8])) (.reg c_r02_Generate_r15 [1,7,8])))
@[go_sem] def c_r02_Generate_r17 : LL := [qm 71 7,qm 4 71,qi 5 0]
@[go_sem] def c_r02_Generate (F : Fn) : LC := (.seq (.reg c_r02_Generate_r0 [0,1]) (.seq (.seq (.reg c_r02_Generate_r1 [0,1,10]) (.cond (.t 10) (.seq (.reg c_r02_Generate_r2 [4,5]) .ret) .skip)) (.seq (.seq (.reg c_r02_Generate_r3 [0,1,12]) (.cond (.t 12) (.seq (.reg c_r02_Generate_r4 [4,5]) .ret) .skip)) (.seq (.seq (.reg c_r02_Generate_r5 [0,1,6]) (.block 0 (.loop [0,1,6] c_r02_Generate_b10))) (.seq (.reg (c_r02_Generate_r11 F) [1,7]) (.seq (.seq (.reg c_r02_Generate_r12 [1,7,8]) (.block 2 (.loop [1,7,8] (c_r02_Generate_b16 F)))) (.seq (.reg c_r02_Generate_r17 [4,5]) .ret)))))))
def h_r02_Generate : Hints := hn [] [(0,[0,1]),(1,[0,1,10]),(2,[4,5]),(3,[0,1,12]),(4,[4,5]),(5,[0,1,6]),(6,[0,1,6,16]),(7,[0,1,6]),(8,[0,1,6,50]),(9,[4,5]),(10,[1,7]),(11,[1,7,8]),(12,[1,7,8,56]),(13,[1,7,8]),(14,[1,7,8]),(15,[4,5])] [(6,[0,1,6]),(12,[1,7,8])]
section
variable (P : Program) (F : String → Nat)
def K_r02_Generate : Prop := ∀ (n : Nat) (l : List Pr), n ≤ 80 → l.length ≤ 1000 → PrIn n l → FC P (F "r02.Generate") [.int .i64 n, .lst 2 (prs l)] (.tup [.arr 1 (ints (genL n l)), .int .i64 0]) []
end
section
variable {P : Program} {F : String → Nat} {α : Type}
theorem w_r02_Generate (hf : K_r02_Finest P F) (hm : K_r02_Merge P F) (n : Nat) (l : List Pr) (hn : n ≤ 80) (hl : l.length ≤ 1000) (hp : PrIn n l) :
  W P (c_r02_Generate F) (Done [.t 4, .t 5] [] (.tup [.arr 1 (ints (genL n l)), .int .i64 0]) []) (init [.int .i64 n, .lst 2 (prs l)]) := by
 refine W_of ?_
 have d1 : decide ((80 : Int) < n) = false := decide_eq_false (by omega)
 have d2 : decide ((n : Int) < 0) = false := decide_eq_false (by omega)
 have r1 := hf n (by omega)
 have nl := nums_len 0 n
 have gl := gen_len (n := n) (l := l)
 simp (disch := omega) only [go_sem, ↓reduceIte, d1, d2]
 refine W_loop (fun i : Nat => ⟨[(0, .int .i64 n), (1, .lst 2 (prs l)), (6, .int .i64 i)], [], 0⟩) (fun i => i ≤ l.length) (fun i => l.length - i) 0 ?_ ?_ ?_
 ·simp (disch := omega) only [go_sem, ↓reduceIte]
  rfl
 ·simp
 ·intro i hi
  by_cases c : i < l.length
  ·have g1 : decide ((i : Int) < l.length) = true := decide_eq_true (by omega)
   obtain ⟨⟨a1, a2⟩, b1, b2⟩ := hp i c
   have e1 : decide ((gt l i).a < 0) = false := decide_eq_false (by omega)
   have e2 : decide ((n : Int) ≤ (gt l i).a) = false := decide_eq_false (by omega)
   have e3 : decide ((gt l i).b < 0) = false := decide_eq_false (by omega)
   have e4 : decide ((n : Int) ≤ (gt l i).b) = false := decide_eq_false (by omega)
   simp (disch := omega) only [go_sem, ↓reduceIte, c_r02_Generate_b10, g1, e1, e2, e3, e4]
   exact ⟨i + 1, by simp, by omega, by omega⟩
  ·have g1 : decide ((i : Int) < l.length) = false := decide_eq_false (by omega)
   simp (disch := omega) only [go_sem, ↓reduceIte, c_r02_Generate_b10, g1]
   refine call_by r1 ?_
   simp (disch := omega) only [go_sem, ↓reduceIte, nl]
   refine W_loop (fun i : Nat => ⟨[(1, .lst 2 (prs l)), (7, .sl 0 0 n), (8, .int .i64 i)], [(0, .arr 1 (ints (genI n l i)))], 1⟩) (fun i => i ≤ l.length) (fun i => l.length - i) 0 ?_ ?_ ?_
   ·simp (disch := omega) only [go_sem, ↓reduceIte, genI, nl]
    rfl
   ·simp
   ·intro i hi
    have gli := gl i
    by_cases c : i < l.length
    ·have g1 : decide ((i : Int) < l.length) = true := decide_eq_true (by omega)
     obtain ⟨⟨a1, a2⟩, b1, b2⟩ := hp i c
     have hs : genI n l (i + 1) = mergeL (genI n l i) (gt l i).a (gt l i).b := rfl
     obtain ⟨a, ha⟩ := natI a1
     obtain ⟨b, hb⟩ := natI b1
     rw [ha, hb] at hs
     rw [ha] at a1 a2
     rw [hb] at b1 b2
     have r2 := hm (genI n l i) a b (by omega) (by omega) (by omega)
     rw [← hs] at r2
     have gls := gl (i + 1)
     clear hs
     simp (disch := omega) only [go_sem, ↓reduceIte, c_r02_Generate_b16, g1, ha, hb, gli]
     refine call_by r2 ?_
     simp (disch := omega) only [go_sem, ↓reduceIte, gls]
     exact ⟨i + 1, by simp, by omega, by omega⟩
    ·have g1 : decide ((i : Int) < l.length) = false := decide_eq_false (by omega)
     obtain rfl : i = l.length := by omega
     have hE : genL n l = genI n l l.length := rfl
     rw [hE]
     simp (disch := omega) only [go_sem, ↓reduceIte, c_r02_Generate_b16, g1, gli]
end
@[go_sem] def c_r10_pairs_r0 : LL := [qn 4 2]
@[go_sem] def c_r10_pairs_r1 : LL := [qn 5 2]
@[go_sem] def c_r10_pairs_r2 : LL := [qi 6 0]
@[go_sem] def c_r10_pairs_r3 : LL := [qm 7 6,qm 8 0,qz 9 8,qo .lss 10 7 9]
@[go_sem] def c_r10_pairs_r4 : LL := [qm 13 5,qm 14 0,qm 15 6,qd 16 1 14 15,ql 17 1 16,qm 18 1,qm 19 6,qd 20 1 18 19,ql 21 1 20,qu 22 [.int .i64 (0),.int .i64 (0)] [(0,1,.t 17),(1,1,.t 21)],
 ⟨some 23,.buildSl 2 16 (.agg [.int .i64 (0),.int .i64 (0)]) 1 [(0,.t 22)],none⟩,qp 24 2 16 13 23,qm 5 24]
@[go_sem] def c_r10_pairs_r5 : LL := [qm 11 6,qk .add 12 11 1,qm 6 12]
def c_r10_pairs_b6 : LC := (.seq (.seq (.reg c_r10_pairs_r3 [0,1,5,6,10]) (.cond (.t 10) .skip (.exit 0))) (.seq (.block 1 (.dreg [] c_r10_pairs_r4 [0,1,5,6])) (.reg c_r10_pairs_r5 [0,1,5,6])))
@[go_sem] def c_r10_pairs_r7 : LL := [qm 25 5,qm 4 25]
@[go_sem] def c_r10_pairs (F : Fn) : LC := (.seq (.reg c_r10_pairs_r0 [0,1]) (.seq (.reg c_r10_pairs_r1 [0,1,5]) (.seq (.seq (.reg c_r10_pairs_r2 [0,1,5,6]) (.block 0 (.loop [0,1,5,6] c_r10_pairs_b6))) (.seq (.reg c_r10_pairs_r7 [4]) .ret))))
def h_r10_pairs : Hints := hOf [] (c_r10_pairs fun _ => 0)
@[go_sem] def c_r10_Quotient_r0 : LL := [qB 3 0,qa 6 [.nl 1,.nl 3],qa 7 [.nl 1,.nl 1]]
@[go_sem] def c_r10_Quotient_r1 (F : Fn) : LL := [qm 18 1,qc 19 (F "r02.Quotient") [.t 18],qm 17 19,qx 20 17 0,qx 21 17 1,qx 22 17 2,qm 8 20,qm 9 21,qm 10 22]
@[go_sem] def c_r10_Quotient_r2 (F : Fn) : LL := [qm 24 2,qc 25 (F "r02.Quotient") [.t 24],qm 23 25,qx 26 23 0,qx 27 23 1,qx 28 23 2,qm 11 26,qm 12 27,qm 13 28]
@[go_sem] def c_r10_Quotient_r3 : LL := [qm 29 9,⟨some 30,.makeSl 1 8 (.int .i64 (0)) (.t 29),none⟩,qm 31 12,⟨some 32,.makeSl 3 24 (.agg [.int .i64 (0),.int .i64 (0),.int .i64 (0)]) (.t 31),none⟩,
 qu 33 [.nl 1,.nl 3] [(0,1,.t 30),(1,1,.t 32)],qa 14 [.nl 1,.nl 3],qs 2 14 33]
@[go_sem] def c_r10_Quotient_r4 : LL := [qi 15 0]
@[go_sem] def c_r10_Quotient_r5 : LL := [qm 34 15,qf 35 0 3,ql 36 1 35,qz 37 36,qo .lss 38 34 37]
@[go_sem] def c_r10_Quotient_r6 : LL := [qf 41 0 14,ql 42 1 41,qm 43 8,qm 44 15,qd 45 1 43 44,ql 46 1 45,qf 47 0 3,ql 48 1 47,qm 49 15,qd 50 1 48 49,ql 51 1 50,qd 52 1 42 46,qs 1 52 51]
@[go_sem] def c_r10_Quotient_r7 : LL := [qm 39 15,qk .add 40 39 1,qm 15 40]
def c_r10_Quotient_b8 : LC := (.seq (.seq (.reg c_r10_Quotient_r5 [3,6,7,8,11,14,15,38]) (.cond (.t 38) .skip (.exit 0))) (.seq (.block 1 (.dreg [] c_r10_Quotient_r6 [3,6,7,8,11,14,15])) (.reg c_r10_Quotient_r7 [3,6,7,8,11,14,15])))
@[go_sem] def c_r10_Quotient_r9 : LL := [qi 16 0]
@[go_sem] def c_r10_Quotient_r10 : LL := [qm 53 16,qf 54 1 3,ql 55 1 54,qz 56 55,qo .lss 57 53 56]
@[go_sem] def c_r10_Quotient_r11 : LL := [qf 60 1 14,ql 61 1 60,qm 62 11,qm 63 16,qd 64 1 62 63,ql 65 1 64,qf 66 1 3,ql 67 1 66,qm 68 16,qd 69 3 67 68,qf 70 0 69,ql 71 1 70,qm 72 8,qf 73 1 3,ql 74 1 73,qm 75 16,
 qd 76 3 74 75,qf 77 1 76,ql 78 1 77,qd 79 1 72 78,ql 80 1 79,qm 81 8,qf 82 1 3,ql 83 1 82,qm 84 16,qd 85 3 83 84,qf 86 2 85,ql 87 1 86,qd 88 1 81 87,ql 89 1 88,
 qu 90 [.int .i64 (0),.int .i64 (0),.int .i64 (0)] [(0,1,.t 71),(1,1,.t 80),(2,1,.t 89)],qd 91 3 61 65,qs 3 91 90]
@[go_sem] def c_r10_Quotient_r12 : LL := [qm 58 16,qk .add 59 58 1,qm 16 59]
def c_r10_Quotient_b13 : LC := (.seq (.seq (.reg c_r10_Quotient_r10 [3,6,7,8,11,14,16,57]) (.cond (.t 57) .skip (.exit 2))) (.seq (.block 3 (.dreg [] c_r10_Quotient_r11 [3,6,7,8,11,14,16])) (.reg c_r10_Quotient_r12 [3,6,7,8,11,14,16])))
@[go_sem] def c_r10_Quotient_r14 : LL := [qL 92 2 14,qm 93 8,qm 94 11,qu 95 [.nl 1,.nl 1] [(0,1,.t 93),(1,1,.t 94)],qs 2 6 92,qs 2 7 95]
@[go_sem] def c_r10_Quotient (F : Fn) : LC := (.seq (.reg c_r10_Quotient_r0 [1,2,3,6,7]) (.seq (.reg (c_r10_Quotient_r1 F) [2,3,6,7,8,9]) (.seq (.reg (c_r10_Quotient_r2 F) [3,6,7,8,9,11,12]) (.seq (.dreg [] c_r10_Quotient_r3 [3,6,7,8,11,14]) (.seq (.seq (.reg c_r10_Quotient_r4 [3,6,7,8,11,14,15]) (.block 0 (.loop [3,6,7,8,11,14,15] c_r10_Quotient_b8))) (.seq (.seq (.reg c_r10_Quotient_r9 [3,6,7,8,11,14,16]) (.block 2 (.loop [3,6,7,8,11,14,16] c_r10_Quotient_b13))) (.seq (.reg c_r10_Quotient_r14 [6,7]) .ret)))))))
def h_r10_Quotient : Hints := hOf [] (c_r10_Quotient fun _ => 0)
@[go_sem] def c_r10_glue_r0 : LL := [qB 3 0,qB 4 1,qB 5 2,qa 6 [.nl 1,.nl 3],qa 7 [.nl 1,.nl 1]]
@[go_sem] def c_r10_glue_r1 (F : Fn) : LL := [qf 13 0 3,ql 14 1 13,qz 15 14,qf 16 0 4,ql 17 1 16,qf 18 0 5,ql 19 1 18,qc 20 (F "r10.pairs") [.t 17,.t 19],qc 21 (F "r02.Generate") [.t 15,.t 20],qm 12 21,qx 22 12 0,qx 23 12 1,qm 8 22,qm 9 23]
@[go_sem] def c_r10_glue_r2 (F : Fn) : LL := [qf 25 1 3,ql 26 1 25,qz 27 26,qf 28 1 4,ql 29 1 28,qf 30 1 5,ql 31 1 30,qc 32 (F "r10.pairs") [.t 29,.t 31],qc 33 (F "r02.Generate") [.t 27,.t 32],qm 24 33,qx 34 24 0,qx 35 24 1,qm 10 34,qm 11 35]
@[go_sem] def c_r10_glue_r3 (F : Fn) : LL := [qL 36 2 3,qm 37 8,qm 38 10,qc 39 (F "r10.Quotient") [.t 36,.t 37,.t 38],qx 40 39 0,qx 41 39 1,qs 2 6 40,qs 2 7 41]
@[go_sem] def c_r10_glue (F : Fn) : LC := (.seq (.reg c_r10_glue_r0 [3,4,5,6,7]) (.seq (.dreg [(1,none,[],true),(7,none,[1],false)] (c_r10_glue_r1 F) [3,4,5,6,7,8]) (.seq (.dreg [(1,none,[],true),(7,none,[1],false)] (c_r10_glue_r2 F) [3,6,7,8,10]) (.seq (.reg (c_r10_glue_r3 F) [6,7]) .ret))))
def h_r10_glue : Hints := hOf [] (c_r10_glue fun _ => 0)
section
variable (P : Program) (F : String → Nat)
def K_r10_pairs : Prop := ∀ (f g : List Int), f.length ≤ 1000 → g.length = f.length → FC P (F "r10.pairs") [.lst 1 (ints f), .lst 1 (ints g)] (.arr 2 (prs (prL f g f.length))) []
def K_r10_Quotient : Prop := ∀ (g : G) (p r : List Int), validG g = 0 → Cong g p r → FC P (F "r10.Quotient") [gD g, .lst 1 (ints p), .lst 1 (ints r)] (.tup [gA (quoG g p r), mA (quoM p r)]) []
def K_r10_glue : Prop := ∀ (a g : G) (f h : Mo), MOk a g f → MOk a g h → FC P (F "r10.glue") [gD g, mD f, mD h] (.tup [gA (gluG g f h), mA (gluM g f h)]) []
end
section
variable {P : Program} {F : String → Nat} {α : Type}
theorem w_r10_pairs (f g : List Int) (hf : f.length ≤ 1000) (hg : g.length = f.length) : W P (c_r10_pairs F) (Done [.t 4] [] (.arr 2 (prs (prL f g f.length))) []) (init [.lst 1 (ints f), .lst 1 (ints g)]) := by
 refine W_of ?_
 have e1 := prL_len f g
 have e0 : prL f g 0 = [] := rfl
 have e2 := prL_succ f g
 generalize prL f g = pl at *
 simp (disch := omega) only [go_sem, ↓reduceIte]
 refine W_loop (fun i : Nat => ⟨[(0, .lst 1 (ints f)), (1, .lst 1 (ints g)), (5, .sl 0 0 i), (6, .int .i64 i)], [(0, .arr 2 (prs (pl i)))], 1⟩) (fun i => i ≤ f.length) (fun i => f.length - i) 0 ?_ ?_ ?_
 ·simp (disch := omega) only [go_sem, ↓reduceIte, e0]
  rfl
 ·simp
 ·intro i hi
  have e1i := e1 i
  by_cases c : i < f.length
  ·have g1 : decide ((i : Int) < f.length) = true := decide_eq_true (by omega)
   simp (disch := omega) only [go_sem, ↓reduceIte, c_r10_pairs_b6, g1, hg, e1i]
   exact ⟨i + 1, by simp [e2 i], by omega, by omega⟩
  ·have g1 : decide ((i : Int) < f.length) = false := decide_eq_false (by omega)
   obtain rfl : i = f.length := by omega
   simp (disch := omega) only [go_sem, ↓reduceIte, c_r10_pairs_b6, g1, e1i]
set_option maxRecDepth 100000 in
set_option maxHeartbeats 4000000 in
theorem w_r10_Quotient (hq : K_r02_Quotient P F) (g : G) (p r : List Int) (hv : validG g = 0) (hc : Cong g p r) :
  W P (c_r10_Quotient F) (Done [.c 6 true 2, .c 7 true 2] [] (.tup [gA (quoG g p r), mA (quoM p r)]) []) (init [gD g, .lst 1 (ints p), .lst 1 (ints r)]) := by
 refine W_of ?_
 have vs := valid_spec hv
 have hpl := hc.pl
 have hrl := hc.rl
 have r3 := hq p ⟨by omega, hc.ph⟩
 have r4 := hq r ⟨by omega, hc.rh⟩
 have q1 := quo_QS hc.ph _ (Nat.le_refl _)
 have q2 := quo_QS hc.rh _ (Nat.le_refl _)
 have eN : setL g.n (quo p p.length).1 (List.replicate (quo p p.length).2 0) g.n.length = qN g.n p p.length := by
  refine setL_eq (by simp [qN_len]) (fun i hi => ⟨(q1.b i (by omega)).1, qN_all hc.ph (Nat.le_refl _) hc.pt (by omega)⟩) fun k hk => ?_
  rw [qN_len] at hk
  obtain ⟨i, h1, _, h3⟩ := q1.s k hk
  exact ⟨i, by omega, h3⟩
 have eE : setL (reE (quo p p.length).1 g.e) (quo r r.length).1 (List.replicate (quo r r.length).2 ⟨0, 0, 0⟩) g.e.length = qN (reE (quo p p.length).1 g.e) r r.length := by
  refine setL_eq (by simp [qN_len]) (fun i hi => ⟨(q2.b i (by omega)).1, qN_all hc.rh (Nat.le_refl _) hc.rt (by omega)⟩) fun k hk => ?_
  rw [qN_len] at hk
  obtain ⟨i, h1, _, h3⟩ := q2.s k hk
  exact ⟨i, by omega, h3⟩
 unfold quoG quoM
 rw [← eN, ← eE]
 clear eN eE
 have hb1 := q1.b
 have hl1 := q1.l
 have hc1 := q1.c
 have hb2 := q2.b
 have hl2 := q2.l
 have hc2 := q2.c
 clear q1 q2
 rw [hpl] at r3 hb1 hl1 hc1 ⊢
 rw [hrl] at r4 hb2 hl2 hc2 ⊢
 generalize (quo p g.n.length).1 = q at *
 generalize (quo p g.n.length).2 = qc at *
 generalize (quo r g.e.length).1 = qe at *
 generalize (quo r g.e.length).2 = qec at *
 have hef : ∀ i : Nat, i < g.e.length → (0 ≤ (gt g.e i).f ∧ (gt g.e i).f < g.n.length) ∧ (0 ≤ (gt g.e i).o ∧ (gt g.e i).o < g.n.length) := fun i hi => (edge_fits hv (i := i) (by omega)).2
 have hr : ∀ i : Nat, i < g.e.length → gt (reE q g.e) i = ⟨(gt g.e i).t, gt q (gt g.e i).f, gt q (gt g.e i).o⟩ := fun i hi => reE_gt hi
 clear hc
 generalize reE q g.e = re at *
 obtain ⟨gn, ge⟩ := g
 simp only [gD, gA, mA] at *
 have lN : ∀ i, (setL gn q (List.replicate qc 0) i).length = qc := fun i => by rw [setL_len]; simp
 have lE : ∀ i, (setL re qe (List.replicate qec ⟨0, 0, 0⟩) i).length = qec := fun i => by rw [setL_len]; simp
 simp (disch := omega) only [go_sem, ↓reduceIte]
 refine call_by r3 ?_
 simp (disch := omega) only [go_sem, ↓reduceIte, hl1]
 refine call_by r4 ?_
 simp (disch := omega) only [go_sem, ↓reduceIte, hl1, hl2]
 refine W_loop (fun i : Nat => ⟨[(3, .pt 0 0), (6, .pt 3 0), (7, .pt 6 0), (8, .sl 7 0 gn.length), (11, .sl 8 0 ge.length), (14, .pt 11 0), (15, .int .i64 i)],
  [(0, .box [.lst 1 (ints gn), .lst 3 (eds ge)]), (1, .arr 1 []), (2, .arr 3 []), (3, .box [.sl 1 0 0, .sl 2 0 0]), (4, .arr 1 []), (5, .arr 1 []), (6, .box [.sl 4 0 0, .sl 5 0 0]), (7, .arr 1 (ints q)), (8, .arr 1 (ints qe)),
   (9, .arr 1 (ints (setL gn q (List.replicate qc 0) i))), (10, .arr 3 (eds (List.replicate qec ⟨0, 0, 0⟩))), (11, .box [.sl 9 0 qc, .sl 10 0 qec])], 12⟩) (fun i => i ≤ gn.length) (fun i => gn.length - i) 0 ?_ ?_ ?_
 ·simp (disch := omega) only [go_sem, ↓reduceIte, setL, hl1, hl2]
  rfl
 ·simp
 ·intro i hi
  have lNi := lN i
  by_cases c : i < gn.length
  ·have g1 : decide ((i : Int) < gn.length) = true := decide_eq_true (by omega)
   have hs : setL gn q (List.replicate qc 0) (i + 1) = (setL gn q (List.replicate qc 0) i).set (gt q i).toNat (gt gn i) := rfl
   obtain ⟨b1, b2⟩ := hb1 i c
   generalize setL gn q (List.replicate qc 0) i = sn at *
   simp (disch := omega) only [go_sem, ↓reduceIte, c_r10_Quotient_b8, g1, hl1, lNi]
   exact ⟨i + 1, by simp [hs], by omega, by omega⟩
  ·have g1 : decide ((i : Int) < gn.length) = false := decide_eq_false (by omega)
   obtain rfl : i = gn.length := by omega
   simp (disch := omega) only [go_sem, ↓reduceIte, c_r10_Quotient_b8, g1, hl1, hl2, lNi]
   generalize setL gn q (List.replicate qc 0) gn.length = on at *
   refine W_loop (fun i : Nat => ⟨[(3, .pt 0 0), (6, .pt 3 0), (7, .pt 6 0), (8, .sl 7 0 gn.length), (11, .sl 8 0 ge.length), (14, .pt 11 0), (16, .int .i64 i)],
    [(0, .box [.lst 1 (ints gn), .lst 3 (eds ge)]), (1, .arr 1 []), (2, .arr 3 []), (3, .box [.sl 1 0 0, .sl 2 0 0]), (4, .arr 1 []), (5, .arr 1 []), (6, .box [.sl 4 0 0, .sl 5 0 0]), (7, .arr 1 (ints q)), (8, .arr 1 (ints qe)),
     (9, .arr 1 (ints on)), (10, .arr 3 (eds (setL re qe (List.replicate qec ⟨0, 0, 0⟩) i))), (11, .box [.sl 9 0 qc, .sl 10 0 qec])], 12⟩) (fun i => i ≤ ge.length) (fun i => ge.length - i) 0 ?_ ?_ ?_
   ·simp (disch := omega) only [go_sem, ↓reduceIte, setL, hl1, hl2]
    rfl
   ·simp
   ·intro i hi
    have lEi := lE i
    by_cases c : i < ge.length
    ·have g1 : decide ((i : Int) < ge.length) = true := decide_eq_true (by omega)
     have hs : setL re qe (List.replicate qec ⟨0, 0, 0⟩) (i + 1) = (setL re qe (List.replicate qec ⟨0, 0, 0⟩) i).set (gt qe i).toNat (gt re i) := rfl
     rw [hr i c] at hs
     obtain ⟨⟨f1, f2⟩, o1, o2⟩ := hef i c
     obtain ⟨b1, b2⟩ := hb2 i c
     generalize setL re qe (List.replicate qec ⟨0, 0, 0⟩) i = se at *
     simp (disch := omega) only [go_sem, ↓reduceIte, c_r10_Quotient_b13, g1, hl1, hl2, lEi]
     exact ⟨i + 1, by simp [hs], by omega, by omega⟩
    ·have g1 : decide ((i : Int) < ge.length) = false := decide_eq_false (by omega)
     obtain rfl : i = ge.length := by omega
     simp (disch := omega) only [go_sem, ↓reduceIte, c_r10_Quotient_b13, g1, hl1, hl2, lNi, lEi]
     try rfl
theorem w_r10_glue (hp : K_r10_pairs P F) (hg : K_r02_Generate P F) (hq : K_r10_Quotient P F) (a g : G) (f h : Mo) (hf : MOk a g f) (hh : MOk a g h) :
  W P (c_r10_glue F) (Done [.c 6 true 2, .c 7 true 2] [] (.tup [gA (gluG g f h), mA (gluM g f h)]) []) (init [gD g, mD f, mD h]) := by
 refine W_of ?_
 have hc := glu_cong hf hh
 have va := valid_spec hf.va
 have vs := valid_spec hf.vb
 have f1 := hf.ln
 have f2 := hf.le
 have h1 := hh.ln
 have h2 := hh.le
 have p1 := hp f.n h.n (by omega) (by omega)
 have p2 := hp f.e h.e (by omega) (by omega)
 have g1 := hg g.n.length (prL f.n h.n f.n.length) (by omega) (by rw [prL_len]; omega) (glu_prN hf hh)
 have g2 := hg g.e.length (prL f.e h.e f.e.length) (by omega) (by rw [prL_len]; omega) (glu_prE hf hh)
 have r := hq g _ _ hf.vb hc
 have l1 : (gluN g f h).length = g.n.length := gluN_len
 have l2 : (gluE g f h).length = g.e.length := gluE_len
 rw [show genL g.n.length (prL f.n h.n f.n.length) = gluN g f h from rfl] at g1
 rw [show genL g.e.length (prL f.e h.e f.e.length) = gluE g f h from rfl] at g2
 rw [show quoG g (gluN g f h) (gluE g f h) = gluG g f h from rfl, show quoM (gluN g f h) (gluE g f h) = gluM g f h from rfl] at r
 have pl1 := prL_len f.n h.n f.n.length
 have pl2 := prL_len f.e h.e f.e.length
 generalize prL f.n h.n f.n.length = q1 at *
 generalize prL f.e h.e f.e.length = q2 at *
 generalize gluN g f h = gn' at *
 generalize gluE g f h = ge' at *
 generalize gluG g f h = gg at *
 generalize gluM g f h = gm at *
 clear hc vs va hf hh
 obtain ⟨gn, ge⟩ := g
 obtain ⟨fn, fe⟩ := f
 obtain ⟨hn, he⟩ := h
 obtain ⟨ggn, gge⟩ := gg
 obtain ⟨gmn, gme⟩ := gm
 simp only [gD, gA, mD, mA] at *
 simp (disch := omega) only [go_sem, ↓reduceIte]
 refine call_by p1 ?_
 simp (disch := omega) only [go_sem, ↓reduceIte, pl1, prs_length]
 refine call_by g1 ?_
 simp (disch := omega) only [go_sem, ↓reduceIte, l1]
 refine call_by p2 ?_
 simp (disch := omega) only [go_sem, ↓reduceIte, pl2, l1, prs_length]
 refine call_by g2 ?_
 simp (disch := omega) only [go_sem, ↓reduceIte, l1, l2]
 refine call_by r ?_
 simp (disch := omega) only [go_sem, ↓reduceIte]
 rfl
end
@[go_sem] def c_r05_Union_r0 : LL := [qB 2 0,qB 3 1,qa 4 [.nl 1,.nl 3],qa 5 [.nl 1,.nl 1],qa 6 [.nl 1,.nl 1],qi 7 0]
@[go_sem] def c_r05_Union_r1 (F : Fn) : LL := [qL 15 2 2,qc 16 (F "r05.Valid") [.t 15],qm 8 16]
@[go_sem] def c_r05_Union_r2 : LL := [qm 17 8,qk .neq 18 17 0]
@[go_sem] def c_r05_Union_r3 : LL := [qu 19 [.nl 1,.nl 3] [],qu 20 [.nl 1,.nl 1] [],qu 21 [.nl 1,.nl 1] [],qm 22 8,qs 2 4 19,qs 2 5 20,qs 2 6 21,qm 7 22]
@[go_sem] def c_r05_Union_r4 (F : Fn) : LL := [qL 23 2 3,qc 24 (F "r05.Valid") [.t 23],qm 9 24]
@[go_sem] def c_r05_Union_r5 : LL := [qm 25 9,qk .neq 26 25 0]
@[go_sem] def c_r05_Union_r6 : LL := [qu 27 [.nl 1,.nl 3] [],qu 28 [.nl 1,.nl 1] [],qu 29 [.nl 1,.nl 1] [],qm 30 9,qs 2 4 27,qs 2 5 28,qs 2 6 29,qm 7 30]
@[go_sem] def c_r05_Union_r7 : LL := [qf 31 0 2,ql 32 1 31,qz 33 32,qf 34 1 2,ql 35 1 34,qz 36 35,qm 10 33,qm 11 36]
@[go_sem] def c_r05_Union_r8 : LL := [qm 37 10,qf 38 0 3,ql 39 1 38,qz 40 39,qo .add 41 37 40,qk .gtr 42 41 40,qm 43 42,qg 43 false (qm 44 11),qg 43 false (qf 45 1 3),qg 43 false (ql 46 1 45),qg 43 false (qz 47 46),
 qg 43 false (qo .add 48 44 47),qg 43 false (qk .gtr 49 48 80),qQ 50 43 49]
@[go_sem] def c_r05_Union_r9 : LL := [qu 51 [.nl 1,.nl 3] [],qu 52 [.nl 1,.nl 1] [],qu 53 [.nl 1,.nl 1] [],qs 2 4 51,qs 2 5 52,qs 2 6 53,qi 7 3]
@[go_sem] def c_r05_Union_r10 (F : Fn) : LL := [qL 54 2 2,qc 55 (F "r05.Copied") [.t 54],qa 12 [.nl 1,.nl 3],qs 2 12 55]
@[go_sem] def c_r05_Union_r11 : LL := [qf 56 0 12,ql 57 1 56,qf 58 0 3,ql 59 1 58,qp 60 1 8 57 59,qf 61 0 12,qs 1 61 60]
@[go_sem] def c_r05_Union_r12 : LL := [qi 13 0]
@[go_sem] def c_r05_Union_r13 : LL := [qm 62 13,qf 63 1 3,ql 64 1 63,qz 65 64,qo .lss 66 62 65]
@[go_sem] def c_r05_Union_r14 : LL := [qf 69 1 3,ql 70 1 69,qm 71 13,qd 72 3 70 71,qL 73 3 72,qa 14 [.int .i64 (0),.int .i64 (0),.int .i64 (0)],qs 3 14 73]
@[go_sem] def c_r05_Union_r15 : LL := [qf 74 1 12,ql 75 1 74,qf 76 0 14,ql 77 1 76,qf 78 1 14,ql 79 1 78,qm 80 10,qo .add 81 79 80,qf 82 2 14,ql 83 1 82,qm 84 10,qo .add 85 83 84,
 qu 86 [.int .i64 (0),.int .i64 (0),.int .i64 (0)] [(0,1,.t 77),(1,1,.t 81),(2,1,.t 85)],
 ⟨some 87,.buildSl 3 24 (.agg [.int .i64 (0),.int .i64 (0),.int .i64 (0)]) 1 [(0,.t 86)],none⟩,qp 88 3 24 75 87,qf 89 1 12,qs 1 89 88]
@[go_sem] def c_r05_Union_r16 : LL := [qm 67 13,qk .add 68 67 1,qm 13 68]
def c_r05_Union_b17 : LC := (.seq (.seq (.reg c_r05_Union_r13 [3,4,5,6,10,11,12,13,66]) (.cond (.t 66) .skip (.exit 0))) (.seq (.block 1 (.seq (.reg c_r05_Union_r14 [3,4,5,6,10,11,12,13,14]) (.reg c_r05_Union_r15 [3,4,5,6,10,11,12,13]))) (.reg c_r05_Union_r16 [3,4,5,6,10,11,12,13])))
@[go_sem] def c_r05_Union_r18 (F : Fn) : LL := [qL 90 2 12,qm 91 10,qc 92 (F "r05.Numbers") [.k (.int .i64 (0)),.t 91],qm 93 11,qc 94 (F "r05.Numbers") [.k (.int .i64 (0)),.t 93],qu 95 [.nl 1,.nl 1] [(0,1,.t 92),(1,1,.t 94)],qm 96 10,qf 97 0 3,
 ql 98 1 97,qz 99 98,qc 100 (F "r05.Numbers") [.t 96,.t 99],qm 101 11,qf 102 1 3,ql 103 1 102,qz 104 103,qc 105 (F "r05.Numbers") [.t 101,.t 104],qu 106 [.nl 1,.nl 1] [(0,1,.t 100),(1,1,.t 105)],
 qs 2 4 90,qs 2 5 95,qs 2 6 106,qi 7 0]
@[go_sem] def c_r05_Union (F : Fn) : LC := (.seq (.reg c_r05_Union_r0 [2,3,4,5,6]) (.seq (.seq (.reg (c_r05_Union_r1 F) [2,3,4,5,6,8]) (.seq (.reg c_r05_Union_r2 [2,3,4,5,6,8,18]) (.cond (.t 18) (.seq (.reg c_r05_Union_r3 [4,5,6,7]) .ret) .skip))) (.seq (.seq (.reg (c_r05_Union_r4 F) [2,3,4,5,6,9]) (.seq (.reg c_r05_Union_r5 [2,3,4,5,6,9,26]) (.cond (.t 26) (.seq (.reg c_r05_Union_r6 [4,5,6,7]) .ret) .skip))) (.seq (.dreg [] c_r05_Union_r7 [2,3,4,5,6,10,11]) (.seq (.seq (.reg c_r05_Union_r8 [2,3,4,5,6,10,11,50]) (.cond (.t 50) (.seq (.reg c_r05_Union_r9 [4,5,6,7]) .ret) .skip)) (.seq (.reg (c_r05_Union_r10 F) [3,4,5,6,10,11,12]) (.seq (.reg c_r05_Union_r11 [3,4,5,6,10,11,12]) (.seq (.seq (.reg c_r05_Union_r12 [3,4,5,6,10,11,12,13]) (.block 0 (.loop [3,4,5,6,10,11,12,13] c_r05_Union_b17))) (.seq (.dreg [(0,none,[],true),(2,none,[0],true),(4,none,[0],true),(8,(some 128),[2,4],false),(10,none,[0],true),(13,(some 4096),[2,4,10],false),(15,none,[0],false)] (c_r05_Union_r18 F) [4,5,6,7]) .ret)))))))))
def h_r05_Union : Hints := hn [] [(0,[2,3,4,5,6]),(1,[2,3,4,5,6,8]),(2,[2,3,4,5,6,8,18]),(3,[4,5,6,7]),(4,[2,3,4,5,6,9]),(5,[2,3,4,5,6,9,26]),(6,[4,5,6,7]),(7,[2,3,4,5,6,10,11]),(8,[2,3,4,5,6,10,11,50]),(9,[4,5,6,7]),(10,[3,4,5,6,10,11,12]),(11,[3,4,5,6,10,11,12]),(12,[3,4,5,6,10,11,12,13]),(13,[3,4,5,6,10,11,12,13,66]),(14,[3,4,5,6,10,11,12,13]),(15,[3,4,5,6,10,11,12,13,14]),(16,[3,4,5,6,10,11,12,13]),(17,[4,5,6,7])] [(13,[3,4,5,6,10,11,12,13])]
section
variable (P : Program) (F : String → Nat)
def K_r05_Union : Prop := ∀ a b : G, FC P (F "r05.Union") [gD a, gD b] (uniD (uniG a b)) []
end
section
variable {P : Program} {F : String → Nat} {α : Type}
theorem w_r05_Union (hv : K_r05_Valid P F) (hcp : K_r05_Copied P F) (hn : K_r05_Numbers P F) (a b : G) : W P (c_r05_Union F) (Done [.c 4 true 2, .c 5 true 2, .c 6 true 2, .t 7] [] (uniD (uniG a b)) []) (init [gD a, gD b]) := by
 refine W_of ?_
 obtain ⟨an, ae⟩ := a
 obtain ⟨bn, be⟩ := b
 simp (disch := omega) only [go_sem, ↓reduceIte, gD]
 refine call_by (hv ⟨an, ae⟩) ?_
 simp (disch := omega) only [go_sem, ↓reduceIte]
 refine bran_ndec (fun c1 => ?_) (fun c1 => ?_)
 ·simp (disch := omega) only [go_sem, ↓reduceIte]
  simp [uniG, c1, uniD, gA, mA, ints, eds]
 ·obtain ⟨v1, v2, v3, v4⟩ := valid_spec c1
  simp only at v1 v2 v3 v4
  simp (disch := omega) only [go_sem, ↓reduceIte]
  refine call_by (hv ⟨bn, be⟩) ?_
  simp (disch := omega) only [go_sem, ↓reduceIte]
  refine bran_ndec (fun c2 => ?_) (fun c2 => ?_)
  ·simp (disch := omega) only [go_sem, ↓reduceIte]
   simp [uniG, c1, c2, uniD, gA, mA, ints, eds]
  ·obtain ⟨u1, u2, u3, u4⟩ := valid_spec c2
   simp only at u1 u2 u3 u4
   simp (disch := omega) only [go_sem, ↓reduceIte]
   have big : 40 < an.length + bn.length ∨ 80 < ae.length + be.length → uniG ⟨an, ae⟩ ⟨bn, be⟩ = (⟨[], []⟩, ⟨[], []⟩, ⟨[], []⟩, 3) := fun h => by
    simp only [uniG, c1, c2, ne_eq, not_true_eq_false, if_false, if_pos h]
   refine bran_dec (fun c3 => ?_) (fun c3 => ?_)
   ·simp (disch := omega) only [go_sem, ↓reduceIte, c3]
    rw [big (by omega)]
    simp [uniD, gA, mA, ints, eds]
   ·simp (disch := omega) only [go_sem, ↓reduceIte, c3]
    refine bran_dec (fun c4 => ?_) (fun c4 => ?_)
    ·simp (disch := omega) only [go_sem, ↓reduceIte]
     rw [big (by omega)]
     simp [uniD, gA, mA, ints, eds]
    ·have hg : uniG ⟨an, ae⟩ ⟨bn, be⟩ = (⟨an ++ bn, ae ++ be.map (shE1 an.length)⟩, ⟨nums 0 an.length, nums 0 ae.length⟩, ⟨nums an.length bn.length, nums ae.length be.length⟩, 0) := by
      simp only [uniG, c1, c2, ne_eq, not_true_eq_false, if_false]
      rw [if_neg (by omega)]
     have r := hcp ⟨an, ae⟩ (by simp only; omega) (by simp only; omega)
     simp only [gA, gD] at r
     simp (disch := omega) only [go_sem, ↓reduceIte]
     refine call_by r ?_
     simp (disch := omega) only [go_sem, ↓reduceIte]
     refine W_loop (fun i : Nat => ⟨[(3, D.pt 0 0), (4, D.pt 3 0), (5, D.pt 6 0), (6, D.pt 9 0), (10, D.int IntKind.i64 an.length),
       (11, D.int IntKind.i64 ae.length), (12, D.pt 12 0), (13, D.int IntKind.i64 i)],
      [(0, Ent.box [D.lst 1 (ints bn), D.lst 3 (eds be)]), (1, Ent.arr 1 []), (2, Ent.arr 3 []), (3, Ent.box [D.sl 1 0 0, D.sl 2 0 0]), (4, Ent.arr 1 []), (5, Ent.arr 1 []), (6, Ent.box [D.sl 4 0 0, D.sl 5 0 0]),
       (7, Ent.arr 1 []), (8, Ent.arr 1 []), (9, Ent.box [D.sl 7 0 0, D.sl 8 0 0]), (10, Ent.arr 1 (ints (an ++ bn))), (11, Ent.arr 3 (eds (ae ++ (be.take i).map (shE1 an.length)))),
       (12, Ent.box [D.sl 10 0 (an.length + bn.length), D.sl 11 0 (ae.length + i)])], 13⟩) (fun i => i ≤ be.length) (fun i => be.length - i) 0 ?_ ?_ ?_
     ·simp (disch := omega) only [go_sem, ↓reduceIte]
      simp
     ·omega
     ·intro i hi
      have el : (ae ++ (be.take i).map (shE1 an.length)).length = ae.length + i := by simp; omega
      simp (disch := omega) only [go_sem, ↓reduceIte, c_r05_Union_b17]
      refine bran_dec (fun c => ?_) (fun c => ?_)
      ·have hf := fits_spec (u4 _ (gt_mem (by omega) c))
       simp (disch := omega) only [go_sem, ↓reduceIte, el]
       exact ⟨i + 1, by rw [take_gt (by omega)]; simp [shE1, Nat.add_assoc], by omega, by omega⟩
      ·obtain rfl : i = be.length := by omega
       simp (disch := omega) only [go_sem, ↓reduceIte, el]
       refine call_by (hn _ _ (by omega) (by omega) (by omega)) ?_
       simp (disch := omega) only [go_sem, ↓reduceIte, nums_len]
       refine call_by (hn _ _ (by omega) (by omega) (by omega)) ?_
       simp (disch := omega) only [go_sem, ↓reduceIte, nums_len]
       refine call_by (hn _ _ (by omega) (by omega) (by omega)) ?_
       simp (disch := omega) only [go_sem, ↓reduceIte, nums_len]
       refine call_by (hn _ _ (by omega) (by omega) (by omega)) ?_
       simp (disch := omega) only [go_sem, ↓reduceIte, nums_len, List.length_map]
       rw [hg]
       simp [uniD, gA, mA]
end
section
section
variable {s : Sp}
theorem SOk.chk (hs : SOk s) : chkP s (poG s) (poP s) (poK s) = true := by
 have e : cocE s (poG s) (poP s) (poK s) = 0 := cocE_ok.2 ⟨hs, hs.p, hs.k, hs.comm⟩
 have hv := hs.q.vb
 have hi := idM_ok hv
 have h1 : ∀ {b : G} {m : Mo}, MOk b (poG s) m → thenM m (idM (poG s)) = m := fun {b m} hm => by
  have l1 := hm.ln
  have l2 := hm.le
  refine mo_ext (list_ext_gt (by simp only [thenM, thr_len]) fun i hi => ?_) (list_ext_gt (by simp only [thenM, thr_len]) fun i hi => ?_)
  ·simp only [thenM, thr_len] at hi ⊢
   obtain ⟨k, hk, hk2⟩ := gtI (hm.nd i (by omega)).1
   rw [thr_gt hi, hk2]; exact nums_gt hk
  ·simp only [thenM, thr_len] at hi ⊢
   obtain ⟨k, hk, hk2⟩ := gtI (hm.ed i (by omega)).1
   rw [thr_gt hi, hk2]; exact nums_gt hk
 have hu := hs.medU hi
 rw [h1 hs.p, h1 hs.k] at hu
 unfold chkP
 rw [e, hu, idM_inj hv, idM_sur hv]
 rfl
end
end
end Go.Am
