/- The search for isomorphisms: the edges, walked. -/
import Derived.Test.YtmkhlefohbfekaaSpPa
import Derived.Test.YtmkhlefohbfekaaSpPb
namespace Go.Am
open Go
set_option linter.unusedVariables false
set_option linter.unusedSimpArgs false
attribute [local irreducible] W
@[go_sem] def c_iso_search_edges_r0 : LL := [qm 11 0,qf 12 0 11,qf 13 6 12,ql 14 1 13,qz 15 14,qm 16 0,qf 17 0 16,qf 18 5 17,ql 19 1 18,qo .gtr 20 15 19]
@[go_sem] def c_iso_search_edges_r1 : LL := [qm 21 2,qz 22 21,qm 6 22]
@[go_sem] def c_iso_search_edges_r2 : LL := [qm 23 6,qm 24 0,qf 25 0 24,qf 26 0 25,qf 27 1 26,ql 28 1 27,qz 29 28,qo .eql 30 23 29]
@[go_sem] def c_iso_search_edges_r3 (F : Fn) : LL := [qm 31 0,qm 32 0,qf 33 0 32,qf 34 6 33,ql 35 1 34,qm 36 1,qc 37 (F "slices.Clone.I") [.t 36],qm 38 2,qc 39 (F "slices.Clone.I") [.t 38],qu 40 [.nl 1,.nl 1] [(0,1,.t 37),(1,1,.t 39)],
 ⟨some 41,.buildSl 2 48 (.agg [.lst 1 [],.lst 1 []]) 1 [(0,.t 40)],none⟩,qp 42 2 48 35 41,qf 43 0 31,qf 44 6 43,qs 1 44 42]
@[go_sem] def c_iso_search_edges_r4 : LL := [qm 45 0,qf 46 0 45,qf 47 0 46,qf 48 1 47,ql 49 1 48,qm 50 6,qd 51 3 49 50,qL 52 3 51,qa 7 [.int .i64 (0),.int .i64 (0),.int .i64 (0)],qs 3 7 52]
@[go_sem] def c_iso_search_edges_r5 : LL := [qf 53 0 7,ql 54 1 53,qm 55 1,qf 56 1 7,ql 57 1 56,qd 58 1 55 57,ql 59 1 58,qm 60 1,qf 61 2 7,ql 62 1 61,qd 63 1 60 62,ql 64 1 63,
 qu 65 [.int .i64 (0),.int .i64 (0),.int .i64 (0)] [(0,1,.t 54),(1,1,.t 59),(2,1,.t 64)],qa 8 [.int .i64 (0),.int .i64 (0),.int .i64 (0)],qs 3 8 65]
@[go_sem] def c_iso_search_edges_r6 : LL := [qm 66 0,qf 67 0 66,qf 68 2 67,qf 69 1 68,ql 70 1 69,qz 71 70,qi 72 0]
@[go_sem] def c_iso_search_edges_r7 : LL := [qo .lss 73 72 71]
@[go_sem] def c_iso_search_edges_r8 : LL := [qm 74 72,qd 75 3 70 72,qL 76 3 75,qa 10 [.int .i64 (0),.int .i64 (0),.int .i64 (0)],qm 9 74,qs 3 10 76]
@[go_sem] def c_iso_search_edges_r9 (F : Fn) : LL := [qL 77 3 10,qL 78 3 8,⟨some 79,.eqA 3 false (.t 77) (.t 78),none⟩,qm 80 79,qg 80 true (qm 81 2),qg 80 true (qm 82 9),qg 80 true (qc 83 (F "slices.Contains.I") [.t 81,.t 82]),qg 80 true (qv 84 83),
 qP 85 80 84]
@[go_sem] def c_iso_search_edges_r10 (F : Fn) : LL := [qm 86 0,qm 87 1,qm 88 2,qc 89 (F "slices.Clone.I") [.t 88],qm 90 9,⟨some 91,.buildSl 1 8 (.int .i64 (0)) 1 [(0,.t 90)],none⟩,qp 92 1 8 89 91,
 ⟨some 93,.call (F "iso.search.edges") [.t 86,.t 87,.t 92] [.mp,.rd,.rd],none⟩]
@[go_sem] def c_iso_search_edges_r11 : LL := [qk .add 94 72 1,qm 72 94]
def c_iso_search_edges_b12 (F : Fn) : LC := (.seq (.reg c_iso_search_edges_r7 [0,1,2,8,70,71,72,73]) (.seq (.cond (.t 73) .skip (.exit 0)) (.seq (.block 1 (.seq (.reg c_iso_search_edges_r8 [0,1,2,8,9,10,70,71,72]) (.seq (.reg (c_iso_search_edges_r9 F) [0,1,2,8,9,70,71,72,85]) (.cond (.t 85) (.reg (c_iso_search_edges_r10 F) [0,1,2,8,70,71,72]) .skip)))) (.reg c_iso_search_edges_r11 [0,1,2,8,70,71,72]))))
@[go_sem] def c_iso_search_edges (F : Fn) : LC := (.seq (.seq (.dreg [] c_iso_search_edges_r0 [0,1,2,20]) (.cond (.t 20) .ret .skip)) (.seq (.reg c_iso_search_edges_r1 [0,1,2,6]) (.seq (.seq (.reg c_iso_search_edges_r2 [0,1,2,6,30]) (.cond (.t 30) (.seq (.dreg [(4,none,[],true),(6,none,[4],false),(8,none,[4],false),(10,none,[4],false)] (c_iso_search_edges_r3 F) [0]) .ret) .skip)) (.seq (.reg c_iso_search_edges_r4 [0,1,2,7]) (.seq (.dreg [] c_iso_search_edges_r5 [0,1,2,8]) (.seq (.reg c_iso_search_edges_r6 [0,1,2,8,70,71,72]) (.block 0 (.loop [0,1,2,8,70,71,72] (c_iso_search_edges_b12 F)))))))))
def h_iso_search_edges : Hints := hOf [0] (c_iso_search_edges fun _ => 0)
def wnt (a b : G) (ns es : List Int) (n : Nat) : Bool := (decide ((gt b.e (n : Int)).t = (gt a.e es.length).t) && (decide ((gt b.e (n : Int)).f = gt ns (gt a.e es.length).f) && decide ((gt b.e (n : Int)).o = gt ns (gt a.e es.length).o))) && !decide ((n : Int) ∈ es)
def eE (a b : G) (ns : List Int) (m : Int) : Nat → List Int → List Mo → List Mo
 | 0, es, out => if m < out.length then out else out ++ [⟨ns, es⟩]
 | k + 1, es, out => if m < out.length then out else (List.range b.e.length).foldl (fun o n => if wnt a b ns es n then eE a b ns m k (es ++ [(n : Int)]) o else o) out
section
variable (P : Program) (F : String → Nat)
def KA_iso_search_edges (n : Nat) : Prop := ∀ (a b : G) (c : List Int) (m : Int) (ns es : List Int) (out : List Mo), validG a = 0 → validG b = 0 → ns.length = a.n.length → es.length + n = a.e.length → 0 ≤ m → m ≤ 2000 → out.length ≤ m + 1 →
 FC P (F "iso.search.edges") [seBx a b c m out, .lst 1 (ints ns), .lst 1 (ints es)] (.tup []) [(0, seBx a b c m (eE a b ns m n es out))]
def K_iso_search_edges : Prop := ∀ n, KA_iso_search_edges P F n
end
section
variable {α : Type}
theorem foldl_lenI {β γ : Type} {f : List β → γ → List β} {m : Int} (hf : ∀ o x, (o.length : Int) ≤ m → ((f o x).length : Int) ≤ m) : ∀ (l : List γ) (o : List β), (o.length : Int) ≤ m → ((l.foldl f o).length : Int) ≤ m
 | [], o, h => h
 | x :: l, o, h => foldl_lenI hf l _ (hf o x h)
theorem foldl_takeR {β : Type} (f : β → Nat → β) (o : β) (N i : Nat) (h : i < N) : ((List.range N).take (i + 1)).foldl f o = f (((List.range N).take i).foldl f o) i := by
 rw [List.take_range, List.take_range, show min (i + 1) N = i + 1 by omega, show min i N = i by omega, List.range_succ, List.foldl_append]
 rfl
theorem eE_len (a b : G) (ns : List Int) (m : Int) : ∀ (k : Nat) (es : List Int) (out : List Mo), (out.length : Int) ≤ m + 1 → ((eE a b ns m k es out).length : Int) ≤ m + 1
 | 0, es, out, h => by
  simp only [eE]
  split
  ·exact h
  ·simp; omega
 | k + 1, es, out, h => by
  simp only [eE]
  split
  ·exact h
  ·refine foldl_lenI (fun o n ho => ?_) _ _ h
   split
   ·exact eE_len a b ns m k _ _ ho
   ·exact ho
end
section
variable {P : Program} {F : String → Nat} {α : Type}
theorem w_iso_search_edges (hc : K_slices_Clone_I P F) (hn : K_slices_Contains_I P F) (n : Nat) (ih : ∀ m, m < n → KA_iso_search_edges P F m) (a b : G) (c : List Int) (m : Int) (ns es : List Int) (out : List Mo) (va : validG a = 0) (vb : validG b = 0) (h1 : ns.length = a.n.length) (h2 : es.length + n = a.e.length) (h3 : 0 ≤ m) (h4 : m ≤ 2000) (h5 : out.length ≤ m + 1) :
  W P (c_iso_search_edges F) (Done [] [0] (.tup []) [(0, seBx a b c m (eE a b ns m n es out))]) (init [seBx a b c m out, .lst 1 (ints ns), .lst 1 (ints es)]) := by
 refine W_of ?_
 obtain ⟨a1, a2, _, a4⟩ := valid_spec va
 obtain ⟨b1, b2, _⟩ := valid_spec vb
 have rc1 := hc ns (by omega)
 have rc2 := hc es (by omega)
 cases n with
 | zero =>
  have hE : eE a b ns m 0 es out = if m < out.length then out else out ++ [⟨ns, es⟩] := rfl
  generalize eE a b ns m 0 es out = q at *
  obtain ⟨an, ae⟩ := a
  obtain ⟨bn, be⟩ := b
  simp only [seBx] at *
  simp (disch := omega) only [go_sem, ↓reduceIte]
  refine bran_dec (fun c => ?_) (fun c => ?_)
  ·rw [if_pos (by omega)] at hE
   subst hE
   simp (disch := omega) only [go_sem, ↓reduceIte]
   rfl
  ·rw [if_neg (by omega)] at hE
   subst hE
   simp (disch := omega) only [go_sem, ↓reduceIte]
   refine bran_dec (fun d => ?_) (fun d => ?_)
   ·simp (disch := omega) only [go_sem, ↓reduceIte]
    refine call_by rc1 ?_
    simp (disch := omega) only [go_sem, ↓reduceIte]
    refine call_by rc2 ?_
    simp (disch := omega) only [go_sem, ↓reduceIte]
    rfl
   ·omega
 | succ n =>
  have hE : eE a b ns m (n + 1) es out = if m < out.length then out else (List.range b.e.length).foldl (fun o k => if wnt a b ns es k then eE a b ns m n (es ++ [(k : Int)]) o else o) out := rfl
  have hx := fits_spec (a4 _ (gt_mem (l := a.e) (j := es.length) (by omega) (by omega)))
  generalize eE a b ns m (n + 1) es out = q at *
  obtain ⟨acc, hacc⟩ : ∃ acc : Nat → List Mo, ∀ i, acc i = ((List.range b.e.length).take i).foldl (fun o k => if wnt a b ns es k then eE a b ns m n (es ++ [(k : Int)]) o else o) out := ⟨_, fun _ => rfl⟩
  have hacc0 : acc 0 = out := by rw [hacc]; rfl
  have haccn : (List.range b.e.length).foldl (fun o k => if wnt a b ns es k then eE a b ns m n (es ++ [(k : Int)]) o else o) out = acc b.e.length := by
   rw [hacc, List.take_of_length_le (by simp)]
  have haccs : ∀ i, i < b.e.length → acc (i + 1) = if wnt a b ns es i then eE a b ns m n (es ++ [(i : Int)]) (acc i) else acc i := fun i hi => by
   rw [hacc, hacc, foldl_takeR _ _ _ _ hi]
  have hlen : ∀ i, ((acc i).length : Int) ≤ m + 1 := fun i => by
   rw [hacc]
   refine foldl_lenI (fun o k ho => ?_) _ _ h5
   split
   ·exact eE_len a b ns m n _ o ho
   ·exact ho
  have hrec : ∀ i : Nat, i < b.e.length → wnt a b ns es i = true → FC P (F "iso.search.edges") [seBx a b c m (acc i), .lst 1 (ints ns), .lst 1 (ints (es ++ [(i : Int)]))] (.tup []) [(0, seBx a b c m (acc (i + 1)))] := fun i hi hw => by
   rw [haccs i hi, if_pos hw]
   exact ih n (by omega) a b c m ns (es ++ [(i : Int)]) (acc i) va vb h1 (by simp; omega) h3 h4 (hlen i)
  have hnw : ∀ i : Nat, i < b.e.length → wnt a b ns es i = false → acc (i + 1) = acc i := fun i hi hw => by
   rw [haccs i hi, if_neg (by simp [hw])]
  have hw : ∀ i : Nat, wnt a b ns es i = ((decide ((gt b.e (i : Int)).t = (gt a.e es.length).t) && (decide ((gt b.e (i : Int)).f = gt ns (gt a.e es.length).f) && decide ((gt b.e (i : Int)).o = gt ns (gt a.e es.length).o))) && !decide ((i : Int) ∈ es)) := fun _ => rfl
  have rcn := fun i : Int => hn es i (by unfold maxL; omega)
  rw [haccn] at hE
  generalize wnt a b ns es = wn at *
  clear haccn haccs hacc ih
  obtain ⟨an, ae⟩ := a
  obtain ⟨bn, be⟩ := b
  simp only [seBx] at *
  obtain ⟨⟨xt, xf, xo⟩, hy⟩ : ∃ x, gt ae (es.length : Int) = x := ⟨_, rfl⟩
  rw [hy] at hx
  simp only [hy] at hw
  simp only at hx
  simp (disch := omega) only [go_sem, ↓reduceIte, hy]
  refine bran_dec (fun k0 => ?_) (fun k0 => ?_)
  ·rw [if_pos (by omega)] at hE
   subst hE
   simp (disch := omega) only [go_sem, ↓reduceIte]
   rfl
  ·rw [if_neg (by omega)] at hE
   subst hE
   simp (disch := omega) only [go_sem, ↓reduceIte, hy]
   refine bran_dec (fun d => ?_) (fun d => ?_)
   ·omega
   ·simp (disch := omega) only [go_sem, ↓reduceIte, hy]
    refine W_loop (fun i : Nat => ⟨[(0, .pt 1 0), (1, .lst 1 (ints ns)), (2, .lst 1 (ints es)), (8, .pt 2 0), (70, .lst 3 (eds be)), (71, .int .i64 be.length), (72, .int .i64 i)],
     [(0, .arr 2 (pts (acc i))), (1, .box [.lst 1 (ints an), .lst 3 (eds ae), .lst 1 (ints bn), .lst 3 (eds be), .lst 1 (ints c), .int .i64 m, .sl 0 0 (acc i).length]), (2, .box [.int .i64 xt, .int .i64 (gt ns xf), .int .i64 (gt ns xo)])], 3⟩) (fun i => i ≤ be.length) (fun i => be.length - i) 0 ?_ ?_ ?_
    ·simp (disch := omega) only [go_sem, ↓reduceIte, hacc0]
     rfl
    ·omega
    ·intro i hi
     simp (disch := omega) only [go_sem, ↓reduceIte, c_iso_search_edges_b12]
     refine bran_dec (fun f => ?_) (fun f => ?_)
     ·have hwi := hw i
      have hli := hlen i
      have hli2 := hlen (i + 1)
      have hr := hrec i (by omega)
      have hno := hnw i (by omega)
      obtain ⟨⟨yt, yf, yo⟩, hz⟩ : ∃ x, gt be (i : Int) = x := ⟨_, rfl⟩
      rw [hz] at hwi
      simp only at hwi
      cases he : (decide (yt = xt) && (decide (yf = gt ns xf) && decide (yo = gt ns xo))) with
      | false =>
       rw [he] at hwi
       have hno := hno hwi
       simp (disch := omega) only [go_sem, ↓reduceIte, hz, he]
       exact ⟨i + 1, by simp [hno], by omega, by omega⟩
      | true =>
       rw [he, Bool.true_and] at hwi
       have q := rcn i
       by_cases hm : (i : Int) ∈ es
       ·have d1 := decide_eq_true hm
        rw [d1] at hwi q
        have hno := hno hwi
        simp (disch := omega) only [go_sem, ↓reduceIte, hz, he]
        refine call_by q ?_
        simp (disch := omega) only [go_sem, ↓reduceIte]
        exact ⟨i + 1, by simp [hno], by omega, by omega⟩
       ·have d1 := decide_eq_false hm
        rw [d1] at hwi q
        have hr := hr hwi
        simp (disch := omega) only [go_sem, ↓reduceIte, hz, he]
        refine call_by q ?_
        simp (disch := omega) only [go_sem, ↓reduceIte]
        refine call_by rc2 ?_
        simp (disch := omega) only [go_sem, ↓reduceIte]
        refine call_fz hr ?_
        simp (disch := omega) only [go_sem, ↓reduceIte]
        exact ⟨i + 1, by simp, by omega, by omega⟩
     ·obtain rfl : i = be.length := by omega
      simp (disch := omega) only [go_sem, ↓reduceIte]
      rfl
end
@[go_sem] def c_iso_search_nodes_r0 : LL := [qm 7 0,qf 8 0 7,qf 9 6 8,ql 10 1 9,qz 11 10,qm 12 0,qf 13 0 12,qf 14 5 13,ql 15 1 14,qo .gtr 16 11 15]
@[go_sem] def c_iso_search_nodes_r1 : LL := [qm 17 1,qz 18 17,qm 19 0,qf 20 0 19,qf 21 0 20,qf 22 0 21,ql 23 1 22,qz 24 23,qo .eql 25 18 24]
@[go_sem] def c_iso_search_nodes_r2 (F : Fn) : LL := [qm 26 0,qm 27 1,⟨some 28,.call (F "iso.search.edges") [.t 26,.t 27,.k (.nl 0)] [.mp,.rd,.rd],none⟩]
@[go_sem] def c_iso_search_nodes_r3 : LL := [qm 29 0,qf 30 0 29,qf 31 2 30,qf 32 0 31,ql 33 1 32,qz 34 33,qi 35 0]
@[go_sem] def c_iso_search_nodes_r4 : LL := [qo .lss 36 35 34]
@[go_sem] def c_iso_search_nodes_r5 : LL := [qm 37 35,qm 6 37]
@[go_sem] def c_iso_search_nodes_r6 (F : Fn) : LL := [qm 38 2,qm 39 1,qz 40 39,qm 41 6,⟨some 42,.callv (.t 38) [.t 40,.t 41],none⟩,qm 43 42,qg 43 true (qm 44 0),qg 43 true (qm 45 1),qg 43 true (qm 46 6),
 qg 43 true (qc 47 (F "iso.search.fits") [.t 44,.t 45,.t 46]),qP 48 43 47]
@[go_sem] def c_iso_search_nodes_r7 (F : Fn) : LL := [qm 49 0,qm 50 1,qc 51 (F "slices.Clone.I") [.t 50],qm 52 6,⟨some 53,.buildSl 1 8 (.int .i64 (0)) 1 [(0,.t 52)],none⟩,qp 54 1 8 51 53,qm 55 2,
 ⟨some 56,.call (F "iso.search.nodes") [.t 49,.t 54,.t 55] [.mp,.rd,.mp],none⟩]
@[go_sem] def c_iso_search_nodes_r8 : LL := [qk .add 57 35 1,qm 35 57]
def c_iso_search_nodes_b9 (F : Fn) : LC := (.seq (.reg c_iso_search_nodes_r4 [0,1,2,34,35,36]) (.seq (.cond (.t 36) .skip (.exit 0)) (.seq (.block 1 (.seq (.reg c_iso_search_nodes_r5 [0,1,2,6,34,35]) (.seq (.reg (c_iso_search_nodes_r6 F) [0,1,2,6,34,35,48]) (.cond (.t 48) (.reg (c_iso_search_nodes_r7 F) [0,1,2,34,35]) .skip)))) (.reg c_iso_search_nodes_r8 [0,1,2,34,35]))))
@[go_sem] def c_iso_search_nodes (F : Fn) : LC := (.seq (.seq (.dreg [] c_iso_search_nodes_r0 [0,1,2,16]) (.cond (.t 16) .ret .skip)) (.seq (.seq (.reg c_iso_search_nodes_r1 [0,1,2,25]) (.cond (.t 25) (.seq (.reg (c_iso_search_nodes_r2 F) [0,2]) .ret) .skip)) (.seq (.reg c_iso_search_nodes_r3 [0,1,2,34,35]) (.block 0 (.loop [0,1,2,34,35] (c_iso_search_nodes_b9 F))))))
def h_iso_search_nodes : Hints := hOf [0, 2] (c_iso_search_nodes fun _ => 0)
def nN (a b : G) (c : List Int) (m : Int) (al : Int → Int → Bool) : Nat → List Int → List Mo → List Mo
 | 0, ns, out => if m < out.length then out else eE a b ns m a.e.length [] out
 | k + 1, ns, out => if m < out.length then out else (List.range b.n.length).foldl (fun o (n : Nat) => if al ns.length (n : Int) && fitsP a b c ns (n : Int) then nN a b c m al k (ns ++ [(n : Int)]) o else o) out
def AlOk (P : Program) (g : Nat) (bs : List D) (al : Int → Int → Bool) : Prop :=
 (bs = [] ∧ ∀ i n, FC P g [.int .i64 i, .int .i64 n] (.bool (al i n)) []) ∨
 ∃ u v : Int, bs = [.box [.int .i64 u], .box [.int .i64 v]] ∧ ∀ i n, FC P g [.int .i64 i, .int .i64 n, .ref [.int .i64 u], .ref [.int .i64 v]] (.bool (al i n)) []
section
variable (P : Program) (F : String → Nat)
def KA_iso_search_nodes (n : Nat) : Prop := ∀ (a b : G) (c : List Int) (m : Int) (ns : List Int) (out : List Mo) (g : Nat) (bs : List D) (al : Int → Int → Bool), AlOk P g bs al → validG a = 0 → validG b = 0 → c.length = a.n.length + b.n.length → ns.length + n = a.n.length → 0 ≤ m → m ≤ 2000 → out.length ≤ m + 1 →
 FC P (F "iso.search.nodes") [seBx a b c m out, .lst 1 (ints ns), .clb g bs] (.tup []) [(0, seBx a b c m (nN a b c m al n ns out)), (2, .clb g bs)]
def K_iso_search_nodes : Prop := ∀ n, KA_iso_search_nodes P F n
end
section
variable {α : Type}
theorem nN_len (a b : G) (c : List Int) (m : Int) (al : Int → Int → Bool) : ∀ (k : Nat) (ns : List Int) (out : List Mo), (out.length : Int) ≤ m + 1 → ((nN a b c m al k ns out).length : Int) ≤ m + 1
 | 0, ns, out, h => by
  simp only [nN]
  split
  ·exact h
  ·exact eE_len _ _ _ _ _ _ _ h
 | k + 1, ns, out, h => by
  simp only [nN]
  split
  ·exact h
  ·refine foldl_lenI (fun o n ho => ?_) _ _ h
   split
   ·exact nN_len a b c m al k _ _ ho
   ·exact ho
end
section
variable {P : Program} {F : String → Nat} {α : Type}
theorem w_nodes_free (hc : K_slices_Clone_I P F) (he : K_iso_search_edges P F) (hf : K_iso_search_fits P F) (n : Nat) (a b : G) (c : List Int) (m : Int) (ns : List Int) (out : List Mo) (g : Nat) (al : Int → Int → Bool) (hal : ∀ i n, FC P g [.int .i64 i, .int .i64 n] (.bool (al i n)) [])
  (ih : ∀ n', n' < n → ∀ (ns : List Int) (out : List Mo), ns.length + n' = a.n.length → out.length ≤ m + 1 → FC P (F "iso.search.nodes") [seBx a b c m out, .lst 1 (ints ns), .clb g []] (.tup []) [(0, seBx a b c m (nN a b c m al n' ns out)), (2, .clb g [])])
  (va : validG a = 0) (vb : validG b = 0) (h0 : c.length = a.n.length + b.n.length) (h2 : ns.length + n = a.n.length) (h3 : 0 ≤ m) (h4 : m ≤ 2000) (h5 : out.length ≤ m + 1) :
  W P (c_iso_search_nodes F) (Done [] [0, 2] (.tup []) [(0, seBx a b c m (nN a b c m al n ns out)), (2, .clb g [])]) (init [seBx a b c m out, .lst 1 (ints ns), .clb g []]) := by
 refine W_of ?_
 obtain ⟨a1, a2, _⟩ := valid_spec va
 obtain ⟨b1, b2, _⟩ := valid_spec vb
 have rc1 := hc ns (by omega)
 cases n with
 | zero =>
  have hE : nN a b c m al 0 ns out = if m < out.length then out else eE a b ns m a.e.length [] out := rfl
  have re := FC.nils (a := [seBx a b c m out, .lst 1 (ints ns), .nl 0]) (he a.e.length a b c m ns [] out va vb (by omega) (by simp) h3 h4 h5) (by simp [NilW, ints])
  generalize nN a b c m al 0 ns out = q at *
  generalize eE a b ns m a.e.length [] out = eo at *
  obtain ⟨an, ae⟩ := a
  obtain ⟨bn, be⟩ := b
  simp only [seBx] at *
  simp (disch := omega) only [go_sem, ↓reduceIte]
  refine bran_dec (fun k0 => ?_) (fun k0 => ?_)
  ·rw [if_pos (by omega)] at hE
   subst hE
   simp (disch := omega) only [go_sem, ↓reduceIte]
   rfl
  ·rw [if_neg (by omega)] at hE
   subst hE
   simp (disch := omega) only [go_sem, ↓reduceIte]
   refine bran_dec (fun d => ?_) (fun d => ?_)
   ·simp (disch := omega) only [go_sem, ↓reduceIte]
    refine call_fz re ?_
    simp (disch := omega) only [go_sem, ↓reduceIte]
    rfl
   ·omega
 | succ n =>
  have hE : nN a b c m al (n + 1) ns out = if m < out.length then out else (List.range b.n.length).foldl (fun o (k : Nat) => if al ns.length (k : Int) && fitsP a b c ns (k : Int) then nN a b c m al n (ns ++ [(k : Int)]) o else o) out := rfl
  generalize nN a b c m al (n + 1) ns out = q at *
  obtain ⟨acc, hacc⟩ : ∃ acc : Nat → List Mo, ∀ i, acc i = ((List.range b.n.length).take i).foldl (fun o (k : Nat) => if al ns.length (k : Int) && fitsP a b c ns (k : Int) then nN a b c m al n (ns ++ [(k : Int)]) o else o) out := ⟨_, fun _ => rfl⟩
  have hacc0 : acc 0 = out := by rw [hacc]; rfl
  have haccn : (List.range b.n.length).foldl (fun o (k : Nat) => if al ns.length (k : Int) && fitsP a b c ns (k : Int) then nN a b c m al n (ns ++ [(k : Int)]) o else o) out = acc b.n.length := by
   rw [hacc, List.take_of_length_le (by simp)]
  have haccs : ∀ i, i < b.n.length → acc (i + 1) = if al ns.length i && fitsP a b c ns i then nN a b c m al n (ns ++ [(i : Int)]) (acc i) else acc i := fun i hi => by
   rw [hacc, hacc, foldl_takeR _ _ _ _ hi]
  have hlen : ∀ i, ((acc i).length : Int) ≤ m + 1 := fun i => by
   rw [hacc]
   refine foldl_lenI (fun o k ho => ?_) _ _ h5
   split
   ·exact nN_len a b c m al n _ o ho
   ·exact ho
  have hrec : ∀ i : Nat, i < b.n.length → al ns.length i = true → fitsP a b c ns i = true → FC P (F "iso.search.nodes") [seBx a b c m (acc i), .lst 1 (ints (ns ++ [(i : Int)])), .clb g []] (.tup []) [(0, seBx a b c m (acc (i + 1))), (2, .clb g [])] := fun i hi hw hv => by
   rw [haccs i hi, if_pos (by rw [hw, hv]; rfl)]
   exact ih n (by omega) (ns ++ [(i : Int)]) (acc i) (by simp; omega) (hlen i)
  have hnw : ∀ i : Nat, i < b.n.length → (al ns.length i && fitsP a b c ns i) = false → acc (i + 1) = acc i := fun i hi hw => by
   rw [haccs i hi, if_neg (by simp only [hw]; simp)]
  have hft : ∀ i : Nat, i < b.n.length → FC P (F "iso.search.fits") [seRf a b c m (acc i), .lst 1 (ints ns), .int .i64 i] (.bool (fitsP a b c ns i)) [] := fun i hi => hf a b c m (acc i) ns i (by omega) (by omega) (by omega) (by omega) (by omega) (by omega) h0 (by omega)
  rw [haccn] at hE
  generalize fitsP a b c ns = fi at *
  clear haccn haccs hacc ih he hf
  obtain ⟨an, ae⟩ := a
  obtain ⟨bn, be⟩ := b
  simp only [seBx, seRf] at *
  simp (disch := omega) only [go_sem, ↓reduceIte]
  refine bran_dec (fun k0 => ?_) (fun k0 => ?_)
  ·rw [if_pos (by omega)] at hE
   subst hE
   simp (disch := omega) only [go_sem, ↓reduceIte]
   rfl
  ·rw [if_neg (by omega)] at hE
   subst hE
   simp (disch := omega) only [go_sem, ↓reduceIte]
   refine bran_dec (fun d => ?_) (fun d => ?_)
   ·omega
   ·simp (disch := omega) only [go_sem, ↓reduceIte]
    refine W_loop (fun i : Nat => ⟨[(0, .pt 1 0), (1, .lst 1 (ints ns)), (2, .clo g []), (34, .int .i64 bn.length), (35, .int .i64 i)],
     [(0, .arr 2 (pts (acc i))), (1, .box [.lst 1 (ints an), .lst 3 (eds ae), .lst 1 (ints bn), .lst 3 (eds be), .lst 1 (ints c), .int .i64 m, .sl 0 0 (acc i).length])], 2⟩) (fun i => i ≤ bn.length) (fun i => bn.length - i) 0 ?_ ?_ ?_
    ·simp (disch := omega) only [go_sem, ↓reduceIte, hacc0]
     rfl
    ·omega
    ·intro i hi
     simp (disch := omega) only [go_sem, ↓reduceIte, c_iso_search_nodes_b9]
     refine bran_dec (fun f => ?_) (fun f => ?_)
     ·have hli := hlen i
      have hli2 := hlen (i + 1)
      have hr := hrec i (by omega)
      have hno := hnw i (by omega)
      have q1 := hal ns.length i
      have q2 := hft i (by omega)
      simp (disch := omega) only [go_sem, ↓reduceIte]
      cases e1 : al ns.length i with
      | false =>
       rw [e1] at q1 hno
       have hno := hno rfl
       refine call_by q1 ?_
       simp (disch := omega) only [go_sem, ↓reduceIte]
       exact ⟨i + 1, by simp [hno], by omega, by omega⟩
      | true =>
       rw [e1] at q1 hno
       refine call_by q1 ?_
       simp (disch := omega) only [go_sem, ↓reduceIte]
       cases e2 : fi i with
       | false =>
        rw [e2] at q2 hno
        have hno := hno rfl
        refine call_by q2 ?_
        simp (disch := omega) only [go_sem, ↓reduceIte]
        exact ⟨i + 1, by simp [hno], by omega, by omega⟩
       | true =>
        rw [e2] at q2
        have hr := hr e1 e2
        refine call_by q2 ?_
        simp (disch := omega) only [go_sem, ↓reduceIte]
        refine call_by rc1 ?_
        simp (disch := omega) only [go_sem, ↓reduceIte]
        refine call_fz hr ?_
        simp (disch := omega) only [go_sem, ↓reduceIte]
        exact ⟨i + 1, by simp, by omega, by omega⟩
     ·obtain rfl : i = bn.length := by omega
      simp (disch := omega) only [go_sem, ↓reduceIte]
      rfl
theorem w_nodes_caps (hc : K_slices_Clone_I P F) (he : K_iso_search_edges P F) (hf : K_iso_search_fits P F) (n : Nat) (a b : G) (c : List Int) (m : Int) (ns : List Int) (out : List Mo) (g : Nat) (u v : Int) (al : Int → Int → Bool) (hal : ∀ i n, FC P g [.int .i64 i, .int .i64 n, .ref [.int .i64 u], .ref [.int .i64 v]] (.bool (al i n)) [])
  (ih : ∀ n', n' < n → ∀ (ns : List Int) (out : List Mo), ns.length + n' = a.n.length → out.length ≤ m + 1 → FC P (F "iso.search.nodes") [seBx a b c m out, .lst 1 (ints ns), .clb g [.box [.int .i64 u], .box [.int .i64 v]]] (.tup []) [(0, seBx a b c m (nN a b c m al n' ns out)), (2, .clb g [.box [.int .i64 u], .box [.int .i64 v]])])
  (va : validG a = 0) (vb : validG b = 0) (h0 : c.length = a.n.length + b.n.length) (h2 : ns.length + n = a.n.length) (h3 : 0 ≤ m) (h4 : m ≤ 2000) (h5 : out.length ≤ m + 1) :
  W P (c_iso_search_nodes F) (Done [] [0, 2] (.tup []) [(0, seBx a b c m (nN a b c m al n ns out)), (2, .clb g [.box [.int .i64 u], .box [.int .i64 v]])]) (init [seBx a b c m out, .lst 1 (ints ns), .clb g [.box [.int .i64 u], .box [.int .i64 v]]]) := by
 refine W_of ?_
 obtain ⟨a1, a2, _⟩ := valid_spec va
 obtain ⟨b1, b2, _⟩ := valid_spec vb
 have rc1 := hc ns (by omega)
 cases n with
 | zero =>
  have hE : nN a b c m al 0 ns out = if m < out.length then out else eE a b ns m a.e.length [] out := rfl
  have re := FC.nils (a := [seBx a b c m out, .lst 1 (ints ns), .nl 0]) (he a.e.length a b c m ns [] out va vb (by omega) (by simp) h3 h4 h5) (by simp [NilW, ints])
  generalize nN a b c m al 0 ns out = q at *
  generalize eE a b ns m a.e.length [] out = eo at *
  obtain ⟨an, ae⟩ := a
  obtain ⟨bn, be⟩ := b
  simp only [seBx] at *
  simp (disch := omega) only [go_sem, ↓reduceIte]
  refine bran_dec (fun k0 => ?_) (fun k0 => ?_)
  ·rw [if_pos (by omega)] at hE
   subst hE
   simp (disch := omega) only [go_sem, ↓reduceIte]
   rfl
  ·rw [if_neg (by omega)] at hE
   subst hE
   simp (disch := omega) only [go_sem, ↓reduceIte]
   refine bran_dec (fun d => ?_) (fun d => ?_)
   ·simp (disch := omega) only [go_sem, ↓reduceIte]
    refine call_fz re ?_
    simp (disch := omega) only [go_sem, ↓reduceIte]
    rfl
   ·omega
 | succ n =>
  have hE : nN a b c m al (n + 1) ns out = if m < out.length then out else (List.range b.n.length).foldl (fun o (k : Nat) => if al ns.length (k : Int) && fitsP a b c ns (k : Int) then nN a b c m al n (ns ++ [(k : Int)]) o else o) out := rfl
  generalize nN a b c m al (n + 1) ns out = q at *
  obtain ⟨acc, hacc⟩ : ∃ acc : Nat → List Mo, ∀ i, acc i = ((List.range b.n.length).take i).foldl (fun o (k : Nat) => if al ns.length (k : Int) && fitsP a b c ns (k : Int) then nN a b c m al n (ns ++ [(k : Int)]) o else o) out := ⟨_, fun _ => rfl⟩
  have hacc0 : acc 0 = out := by rw [hacc]; rfl
  have haccn : (List.range b.n.length).foldl (fun o (k : Nat) => if al ns.length (k : Int) && fitsP a b c ns (k : Int) then nN a b c m al n (ns ++ [(k : Int)]) o else o) out = acc b.n.length := by
   rw [hacc, List.take_of_length_le (by simp)]
  have haccs : ∀ i, i < b.n.length → acc (i + 1) = if al ns.length i && fitsP a b c ns i then nN a b c m al n (ns ++ [(i : Int)]) (acc i) else acc i := fun i hi => by
   rw [hacc, hacc, foldl_takeR _ _ _ _ hi]
  have hlen : ∀ i, ((acc i).length : Int) ≤ m + 1 := fun i => by
   rw [hacc]
   refine foldl_lenI (fun o k ho => ?_) _ _ h5
   split
   ·exact nN_len a b c m al n _ o ho
   ·exact ho
  have hrec : ∀ i : Nat, i < b.n.length → al ns.length i = true → fitsP a b c ns i = true → FC P (F "iso.search.nodes") [seBx a b c m (acc i), .lst 1 (ints (ns ++ [(i : Int)])), .clb g [.box [.int .i64 u], .box [.int .i64 v]]] (.tup []) [(0, seBx a b c m (acc (i + 1))), (2, .clb g [.box [.int .i64 u], .box [.int .i64 v]])] := fun i hi hw hv => by
   rw [haccs i hi, if_pos (by rw [hw, hv]; rfl)]
   exact ih n (by omega) (ns ++ [(i : Int)]) (acc i) (by simp; omega) (hlen i)
  have hnw : ∀ i : Nat, i < b.n.length → (al ns.length i && fitsP a b c ns i) = false → acc (i + 1) = acc i := fun i hi hw => by
   rw [haccs i hi, if_neg (by simp only [hw]; simp)]
  have hft : ∀ i : Nat, i < b.n.length → FC P (F "iso.search.fits") [seRf a b c m (acc i), .lst 1 (ints ns), .int .i64 i] (.bool (fitsP a b c ns i)) [] := fun i hi => hf a b c m (acc i) ns i (by omega) (by omega) (by omega) (by omega) (by omega) (by omega) h0 (by omega)
  rw [haccn] at hE
  generalize fitsP a b c ns = fi at *
  clear haccn haccs hacc ih he hf
  obtain ⟨an, ae⟩ := a
  obtain ⟨bn, be⟩ := b
  simp only [seBx, seRf] at *
  simp (disch := omega) only [go_sem, ↓reduceIte]
  refine bran_dec (fun k0 => ?_) (fun k0 => ?_)
  ·rw [if_pos (by omega)] at hE
   subst hE
   simp (disch := omega) only [go_sem, ↓reduceIte]
   rfl
  ·rw [if_neg (by omega)] at hE
   subst hE
   simp (disch := omega) only [go_sem, ↓reduceIte]
   refine bran_dec (fun d => ?_) (fun d => ?_)
   ·omega
   ·simp (disch := omega) only [go_sem, ↓reduceIte]
    refine W_loop (fun i : Nat => ⟨[(0, .pt 1 0), (1, .lst 1 (ints ns)), (2, .clo g [.pt 2 0, .pt 3 0]), (34, .int .i64 bn.length), (35, .int .i64 i)],
     [(0, .arr 2 (pts (acc i))), (1, .box [.lst 1 (ints an), .lst 3 (eds ae), .lst 1 (ints bn), .lst 3 (eds be), .lst 1 (ints c), .int .i64 m, .sl 0 0 (acc i).length]), (2, .box [.int .i64 u]), (3, .box [.int .i64 v])], 4⟩) (fun i => i ≤ bn.length) (fun i => bn.length - i) 0 ?_ ?_ ?_
    ·simp (disch := omega) only [go_sem, ↓reduceIte, hacc0]
     rfl
    ·omega
    ·intro i hi
     simp (disch := omega) only [go_sem, ↓reduceIte, c_iso_search_nodes_b9]
     refine bran_dec (fun f => ?_) (fun f => ?_)
     ·have hli := hlen i
      have hli2 := hlen (i + 1)
      have hr := hrec i (by omega)
      have hno := hnw i (by omega)
      have q1 := hal ns.length i
      have q2 := hft i (by omega)
      simp (disch := omega) only [go_sem, ↓reduceIte]
      cases e1 : al ns.length i with
      | false =>
       rw [e1] at q1 hno
       have hno := hno rfl
       refine call_by q1 ?_
       simp (disch := omega) only [go_sem, ↓reduceIte]
       exact ⟨i + 1, by simp [hno], by omega, by omega⟩
      | true =>
       rw [e1] at q1 hno
       refine call_by q1 ?_
       simp (disch := omega) only [go_sem, ↓reduceIte]
       cases e2 : fi i with
       | false =>
        rw [e2] at q2 hno
        have hno := hno rfl
        refine call_by q2 ?_
        simp (disch := omega) only [go_sem, ↓reduceIte]
        exact ⟨i + 1, by simp [hno], by omega, by omega⟩
       | true =>
        rw [e2] at q2
        have hr := hr e1 e2
        refine call_by q2 ?_
        simp (disch := omega) only [go_sem, ↓reduceIte]
        refine call_by rc1 ?_
        simp (disch := omega) only [go_sem, ↓reduceIte]
        refine call_fz hr ?_
        simp (disch := omega) only [go_sem, ↓reduceIte]
        exact ⟨i + 1, by simp, by omega, by omega⟩
     ·obtain rfl : i = bn.length := by omega
      simp (disch := omega) only [go_sem, ↓reduceIte]
      rfl
theorem w_iso_search_nodes (hc : K_slices_Clone_I P F) (he : K_iso_search_edges P F) (hf : K_iso_search_fits P F) (n : Nat) (ih : ∀ m, m < n → KA_iso_search_nodes P F m) (a b : G) (c : List Int) (m : Int) (ns : List Int) (out : List Mo) (g : Nat) (bs : List D) (al : Int → Int → Bool) (hal : AlOk P g bs al)
  (va : validG a = 0) (vb : validG b = 0) (h0 : c.length = a.n.length + b.n.length) (h2 : ns.length + n = a.n.length) (h3 : 0 ≤ m) (h4 : m ≤ 2000) (h5 : out.length ≤ m + 1) :
  W P (c_iso_search_nodes F) (Done [] [0, 2] (.tup []) [(0, seBx a b c m (nN a b c m al n ns out)), (2, .clb g bs)]) (init [seBx a b c m out, .lst 1 (ints ns), .clb g bs]) := by
 have ih2 := fun n' hn ns out hl ho => ih n' hn a b c m ns out g bs al hal va vb h0 hl h3 h4 ho
 rcases hal with ⟨rfl, hal⟩ | ⟨u, v, rfl, hal⟩
 ·exact w_nodes_free hc he hf n a b c m ns out g al hal ih2 va vb h0 h2 h3 h4 h5
 ·exact w_nodes_caps hc he hf n a b c m ns out g u v al hal ih2 va vb h0 h2 h3 h4 h5
theorem AlOk.ok1 {P : Program} {g : Nat} {bs : List D} {al : Int → Int → Bool} (h : AlOk P g bs al) {a b : G} {c ns : List Int} {m : Int} {out : List Mo} : [seBx a b c m out, .lst 1 (ints ns), .clb g bs].all okA1 = true := by
 rcases h with ⟨rfl, _⟩ | ⟨u, v, rfl, _⟩ <;> rfl
end
@[go_sem] def c_partition_root_r0 : LL := [qi 4 0]
@[go_sem] def c_partition_root_r1 : LL := [qm 5 0,qm 6 1,qd 7 1 5 6,ql 8 1 7,qm 9 1,qo .neq 10 8 9]
@[go_sem] def c_partition_root_r2 : LL := [qm 11 0,qm 12 1,qd 13 1 11 12,ql 14 1 13,qm 1 14]
def c_partition_root_b3 : LC := (.seq (.seq (.reg c_partition_root_r1 [0,1,10]) (.cond (.t 10) .skip (.exit 0))) (.block 1 (.reg c_partition_root_r2 [0,1])))
@[go_sem] def c_partition_root_r4 : LL := [qm 15 1,qm 4 15]
@[go_sem] def c_partition_root (F : Fn) : LC := (.seq (.reg c_partition_root_r0 [0,1]) (.seq (.block 0 (.loop [0,1] c_partition_root_b3)) (.seq (.reg c_partition_root_r4 [4]) .ret)))
def h_partition_root : Hints := hOf [] (c_partition_root fun _ => 0)
@[go_sem] def c_partition_unite_r0 (F : Fn) : LL := [qm 8 0,qm 9 1,qc 10 (F "partition.root") [.t 8,.t 9],qm 11 0,qm 12 2,qc 13 (F "partition.root") [.t 11,.t 12],qm 6 10,qm 7 13]
@[go_sem] def c_partition_unite_r1 : LL := [qm 14 0,qm 15 6,qm 16 7,⟨some 17,.mx [.t 15,.t 16],none⟩,qm 18 6,qm 19 7,⟨some 20,.mn [.t 18,.t 19],none⟩,qd 21 1 14 17,qs 1 21 20]
@[go_sem] def c_partition_unite (F : Fn) : LC := (.seq (.reg (c_partition_unite_r0 F) [0,6,7]) (.reg c_partition_unite_r1 [0]))
def h_partition_unite : Hints := hOf [0] (c_partition_unite fun _ => 0)
@[go_sem] def c_partition_finest_r0 : LL := [qn 2 1]
@[go_sem] def c_partition_finest_r1 : LL := [qm 5 0,⟨some 6,.makeSl 1 8 (.int .i64 (0)) (.t 5),none⟩,qm 3 6]
@[go_sem] def c_partition_finest_r2 : LL := [qm 7 3,qz 8 7,qi 9 0]
@[go_sem] def c_partition_finest_r3 : LL := [qo .lss 10 9 8]
@[go_sem] def c_partition_finest_r4 : LL := [qm 11 9,qm 4 11]
@[go_sem] def c_partition_finest_r5 : LL := [qm 12 3,qm 13 4,qm 14 4,qd 15 1 12 13,qs 1 15 14]
@[go_sem] def c_partition_finest_r6 : LL := [qk .add 16 9 1,qm 9 16]
def c_partition_finest_b7 : LC := (.seq (.reg c_partition_finest_r3 [3,8,9,10]) (.seq (.cond (.t 10) .skip (.exit 0)) (.seq (.block 1 (.seq (.reg c_partition_finest_r4 [3,4,8,9]) (.reg c_partition_finest_r5 [3,8,9]))) (.reg c_partition_finest_r6 [3,8,9]))))
@[go_sem] def c_partition_finest_r8 : LL := [qm 17 3,qm 2 17]
@[go_sem] def c_partition_finest (F : Fn) : LC := (.seq (.reg c_partition_finest_r0 [0]) (.seq (.reg c_partition_finest_r1 [3]) (.seq (.seq (.reg c_partition_finest_r2 [3,8,9]) (.block 0 (.loop [3,8,9] c_partition_finest_b7))) (.seq (.reg c_partition_finest_r8 [2]) .ret))))
def h_partition_finest : Hints := hOf [] (c_partition_finest fun _ => 0)
@[go_sem] def c_partition_flat_r0 : LL := [qn 2 1]
@[go_sem] def c_partition_flat_r1 : LL := [qm 4 0,qz 5 4,qi 6 0]
@[go_sem] def c_partition_flat_r2 : LL := [qo .lss 7 6 5]
@[go_sem] def c_partition_flat_r3 : LL := [qm 8 6,qm 3 8]
@[go_sem] def c_partition_flat_r4 (F : Fn) : LL := [qm 9 0,qm 10 3,qm 11 0,qm 12 3,qc 13 (F "partition.root") [.t 11,.t 12],qd 14 1 9 10,qs 1 14 13]
@[go_sem] def c_partition_flat_r5 : LL := [qk .add 15 6 1,qm 6 15]
def c_partition_flat_b6 (F : Fn) : LC := (.seq (.reg c_partition_flat_r2 [0,5,6,7]) (.seq (.cond (.t 7) .skip (.exit 0)) (.seq (.block 1 (.seq (.reg c_partition_flat_r3 [0,3,5,6]) (.reg (c_partition_flat_r4 F) [0,5,6]))) (.reg c_partition_flat_r5 [0,5,6]))))
@[go_sem] def c_partition_flat_r7 : LL := [qm 16 0,qm 2 16]
@[go_sem] def c_partition_flat (F : Fn) : LC := (.seq (.reg c_partition_flat_r0 [0]) (.seq (.seq (.reg c_partition_flat_r1 [0,5,6]) (.block 0 (.loop [0,5,6] (c_partition_flat_b6 F)))) (.seq (.reg c_partition_flat_r7 [2]) .ret)))
def h_partition_flat : Hints := hOf [] (c_partition_flat fun _ => 0)
@[go_sem] def c_partition_Generate_r0 : LL := [qn 4 1,qi 5 0]
@[go_sem] def c_partition_Generate_r1 : LL := [qm 9 0,qk .gtr 10 9 80]
@[go_sem] def c_partition_Generate_r2 : LL := [qn 4 1,qi 5 3]
@[go_sem] def c_partition_Generate_r3 : LL := [qm 11 0,qk .lss 12 11 0]
@[go_sem] def c_partition_Generate_r4 : LL := [qn 4 1,qi 5 6]
@[go_sem] def c_partition_Generate_r5 (F : Fn) : LL := [qm 13 0,qc 14 (F "partition.finest") [.t 13],qm 6 14]
@[go_sem] def c_partition_Generate_r6 : LL := [qm 15 1,qz 16 15,qi 17 0]
@[go_sem] def c_partition_Generate_r7 : LL := [qo .lss 18 17 16]
@[go_sem] def c_partition_Generate_r8 : LL := [qd 19 2 15 17,qL 20 2 19,qa 8 [.int .i64 (0),.int .i64 (0)],qs 2 8 20]
@[go_sem] def c_partition_Generate_r9 : LL := [qf 21 0 8,ql 22 1 21,qk .lss 23 22 0,qm 24 23,qg 24 false (qf 25 0 8),qg 24 false (ql 26 1 25),qg 24 false (qm 27 0),qg 24 false (qo .geq 28 26 27),qQ 29 24 28,qm 30 29,
 qg 30 false (qf 31 1 8),qg 30 false (ql 32 1 31),qg 30 false (qk .lss 33 32 0),qQ 34 30 33,qm 35 34,qg 35 false (qf 36 1 8),qg 35 false (ql 37 1 36),qg 35 false (qm 38 0),
 qg 35 false (qo .geq 39 37 38),qQ 40 35 39]
@[go_sem] def c_partition_Generate_r10 : LL := [qn 4 1,qi 5 6]
@[go_sem] def c_partition_Generate_r11 (F : Fn) : LL := [qm 41 6,qf 42 0 8,ql 43 1 42,qf 44 1 8,ql 45 1 44,⟨some 46,.call (F "partition.unite") [.t 41,.t 43,.t 45] [.mu,.rd,.rd],none⟩]
@[go_sem] def c_partition_Generate_r12 : LL := [qk .add 47 17 1,qm 17 47]
def c_partition_Generate_b13 (F : Fn) : LC := (.seq (.reg c_partition_Generate_r7 [0,6,15,16,17,18]) (.seq (.cond (.t 18) .skip (.exit 0)) (.seq (.block 1 (.seq (.reg c_partition_Generate_r8 [0,6,8,15,16,17]) (.seq (.seq (.reg c_partition_Generate_r9 [0,6,8,15,16,17,40]) (.cond (.t 40) (.seq (.reg c_partition_Generate_r10 [4,5]) .ret) .skip)) (.reg (c_partition_Generate_r11 F) [0,6,15,16,17])))) (.reg c_partition_Generate_r12 [0,6,15,16,17]))))
@[go_sem] def c_partition_Generate_r14 (F : Fn) : LL := [qm 48 6,⟨some 49,.call (F "partition.flat") [.t 48] [.ow],none⟩,qm 4 49,qi 5 0]
@[go_sem] def c_partition_Generate (F : Fn) : LC := (.seq (.reg c_partition_Generate_r0 [0,1]) (.seq (.seq (.reg c_partition_Generate_r1 [0,1,10]) (.cond (.t 10) (.seq (.reg c_partition_Generate_r2 [4,5]) .ret) .skip)) (.seq (.seq (.reg c_partition_Generate_r3 [0,1,12]) (.cond (.t 12) (.seq (.reg c_partition_Generate_r4 [4,5]) .ret) .skip)) (.seq (.reg (c_partition_Generate_r5 F) [0,1,6]) (.seq (.seq (.reg c_partition_Generate_r6 [0,6,15,16,17]) (.block 0 (.loop [0,6,15,16,17] (c_partition_Generate_b13 F)))) (.seq (.reg (c_partition_Generate_r14 F) [4,5]) .ret))))))
def h_partition_Generate : Hints := hOf [] (c_partition_Generate fun _ => 0)
section
variable (P : Program) (F : String → Nat)
def K_partition_root : Prop := ∀ (p r : List Int) (i : Nat), Fo p r → p.length ≤ 1000 → i < p.length → FC P (F "partition.root") [.lst 1 (ints p), .int .i64 i] (.int .i64 (gt r i)) []
def K_partition_unite : Prop := ∀ (p r : List Int) (a b : Nat), Fo p r → p.length ≤ 1000 → a < p.length → b < p.length → FC P (F "partition.unite") [.arr 1 (ints p), .int .i64 a, .int .i64 b] (.tup []) [(0, .arr 1 (ints (p.set (max (gt r a) (gt r b)).toNat (min (gt r a) (gt r b)))))]
def K_partition_finest : Prop := ∀ n : Nat, n ≤ 1000000 → FC P (F "partition.finest") [.int .i64 n] (.arr 1 (ints (nums 0 n))) []
def K_partition_flat : Prop := ∀ p r : List Int, Fo p r → p.length ≤ 1000 → FC P (F "partition.flat") [.arr 1 (ints p)] (.arr 1 (ints r)) []
def K_partition_Generate : Prop := ∀ (n : Nat) (l : List Pr), n ≤ 80 → l.length ≤ 1000 → PrIn n l → FC P (F "partition.Generate") [.int .i64 n, .lst 2 (prs l)] (.tup [.arr 1 (ints (genL n l)), .int .i64 0]) []
end
section
variable {P : Program} {F : String → Nat} {α : Type}
theorem w_partition_root (p r : List Int) (i : Nat) (h : Fo p r) (hl : p.length ≤ 1000) (hi : i < p.length) : W P (c_partition_root F) (Done [.t 4] [] (.int .i64 (gt r i)) []) (init [.lst 1 (ints p), .int .i64 i]) := by
 refine W_of ?_
 simp (disch := omega) only [go_sem, ↓reduceIte]
 refine W_loop (fun k : Nat => ⟨[(0, .lst 1 (ints p)), (1, .int .i64 k)], [], 0⟩) (fun k => k < p.length ∧ gt r k = gt r i) (fun k => k) i ?_ ?_ ?_
 ·simp (disch := omega) only [go_sem, ↓reduceIte]
  try rfl
 ·exact ⟨hi, rfl⟩
 ·rintro k ⟨h1, h2⟩
  obtain ⟨b1, b2⟩ := h.b k h1
  obtain ⟨m, hm⟩ := natI b1
  have hs := h.s k h1
  have ht := h.t k h1
  simp (disch := omega) only [go_sem, ↓reduceIte, c_partition_root_b3]
  refine bran_ndec (fun c => ?_) (fun c => ?_)
  ·rw [hm] at c hs b2
   simp (disch := omega) only [go_sem, ↓reduceIte]
   exact ⟨m, by rw [hm], ⟨by omega, by rw [hs, h2]⟩, by omega⟩
  ·simp (disch := omega) only [go_sem, ↓reduceIte]
   rw [← h2, ht c]
theorem w_partition_unite (hr : K_partition_root P F) (p r : List Int) (a b : Nat) (h : Fo p r) (hl : p.length ≤ 1000) (ha : a < p.length) (hb : b < p.length) :
  W P (c_partition_unite F) (Done [] [0] (.tup []) [(0, .arr 1 (ints (p.set (max (gt r a) (gt r b)).toNat (min (gt r a) (gt r b)))))]) (init [.arr 1 (ints p), .int .i64 a, .int .i64 b]) := by
 refine W_of ?_
 have r1 := hr p r a h hl ha
 have r2 := hr p r b h hl hb
 have hlo : min (gt r a) (gt r b) = if gt r b < gt r a then gt r b else gt r a := by rw [Int.min_def]; split <;> split <;> omega
 have hhi : max (gt r a) (gt r b) = if gt r a < gt r b then gt r b else gt r a := by rw [Int.max_def]; split <;> split <;> omega
 have hb1 : 0 ≤ max (gt r a) (gt r b) ∧ max (gt r a) (gt r b) < p.length := by
  obtain ⟨⟨a1, a2⟩, _⟩ := h.c a ha
  obtain ⟨⟨b1, b2⟩, _⟩ := h.c b hb
  omega
 rw [hhi] at hb1
 rw [hlo, hhi]
 clear hlo hhi
 simp (disch := omega) only [go_sem, ↓reduceIte]
 refine call_by r1 ?_
 simp (disch := omega) only [go_sem, ↓reduceIte]
 refine call_by r2 ?_
 simp (disch := omega) only [go_sem, ↓reduceIte]
theorem w_partition_finest (n : Nat) (hn : n ≤ 1000000) : W P (c_partition_finest F) (Done [.t 2] [] (.arr 1 (ints (nums 0 n))) []) (init [.int .i64 n]) := by
 refine W_of ?_
 simp (config := { maxSteps := 1000000 }) (disch := first | omega | (simp only [go_sem]; omega)) only [go_sem, ↓reduceIte]
 refine W_loop (fun i : Nat => ⟨[(3, .sl 0 0 n), (8, .int .i64 n), (9, .int .i64 i)], [(0, .arr 1 (ints (nums 0 i ++ List.replicate (n - i) 0)))], 1⟩) (fun i => i ≤ n) (fun i => n - i) 0 ?_ ?_ ?_
 ·simp (config := { maxSteps := 1000000 }) (disch := first | omega | (simp only [go_sem]; omega)) only [go_sem, ↓reduceIte, nums_zero]
  rfl
 ·omega
 ·intro i hi
  have hl := nums_len 0 i
  simp (config := { maxSteps := 1000000 }) (disch := first | omega | (simp only [go_sem]; omega)) only [go_sem, ↓reduceIte, c_partition_finest_b7]
  refine bran_dec (fun c => ?_) (fun c => ?_)
  ·have hf : (nums 0 i ++ List.replicate (n - i) 0).set i (i : Int) = nums 0 (i + 1) ++ List.replicate (n - (i + 1)) 0 := by
    have := fillL (nums 0 i) (i : Int) 0 (n - (i + 1))
    rw [hl, show n - (i + 1) + 1 = n - i by omega] at this
    rw [this, nums_succ]
    simp
   simp (config := { maxSteps := 1000000 }) (disch := first | omega | (simp only [go_sem]; omega)) only [go_sem, ↓reduceIte, hl, hf]
   exact ⟨i + 1, by simp, by omega, by omega⟩
  ·obtain rfl : i = n := by omega
   simp (config := { maxSteps := 1000000 }) (disch := first | omega | (simp only [go_sem]; omega)) only [go_sem, ↓reduceIte, hl]
   simp
theorem w_partition_flat (hr : K_partition_root P F) (p r : List Int) (h : Fo p r) (hl : p.length ≤ 1000) : W P (c_partition_flat F) (Done [.t 2] [] (.arr 1 (ints r)) []) (init [.arr 1 (ints p)]) := by
 refine W_of ?_
 have hlr := h.l
 generalize hn : p.length = n at *
 simp (disch := omega) only [go_sem, ↓reduceIte, hn]
 refine W_loop (fun s : Nat × List Int => ⟨[(0, .sl 0 0 n), (5, .int .i64 n), (6, .int .i64 s.1)], [(0, .arr 1 (ints s.2))], 1⟩) (fun s => s.1 ≤ n ∧ s.2.length = n ∧ Fo s.2 r ∧ ∀ j : Nat, j < s.1 → gt s.2 j = gt r j) (fun s => n - s.1) (0, p) ?_ ?_ ?_
 ·simp (disch := omega) only [go_sem, ↓reduceIte, hn]
  rfl
 ·exact ⟨by omega, hn, h, fun j hj => by omega⟩
 ·rintro ⟨i, q⟩ ⟨h1, h2, h3, h4⟩
  simp only at h1 h2 h3 h4
  by_cases c : i < n
  ·have g1 : decide ((i : Int) < n) = true := decide_eq_true (by omega)
   have r1 := hr q r i h3 (by omega) (by omega)
   simp (disch := omega) only [go_sem, ↓reduceIte, c_partition_flat_b6, g1, h2]
   refine call_by r1 ?_
   simp (disch := omega) only [go_sem, ↓reduceIte, h2]
   refine ⟨(i + 1, q.set i (gt r i)), by simp, ⟨by simp only; omega, by simp [h2], h3.flat (by omega), fun j hj => ?_⟩, by simp only; omega⟩
   simp only
   rw [gt_setS (by omega)]
   split
   ·rename_i e; subst e; rfl
   ·simp only at hj; exact h4 j (by omega)
  ·have g1 : decide ((i : Int) < n) = false := decide_eq_false (by omega)
   have e : q = r := list_ext_gt (by omega) fun j hj => h4 j (by omega)
   subst e
   simp (disch := omega) only [go_sem, ↓reduceIte, c_partition_flat_b6, g1, h2]
theorem w_partition_Generate (hf : K_partition_finest P F) (hu : K_partition_unite P F) (hfl : K_partition_flat P F) (n : Nat) (l : List Pr) (hn : n ≤ 80) (hl : l.length ≤ 1000) (hp : PrIn n l) :
  W P (c_partition_Generate F) (Done [.t 4, .t 5] [] (.tup [.arr 1 (ints (genL n l)), .int .i64 0]) []) (init [.int .i64 n, .lst 2 (prs l)]) := by
 refine W_of ?_
 have d1 : decide ((80 : Int) < n) = false := decide_eq_false (by omega)
 have d2 : decide ((n : Int) < 0) = false := decide_eq_false (by omega)
 have r1 := hf n (by omega)
 have nl := nums_len 0 n
 simp (disch := omega) only [go_sem, ↓reduceIte, d1, d2]
 refine call_by r1 ?_
 simp (disch := omega) only [go_sem, ↓reduceIte, nl]
 refine W_loop (fun s : Nat × List Int => ⟨[(0, .int .i64 n), (6, .sl 0 0 n), (15, .lst 2 (prs l)), (16, .int .i64 l.length), (17, .int .i64 s.1)], [(0, .arr 1 (ints s.2))], 1⟩) (fun s => s.1 ≤ l.length ∧ s.2.length = n ∧ Fo s.2 (genI n l s.1)) (fun s => l.length - s.1) (0, nums 0 n) ?_ ?_ ?_
 ·simp (disch := omega) only [go_sem, ↓reduceIte, nl]
  rfl
 ·exact ⟨by simp, nl, nums_Fo n⟩
 ·rintro ⟨i, q⟩ ⟨h1, h2, h3⟩
  simp only at h1 h2 h3
  by_cases c : i < l.length
  ·have g1 : decide ((i : Int) < l.length) = true := decide_eq_true (by omega)
   obtain ⟨⟨a1, a2⟩, b1, b2⟩ := hp i c
   have hs : genI n l (i + 1) = mergeL (genI n l i) (gt l i).a (gt l i).b := rfl
   generalize hgi : genI n l (i + 1) = gi' at *
   generalize genI n l i = gi at *
   obtain ⟨a, ha⟩ := natI a1
   obtain ⟨b, hb⟩ := natI b1
   rw [ha, hb] at hs
   rw [ha] at a1 a2
   rw [hb] at b1 b2
   have r2 := hu q gi a b h3 (by omega) (by omega) (by omega)
   have e1 : decide ((a : Int) < 0) = false := decide_eq_false (by omega)
   have e2 : decide ((n : Int) ≤ a) = false := decide_eq_false (by omega)
   have e3 : decide ((b : Int) < 0) = false := decide_eq_false (by omega)
   have e4 : decide ((n : Int) ≤ b) = false := decide_eq_false (by omega)
   have hf2 := h3.unite (a := a) (b := b) (by omega) (by omega)
   rw [← hs] at hf2
   clear hs
   generalize hq : q.set (max (gt gi a) (gt gi b)).toNat (min (gt gi a) (gt gi b)) = q' at *
   have ql : q'.length = n := by rw [← hq, List.length_set, h2]
   simp (disch := omega) only [go_sem, ↓reduceIte, c_partition_Generate_b13, g1, ha, hb, e1, e2, e3, e4, h2]
   refine call_by r2 ?_
   simp (disch := omega) only [go_sem, ↓reduceIte, h2, ql]
   exact ⟨(i + 1, q'), by simp, ⟨by simp only; omega, ql, by show Fo q' (genI n l (i + 1)); rw [hgi]; exact hf2⟩, by simp only; omega⟩
  ·have g1 : decide ((i : Int) < l.length) = false := decide_eq_false (by omega)
   obtain rfl : i = l.length := by omega
   have gl := gen_len (n := n) (l := l) l.length
   have r2 := hfl q _ h3 (by omega)
   have hE : genL n l = genI n l l.length := rfl
   rw [hE]
   generalize genI n l l.length = gi at *
   simp (disch := omega) only [go_sem, ↓reduceIte, c_partition_Generate_b13, g1, h2]
   refine call_by r2 ?_
   simp (disch := omega) only [go_sem, ↓reduceIte, gl]
end
@[go_sem] def c_iso_All_r0 : LL := [qB 2 0,qB 3 1,qn 4 2,qi 5 0]
@[go_sem] def c_iso_All_r1 (F : Fn) : LL := [qL 8 2 2,qL 9 2 3,qc 10 (F "iso.both") [.t 8,.t 9],qm 6 10]
@[go_sem] def c_iso_All_r2 : LL := [qm 11 6,qk .neq 12 11 0]
@[go_sem] def c_iso_All_r3 : LL := [qm 13 6,qn 4 2,qm 5 13]
@[go_sem] def c_iso_All_r4 (F : Fn) : LL := [qL 14 2 2,qL 15 2 3,qc 16 (F "iso.shaped") [.t 14,.t 15],qv 17 16]
@[go_sem] def c_iso_All_r5 : LL := [qn 4 2,qi 5 0]
@[go_sem] def c_iso_All_r6 (F : Fn) : LL := [qL 18 2 2,qL 19 2 3,qc 20 (F "iso.of") [.t 18,.t 19,.k (.int .i64 (2000))],qm 7 20]
@[go_sem] def c_iso_All_r7 (F : Fn) : LL := [qm 21 7,⟨some 22,.call (F "iso.search.nodes") [.t 21,.k (.nl 0),.k (.clo (F "iso.free") [])] [.mp,.rd,.mp],none⟩]
@[go_sem] def c_iso_All_r8 : LL := [qm 23 7,qf 24 0 23,qf 25 6 24,ql 26 1 25,qz 27 26,qk .gtr 28 27 2000]
@[go_sem] def c_iso_All_r9 : LL := [qn 4 2,qi 5 3]
@[go_sem] def c_iso_All_r10 : LL := [qm 29 7,qf 30 0 29,qf 31 6 30,ql 32 1 31,qm 4 32,qi 5 0]
@[go_sem] def c_iso_All (F : Fn) : LC := (.seq (.reg c_iso_All_r0 [2,3]) (.seq (.seq (.reg (c_iso_All_r1 F) [2,3,6]) (.seq (.reg c_iso_All_r2 [2,3,6,12]) (.cond (.t 12) (.seq (.reg c_iso_All_r3 [4,5]) .ret) .skip))) (.seq (.seq (.reg (c_iso_All_r4 F) [2,3,17]) (.cond (.t 17) (.seq (.reg c_iso_All_r5 [4,5]) .ret) .skip)) (.seq (.reg (c_iso_All_r6 F) [7]) (.seq (.reg (c_iso_All_r7 F) [7]) (.seq (.seq (.reg c_iso_All_r8 [7,28]) (.cond (.t 28) (.seq (.reg c_iso_All_r9 [4,5]) .ret) .skip)) (.seq (.reg c_iso_All_r10 [4,5]) .ret)))))))
def h_iso_All : Hints := hOf [] (c_iso_All fun _ => 0)
@[go_sem] def c_iso_Orbits_r0 : LL := [qB 1 0,qn 2 1,qi 3 0]
@[go_sem] def c_iso_Orbits_r1 (F : Fn) : LL := [qL 9 2 1,qc 10 (F "graph.Valid") [.t 9],qm 4 10]
@[go_sem] def c_iso_Orbits_r2 : LL := [qm 11 4,qk .neq 12 11 0]
@[go_sem] def c_iso_Orbits_r3 : LL := [qm 13 4,qn 2 1,qm 3 13]
@[go_sem] def c_iso_Orbits_r4 : LL := [qf 14 0 1,ql 15 1 14,qz 16 15,qk .gtr 17 16 12]
@[go_sem] def c_iso_Orbits_r5 : LL := [qn 2 1,qi 3 3]
@[go_sem] def c_iso_Orbits_r6 : LL := [qn 5 2]
@[go_sem] def c_iso_Orbits_r7 : LL := [qf 18 0 1,ql 19 1 18,qz 20 19,qi 21 0]
@[go_sem] def c_iso_Orbits_r8 : LL := [qo .lss 22 21 20]
@[go_sem] def c_iso_Orbits_r9 : LL := [qm 23 21,qa 6 [.int .i64 (0)],qs 1 6 23]
@[go_sem] def c_iso_Orbits_r10 : LL := [ql 24 1 6,qi 25 0]
@[go_sem] def c_iso_Orbits_r11 : LL := [qo .lss 26 25 24]
@[go_sem] def c_iso_Orbits_r12 : LL := [qm 27 25,qa 7 [.int .i64 (0)],qs 1 7 27]
@[go_sem] def c_iso_Orbits_r13 (F : Fn) : LL := [qL 28 2 1,qL 29 2 1,qc 30 (F "iso.of") [.t 28,.t 29,.k (.int .i64 (0))],qm 8 30]
@[go_sem] def c_iso_Orbits_r14 (F : Fn) : LL := [qm 31 8,⟨some 32,.mkf (F "iso.Orbits.1") [.t 7,.t 6],none⟩,⟨some 33,.call (F "iso.search.nodes") [.t 31,.k (.nl 0),.t 32] [.mp,.rd,.mp],none⟩]
@[go_sem] def c_iso_Orbits_r15 : LL := [qm 34 8,qf 35 0 34,qf 36 6 35,ql 37 1 36,qz 38 37,qk .gtr 39 38 0]
@[go_sem] def c_iso_Orbits_r16 : LL := [qm 40 5,ql 41 1 7,ql 42 1 6,qu 43 [.int .i64 (0),.int .i64 (0)] [(0,1,.t 41),(1,1,.t 42)],⟨some 44,.buildSl 2 16 (.agg [.int .i64 (0),.int .i64 (0)]) 1 [(0,.t 43)],none⟩,
 qp 45 2 16 40 44,qm 5 45]
@[go_sem] def c_iso_Orbits_r17 : LL := [qk .add 46 25 1,qm 25 46]
def c_iso_Orbits_b18 (F : Fn) : LC := (.seq (.reg c_iso_Orbits_r11 [1,5,6,20,21,24,25,26]) (.seq (.cond (.t 26) .skip (.exit 2)) (.seq (.block 3 (.seq (.reg c_iso_Orbits_r12 [1,5,6,7,20,21,24,25]) (.seq (.reg (c_iso_Orbits_r13 F) [1,5,6,7,8,20,21,24,25]) (.seq (.reg (c_iso_Orbits_r14 F) [1,5,6,7,8,20,21,24,25]) (.seq (.reg c_iso_Orbits_r15 [1,5,6,7,20,21,24,25,39]) (.cond (.t 39) (.seq (.reg c_iso_Orbits_r16 [1,5,20,21]) (.exit 2)) .skip)))))) (.reg c_iso_Orbits_r17 [1,5,6,20,21,24,25]))))
@[go_sem] def c_iso_Orbits_r19 : LL := [qk .add 47 21 1,qm 21 47]
def c_iso_Orbits_b20 (F : Fn) : LC := (.seq (.reg c_iso_Orbits_r8 [1,5,20,21,22]) (.seq (.cond (.t 22) .skip (.exit 0)) (.seq (.block 1 (.seq (.reg c_iso_Orbits_r9 [1,5,6,20,21]) (.seq (.reg c_iso_Orbits_r10 [1,5,6,20,21,24,25]) (.block 2 (.loop [1,5,6,20,21,24,25] (c_iso_Orbits_b18 F)))))) (.reg c_iso_Orbits_r19 [1,5,20,21]))))
@[go_sem] def c_iso_Orbits_r21 (F : Fn) : LL := [qf 48 0 1,ql 49 1 48,qz 50 49,qm 51 5,qc 52 (F "partition.Generate") [.t 50,.t 51],qx 53 52 0,qx 54 52 1,qm 2 53,qm 3 54]
@[go_sem] def c_iso_Orbits (F : Fn) : LC := (.seq (.reg c_iso_Orbits_r0 [1]) (.seq (.seq (.reg (c_iso_Orbits_r1 F) [1,4]) (.seq (.reg c_iso_Orbits_r2 [1,4,12]) (.cond (.t 12) (.seq (.reg c_iso_Orbits_r3 [2,3]) .ret) .skip))) (.seq (.seq (.reg c_iso_Orbits_r4 [1,17]) (.cond (.t 17) (.seq (.reg c_iso_Orbits_r5 [2,3]) .ret) .skip)) (.seq (.reg c_iso_Orbits_r6 [1,5]) (.seq (.seq (.reg c_iso_Orbits_r7 [1,5,20,21]) (.block 0 (.loop [1,5,20,21] (c_iso_Orbits_b20 F)))) (.seq (.reg (c_iso_Orbits_r21 F) [2,3]) .ret))))))
def h_iso_Orbits : Hints := hOf [] (c_iso_Orbits fun _ => 0)
def shpB (a b : G) : Bool := decide (a.n.length = b.n.length) && decide (a.e.length = b.e.length)
def isoN (a b : G) (m : Int) (al : Int → Int → Bool) : List Mo := nN a b (colJ a b) m al a.n.length [] []
def allP (a b : G) : List Mo × Int := if bothE a b = 0 then (if shpB a b = true then (if 2000 < (isoN a b 2000 fun _ _ => true).length then ([], 3) else (isoN a b 2000 fun _ _ => true, 0)) else ([], 0)) else ([], bothE a b)
def alO (u v : Nat) (i n : Int) : Bool := !decide (i = u) || decide (n = v)
def fndO (g : G) (u v : Nat) : Bool := !(isoN g g 0 (alO u v)).isEmpty
def orbU (g : G) (v : Nat) : Option Nat := (List.range v).find? fun u => fndO g u v
def orbS (g : G) (v : Nat) : List Pr := match orbU g v with | some u => [⟨u, v⟩] | none => []
def orbP (g : G) : List Pr := (List.range g.n.length).flatMap (orbS g)
def orbR (g : G) : List Int × Int := if validG g = 0 then (if 12 < g.n.length then ([], 3) else (genL g.n.length (orbP g), 0)) else ([], validG g)
section
variable (P : Program) (F : String → Nat)
def K_iso_Orbits : Prop := ∀ g : G, FC P (F "iso.Orbits") [gD g] (.tup [.arr 1 (ints (orbR g).1), .int .i64 (orbR g).2]) []
def K_iso_All : Prop := ∀ a b : G, FC P (F "iso.All") [gD a, gD b] (.tup [.arr 2 (pts (allP a b).1), .int .i64 (allP a b).2]) []
end
section
variable {P : Program} {F : String → Nat} {α : Type}
theorem colJ_len {a b : G} (va : validG a = 0) (vb : validG b = 0) : (colJ a b).length = a.n.length + b.n.length := by
 obtain ⟨hi, hn⟩ := InG.join va vb
 have key : ∀ (g : G) (k : Nat) (s : List (List Int)), s.length = g.n.length → (stb g k s).length = g.n.length := fun g k => by
  induction k with
  | zero => intro s h; rw [stb, colL_length, h]
  | succ k ih =>
   intro s h
   rw [stb]
   split
   ·rw [colL_length, h]
   ·exact ih _ (nextL_length g _)
 rw [colJ, stabL, key _ _ _ (frstL_length _), hn]
theorem bothE_spec {a b : G} (h : bothE a b = 0) : validG a = 0 ∧ validG b = 0 := by
 unfold bothE at h
 split at h
 ·exact ⟨by assumption, h⟩
 ·exact absurd h (by assumption)
theorem iso_call (hn : K_iso_search_nodes P F) (hf : K_iso_free P F) {a b : G} (va : validG a = 0) (vb : validG b = 0) (m : Int) (h3 : 0 ≤ m) (h4 : m ≤ 2000) :
  FC P (F "iso.search.nodes") [seBx a b (colJ a b) m [], .nl 0, .clb (F "iso.free") []] (.tup []) [(0, seBx a b (colJ a b) m (isoN a b m fun _ _ => true)), (2, .clb (F "iso.free") [])] := by
 have h := hn a.n.length a b (colJ a b) m [] [] (F "iso.free") [] (fun _ _ => true) (.inl ⟨rfl, fun i n => hf i n⟩) va vb (colJ_len va vb) (by simp) h3 h4 (by simp; omega)
 exact FC.nils (a := [seBx a b (colJ a b) m [], .nl 0, .clb (F "iso.free") []]) h (by simp [NilW, ints])
theorem w_iso_All (hb : K_iso_both P F) (hsh : K_iso_shaped P F) (hof : K_iso_of P F) (hn : K_iso_search_nodes P F) (hf : K_iso_free P F) (a b : G) : W P (c_iso_All F) (Done [.t 4, .t 5] [] (.tup [.arr 2 (pts (allP a b).1), .int .i64 (allP a b).2]) []) (init [gD a, gD b]) := by
 have r1 := hb a b
 have r2 := hsh a b
 by_cases hv : bothE a b = 0
 ·obtain ⟨va, vb⟩ := bothE_spec hv
  have r3 := hof a b 2000 va vb
  have r4 := iso_call hn hf va vb 2000 (by omega) (by omega)
  have hA : allP a b = if shpB a b = true then (if 2000 < (isoN a b 2000 fun _ _ => true).length then ([], 3) else (isoN a b 2000 fun _ _ => true, 0)) else ([], 0) := if_pos hv
  have hl : ((isoN a b 2000 fun _ _ => true).length : Int) ≤ 2001 := by
   have := nN_len a b (colJ a b) 2000 (fun _ _ => true) a.n.length [] [] (by simp)
   unfold isoN
   omega
  rw [hA]
  rw [hv] at r1
  rw [show (decide (a.n.length = b.n.length) && decide (a.e.length = b.e.length)) = shpB a b from rfl] at r2
  generalize (isoN a b 2000 fun _ _ => true) = l at *
  generalize shpB a b = sh at *
  generalize colJ a b = c at *
  simp only [gD, seBx] at *
  refine W_of ?_
  have d0 : decide ((0 : Int) = 0) = true := rfl
  simp (disch := omega) only [go_sem, ↓reduceIte]
  refine call_by r1 ?_
  simp (disch := omega) only [go_sem, ↓reduceIte, d0]
  refine call_by r2 ?_
  cases sh with
  | false =>
   simp (disch := omega) only [go_sem, ↓reduceIte]
   rfl
  | true =>
   simp (disch := omega) only [go_sem, ↓reduceIte]
   refine call_fz r3 ?_
   simp (disch := omega) only [go_sem, ↓reduceIte]
   refine call_fz r4 ?_
   simp (disch := omega) only [go_sem, ↓reduceIte]
   refine bran_dec (fun d => ?_) (fun d => ?_)
   ·rw [if_pos rfl, if_pos (by omega)]
    simp (disch := omega) only [go_sem, ↓reduceIte]
    rfl
   ·rw [if_pos rfl, if_neg (by omega)]
    simp (disch := omega) only [go_sem, ↓reduceIte]
 ·rw [show allP a b = ([], bothE a b) from if_neg hv]
  generalize bothE a b = e at *
  simp only [gD] at *
  refine W_of ?_
  have d0 : decide (e = 0) = false := decide_eq_false hv
  simp (disch := omega) only [go_sem, ↓reduceIte]
  refine call_by r1 ?_
  simp (disch := omega) only [go_sem, ↓reduceIte, d0]
  rfl
theorem orb_call (hn : K_iso_search_nodes P F) (ho : K_iso_Orbits_1 P F) {g : G} (va : validG g = 0) (u v : Nat) :
  FC P (F "iso.search.nodes") [seBx g g (colJ g g) 0 [], .nl 0, .clb (F "iso.Orbits.1") [.box [.int .i64 u], .box [.int .i64 v]]] (.tup []) [(0, seBx g g (colJ g g) 0 (isoN g g 0 (alO u v))), (2, .clb (F "iso.Orbits.1") [.box [.int .i64 u], .box [.int .i64 v]])] := by
 have h := hn g.n.length g g (colJ g g) 0 [] [] (F "iso.Orbits.1") [.box [.int .i64 u], .box [.int .i64 v]] (alO u v) (.inr ⟨u, v, rfl, fun i n => ho i n u v⟩) va va (colJ_len va va) (by simp) (by omega) (by omega) (by simp)
 exact FC.nils (a := [seBx g g (colJ g g) 0 [], .nl 0, .clb (F "iso.Orbits.1") [.box [.int .i64 u], .box [.int .i64 v]]]) h (by simp [NilW, ints])
theorem orbS_len (g : G) (v : Nat) : (orbS g v).length ≤ 1 := by unfold orbS; split <;> simp
theorem flat1_len {β : Type} {f : Nat → List β} (h : ∀ v, (f v).length ≤ 1) : ∀ l : List Nat, (l.flatMap f).length ≤ l.length
 | [] => by simp
 | a :: l => by
  have := h a
  have := flat1_len h l
  simp only [List.flatMap_cons, List.length_append, List.length_cons]
  omega
theorem orbU_lt {g : G} {v u : Nat} (h : orbU g v = some u) : u < v := by simpa using List.mem_of_find?_eq_some h
theorem orbP_in (g : G) : PrIn g.n.length (orbP g) := by
 intro i hi
 have hm := gt_mem (l := orbP g) (j := (i : Int)) (by omega) (by omega)
 obtain ⟨v, hv, hx⟩ := List.mem_flatMap.1 hm
 have hv := List.mem_range.1 hv
 unfold orbS at hx
 split at hx
 ·rename_i u hu
  have := orbU_lt hu
  simp only [List.mem_singleton] at hx
  rw [hx]
  simp only
  omega
 ·simp at hx
set_option maxRecDepth 100000 in
theorem w_iso_Orbits (hv : K_graph_Valid P F) (hof : K_iso_of P F) (hn : K_iso_search_nodes P F) (ho : K_iso_Orbits_1 P F) (hg : K_partition_Generate P F) (g : G) : W P (c_iso_Orbits F) (Done [.t 2, .t 3] [] (.tup [.arr 1 (ints (orbR g).1), .int .i64 (orbR g).2]) []) (init [gD g]) := by
 have r1 := hv g
 by_cases h0 : validG g = 0
 ·by_cases h1 : 12 < g.n.length
  ·rw [show orbR g = ([], 3) by unfold orbR; rw [if_pos h0, if_pos h1]]
   rw [h0] at r1
   have d0 : decide ((0 : Int) = 0) = true := rfl
   have d1 : decide ((12 : Int) < g.n.length) = true := decide_eq_true (by omega)
   simp only [gD] at *
   refine W_of ?_
   simp (disch := omega) only [go_sem, ↓reduceIte]
   refine call_by r1 ?_
   simp (disch := omega) only [go_sem, ↓reduceIte, d0, d1]
   rfl
  ·rw [show orbR g = (genL g.n.length (orbP g), 0) by unfold orbR; rw [if_pos h0, if_neg h1]]
   rw [h0] at r1
   have hpl : (orbP g).length ≤ 12 := by
    have := flat1_len (orbS_len g) (List.range g.n.length)
    rw [List.length_range] at this
    unfold orbP
    omega
   have r5 := hg g.n.length (orbP g) (by omega) (by omega) (orbP_in g)
   have r2 := hof g g 0 h0 h0
   have r3 := fun u v => orb_call hn ho h0 u v
   have hf : ∀ u v, fndO g u v = !(isoN g g 0 (alO u v)).isEmpty := fun _ _ => rfl
   have hl : ∀ u v, ((isoN g g 0 (alO u v)).length : Int) ≤ 1 := fun u v => by
    have := nN_len g g (colJ g g) 0 (alO u v) g.n.length [] [] (by simp)
    unfold isoN
    omega
   have hu : ∀ v, orbU g v = (List.range v).find? fun u => fndO g u v := fun _ => rfl
   have hS : ∀ v, orbS g v = match orbU g v with | some u => [⟨u, v⟩] | none => [] := fun _ => rfl
   have hP : orbP g = (List.range g.n.length).flatMap (orbS g) := rfl
   have hPt : ∀ v, v < g.n.length → ((List.range g.n.length).take (v + 1)).flatMap (orbS g) = ((List.range g.n.length).take v).flatMap (orbS g) ++ orbS g v := fun v hv => by
    rw [List.take_range, List.take_range, show min (v + 1) g.n.length = v + 1 by omega, show min v g.n.length = v by omega, List.range_succ, List.flatMap_append]
    simp
   have hPn : ((List.range g.n.length).take g.n.length).flatMap (orbS g) = orbP g := by rw [List.take_of_length_le (by simp)]; rfl
   have hPl : ∀ v, v ≤ g.n.length → (((List.range g.n.length).take v).flatMap (orbS g)).length ≤ 12 := fun v hv => by
    have := flat1_len (orbS_len g) ((List.range g.n.length).take v)
    rw [List.length_take, List.length_range] at this
    omega
   generalize orbP g = PP at *
   obtain ⟨A, hA⟩ : ∃ A : Nat → List Pr, ∀ v, A v = ((List.range g.n.length).take v).flatMap (orbS g) := ⟨_, fun _ => rfl⟩
   have hA0 : A 0 = [] := by rw [hA]; rfl
   simp only [← hA] at hPt hPn hPl
   generalize isoN g g 0 = iso at *
   generalize colJ g g = c at *
   generalize orbS g = S at *
   generalize orbU g = U at *
   generalize fndO g = fnd at *
   clear hA hP hv hof hn ho hg
   simp only [gD, seBx] at *
   refine W_of ?_
   have d0 : decide ((0 : Int) = 0) = true := rfl
   have d1 : decide ((12 : Int) < g.n.length) = false := decide_eq_false (by omega)
   simp (disch := omega) only [go_sem, ↓reduceIte]
   refine call_by r1 ?_
   simp (disch := omega) only [go_sem, ↓reduceIte, d0, d1]
   refine W_loop (fun v : Nat => ⟨[(1, .pt 0 0), (5, .sl 1 0 (A v).length), (20, .int .i64 g.n.length), (21, .int .i64 v)], [(0, .box [.lst 1 (ints g.n), .lst 3 (eds g.e)]), (1, .arr 2 (prs (A v)))], 2⟩) (fun v => v ≤ g.n.length) (fun v => g.n.length - v) 0 ?_ ?_ ?_
   ·simp (disch := omega) only [go_sem, ↓reduceIte, hA0]
    rfl
   ·omega
   ·intro v hv
    have hAl := hPl v hv
    simp (disch := omega) only [go_sem, ↓reduceIte, c_iso_Orbits_b20]
    refine bran_dec (fun d => ?_) (fun d => ?_)
    ·have hAv := hPt v (by omega)
     have hSv := hS v
     have hUv := hu v
     simp (disch := omega) only [go_sem, ↓reduceIte]
     refine W_loop (fun u : Nat => ⟨[(1, .pt 0 0), (5, .sl 1 0 (A v).length), (6, .pt 2 0), (20, .int .i64 g.n.length), (21, .int .i64 v), (24, .int .i64 v), (25, .int .i64 u)], [(0, .box [.lst 1 (ints g.n), .lst 3 (eds g.e)]), (1, .arr 2 (prs (A v))), (2, .box [.int .i64 v])], 3⟩)
      (fun u => u ≤ v ∧ U v = (List.range' u (v - u)).find? fun u => fnd u v) (fun u => v - u) 0 ?_ ?_ ?_
     ·simp (disch := omega) only [go_sem, ↓reduceIte]
      rfl
     ·exact ⟨Nat.zero_le _, by rw [hUv, List.range_eq_range', Nat.sub_zero]⟩
     ·rintro u ⟨k1, k2⟩
      simp (disch := omega) only [go_sem, ↓reduceIte, c_iso_Orbits_b18]
      refine bran_dec (fun e => ?_) (fun e => ?_)
      ·have hk : List.range' u (v - u) = u :: List.range' (u + 1) (v - (u + 1)) := by
        rw [show v - u = (v - (u + 1)) + 1 by omega, List.range'_succ]
       rw [hk, List.find?_cons, hf] at k2
       have q3 := r3 u v
       have ql := hl u v
       generalize iso (alO u v) = L at *
       simp (disch := omega) only [go_sem, ↓reduceIte]
       refine call_fz r2 ?_
       simp (disch := omega) only [go_sem, ↓reduceIte]
       refine call_fz q3 ?_
       simp (disch := omega) only [go_sem, ↓reduceIte]
       refine bran_dec (fun f => ?_) (fun f => ?_)
       ·have hne : L.isEmpty = false := by
         cases L with
         | nil => simp at f
         | cons x l => rfl
        rw [hne] at k2
        simp only [Bool.not_false] at k2
        rw [k2] at hSv
        simp only at hSv
        rw [hSv] at hAv
        simp (disch := omega) only [go_sem, ↓reduceIte]
        exact ⟨v + 1, by simp [hAv], by omega, by omega⟩
       ·have hne : L.isEmpty = true := by
         cases L with
         | nil => rfl
         | cons x l => exact absurd (by simp) f
        rw [hne] at k2
        simp only [Bool.not_true] at k2
        simp (disch := omega) only [go_sem, ↓reduceIte]
        exact ⟨u + 1, by simp, ⟨by omega, k2⟩, by omega⟩
      ·obtain rfl : u = v := by omega
       rw [Nat.sub_self] at k2
       simp only [List.range'_zero, List.find?_nil] at k2
       rw [k2] at hSv
       simp only at hSv
       rw [hSv, List.append_nil] at hAv
       simp (disch := omega) only [go_sem, ↓reduceIte]
       exact ⟨u + 1, by simp [hAv], by omega, by omega⟩
    ·obtain rfl : v = g.n.length := by omega
     rw [hPn] at *
     simp (disch := omega) only [go_sem, ↓reduceIte]
     refine call_by r5 ?_
     simp (disch := omega) only [go_sem, ↓reduceIte]
 ·rw [show orbR g = ([], validG g) from if_neg h0]
  generalize validG g = e at *
  simp only [gD] at *
  refine W_of ?_
  have d0 : decide (e = 0) = false := decide_eq_false h0
  simp (disch := omega) only [go_sem, ↓reduceIte]
  refine call_by r1 ?_
  simp (disch := omega) only [go_sem, ↓reduceIte, d0]
  rfl
end
@[go_sem] def c_l08_awake_r0 : LL := [qb 0 false]
@[go_sem] def c_l08_awake_r1 : LL := [⟨some 14,.buildSl 1 8 (.int .i64 (0)) 3 [(0,.k (.int .i64 (0))),(1,.k (.int .i64 (0))),(2,.k (.int .i64 (0)))],none⟩,
 qu 15 [.int .i64 (0),.int .i64 (0),.int .i64 (0)] [(1,1,.k (.int .i64 (0))),(2,1,.k (.int .i64 (1)))],
 qu 16 [.int .i64 (0),.int .i64 (0),.int .i64 (0)] [(1,1,.k (.int .i64 (1))),(2,1,.k (.int .i64 (2)))],
 ⟨some 17,.buildSl 3 24 (.agg [.int .i64 (0),.int .i64 (0),.int .i64 (0)]) 2 [(0,.t 15),(1,.t 16)],none⟩,qu 18 [.nl 1,.nl 3] [(0,1,.t 14),(1,1,.t 17)],
 qa 1 [.nl 1,.nl 3],qs 2 1 18]
@[go_sem] def c_l08_awake_r2 : LL := [⟨some 19,.buildSl 1 8 (.int .i64 (0)) 3 [(0,.k (.int .i64 (0))),(1,.k (.int .i64 (0))),(2,.k (.int .i64 (0)))],none⟩,
 qu 20 [.int .i64 (0),.int .i64 (0),.int .i64 (0)] [(1,1,.k (.int .i64 (0))),(2,1,.k (.int .i64 (1)))],
 qu 21 [.int .i64 (0),.int .i64 (0),.int .i64 (0)] [(1,1,.k (.int .i64 (2))),(2,1,.k (.int .i64 (1)))],
 ⟨some 22,.buildSl 3 24 (.agg [.int .i64 (0),.int .i64 (0),.int .i64 (0)]) 2 [(0,.t 20),(1,.t 21)],none⟩,qu 23 [.nl 1,.nl 3] [(0,1,.t 19),(1,1,.t 22)],
 qa 2 [.nl 1,.nl 3],qs 2 2 23]
@[go_sem] def c_l08_awake_r3 : LL := [⟨some 24,.buildSl 1 8 (.int .i64 (0)) 2 [(0,.k (.int .i64 (0))),(1,.k (.int .i64 (0)))],none⟩,qu 25 [.nl 1,.nl 3] [(0,1,.t 24)],qa 3 [.nl 1,.nl 3],qs 2 3 25]
@[go_sem] def c_l08_awake_r4 (F : Fn) : LL := [qL 27 2 1,qc 28 (F "iso.Refine") [.t 27],qm 26 28,qx 29 26 0,qx 30 26 1,qm 4 29,qm 5 30]
@[go_sem] def c_l08_awake_r5 (F : Fn) : LL := [qL 32 2 1,qL 33 2 1,qc 34 (F "iso.All") [.t 32,.t 33],qm 31 34,qx 35 31 0,qx 36 31 1,qm 6 35,qm 7 36]
@[go_sem] def c_l08_awake_r6 (F : Fn) : LL := [qL 38 2 3,qc 39 (F "iso.Orbits") [.t 38],qm 37 39,qx 40 37 0,qx 41 37 1,qm 8 40,qm 9 41]
@[go_sem] def c_l08_awake_r7 (F : Fn) : LL := [qL 43 2 3,qL 44 2 3,qc 45 (F "iso.All") [.t 43,.t 44],qm 42 45,qx 46 42 0,qx 47 42 1,qm 10 46,qm 11 47]
@[go_sem] def c_l08_awake_r8 (F : Fn) : LL := [qL 49 2 1,qL 50 2 2,qc 51 (F "iso.Reason") [.t 49,.t 50],qm 48 51,qx 52 48 0,qx 53 48 1,qa 12 [.int .i64 (0),.nl 1,.int .i64 (0),.int .i64 (0)],qs 4 12 52,qm 13 53]
@[go_sem] def c_l08_awake_r9 (F : Fn) : LL := [qm 54 5,qk .eql 55 54 0,qm 56 55,qg 56 true (qm 57 4),
 ⟨some 58,.buildSl 1 8 (.int .i64 (0)) 3 [(0,.k (.int .i64 (0))),(1,.k (.int .i64 (1))),(2,.k (.int .i64 (2)))],some (56,true)⟩,qg 56 true (qc 59 (F "slices.Equal.I") [.t 57,.t 58]),
 qP 60 56 59,qm 61 60,qg 61 true (qm 62 7),qg 61 true (qk .eql 63 62 0),qP 64 61 63,qm 65 64,qg 65 true (qm 66 6),qg 65 true (qz 67 66),qg 65 true (qk .eql 68 67 1),qP 69 65 68,
 qm 70 69,qg 70 true (qm 71 9),qg 70 true (qk .eql 72 71 0),qP 73 70 72,qm 74 73,qg 74 true (qm 75 8),
 ⟨some 76,.buildSl 1 8 (.int .i64 (0)) 2 [(0,.k (.int .i64 (0))),(1,.k (.int .i64 (0)))],some (74,true)⟩,qg 74 true (qc 77 (F "slices.Equal.I") [.t 75,.t 76]),qP 78 74 77,qm 79 78,
 qg 79 true (qm 80 11),qg 79 true (qk .eql 81 80 0),qP 82 79 81,qm 83 82,qg 83 true (qm 84 10),qg 83 true (qz 85 84),qg 83 true (qk .eql 86 85 2),qP 87 83 86,qm 88 87,
 qg 88 true (qm 89 13),qg 88 true (qk .eql 90 89 0),qP 91 88 90,qm 92 91,qg 92 true (qL 93 4 12),
 ⟨some 94,.buildSl 1 8 (.int .i64 (0)) 4 [(0,.k (.int .i64 (0))),(1,.k (.int .i64 (0))),(2,.k (.int .i64 (0))),(3,.k (.int .i64 (0)))],some (92,true)⟩,
 qg 92 true (qu 95 [.int .i64 (0),.nl 1,.int .i64 (0),.int .i64 (0)] [(0,1,.k (.int .i64 (1))),(1,1,.t 94),(2,1,.k (.int .i64 (1))),(3,1,.k (.int .i64 (2)))]),
 qg 92 true (qc 96 (F "r08.SameDiffer") [.t 93,.t 95]),qP 97 92 96,qm 0 97]
@[go_sem] def c_l08_awake (F : Fn) : LC := (.seq (.reg c_l08_awake_r0 []) (.seq (.reg c_l08_awake_r1 [1]) (.seq (.reg c_l08_awake_r2 [1,2]) (.seq (.reg c_l08_awake_r3 [1,2,3]) (.seq (.reg (c_l08_awake_r4 F) [1,2,3,4,5]) (.seq (.reg (c_l08_awake_r5 F) [1,2,3,4,5,6,7]) (.seq (.reg (c_l08_awake_r6 F) [1,2,3,4,5,6,7,8,9]) (.seq (.reg (c_l08_awake_r7 F) [1,2,4,5,6,7,8,9,10,11]) (.seq (.reg (c_l08_awake_r8 F) [4,5,6,7,8,9,10,11,12,13]) (.seq (.reg (c_l08_awake_r9 F) [0]) .ret))))))))))
def h_l08_awake : Hints := hOf [] (c_l08_awake fun _ => 0)
def gP : G := ⟨[0, 0, 0], [⟨0, 0, 1⟩, ⟨0, 1, 2⟩]⟩
def gV : G := ⟨[0, 0, 0], [⟨0, 0, 1⟩, ⟨0, 2, 1⟩]⟩
def gT : G := ⟨[0, 0], []⟩
section
variable (P : Program) (F : String → Nat)
def K_l08_awake : Prop := FC P (F "l08.awake") [] (.bool true) []
end
section
variable {P : Program} {F : String → Nat} {α : Type}
theorem ex_ref : refD gP = .tup [.lst 1 [.int .i64 0, .int .i64 1, .int .i64 2], .int .i64 0] := by
 rw [show refD gP = .tup [.lst 1 (ints (stabL gP)), .int .i64 0] from if_pos (by decide +kernel), show stabL gP = [0, 1, 2] by decide +kernel]
 rfl
theorem ex_all : allP gP gP = ([⟨[0, 1, 2], [0, 1]⟩], 0) := by decide +kernel
theorem ex_two : allP gT gT = ([⟨[0, 1], []⟩, ⟨[1, 0], []⟩], 0) := by decide +kernel
theorem ex_orb : orbR gT = ([0, 0], 0) := by decide +kernel
theorem ex_rsn : rsnD gP gV = .tup [.agg [.int .i64 1, .lst 1 [.int .i64 0, .int .i64 0, .int .i64 0, .int .i64 0], .int .i64 1, .int .i64 2], .int .i64 0] := by
 have h : rsnR gP gV = (⟨1, [0, 0, 0, 0], 1, 2⟩, true) := by decide +kernel
 have hb : bothE gP gV = 0 := by decide +kernel
 rw [show rsnD gP gV = _ from if_pos hb, h]
 rfl
set_option maxRecDepth 100000 in
theorem w_l08_awake (h1 : K_iso_Refine P F) (h2 : K_iso_All P F) (h3 : K_iso_Orbits P F) (h4 : K_iso_Reason P F) (h5 : K_slices_Equal_I P F) (h6 : K_r08_SameDiffer P F) : W P (c_l08_awake F) (Done [.t 0] [] (.bool true) []) (init []) := by
 refine W_of ?_
 have r1 := h1 gP
 have r2 := h2 gP gP
 have r3 := h3 gT
 have r4 := h2 gT gT
 have r5 := h4 gP gV
 rw [ex_ref] at r1
 have q2 : (allP gP gP).2 = 0 ∧ (allP gP gP).1.length = 1 := by rw [ex_all]; exact ⟨rfl, rfl⟩
 have q4 : (allP gT gT).2 = 0 ∧ (allP gT gT).1.length = 2 := by rw [ex_two]; exact ⟨rfl, rfl⟩
 rw [q2.1] at r2
 rw [q4.1] at r4
 replace q2 := q2.2
 replace q4 := q4.2
 generalize (allP gP gP).1 = l2 at *
 generalize (allP gT gT).1 = l4 at *
 rw [ex_orb] at r3
 rw [ex_rsn] at r5
 have r6 := h5 [0, 1, 2] [0, 1, 2] (by decide)
 rw [decide_eq_true rfl] at r6
 have r7 := h5 [0, 0] [0, 0] (by decide)
 rw [decide_eq_true rfl] at r7
 have r8 := h6 ⟨1, [0, 0, 0, 0], 1, 2⟩ ⟨1, [0, 0, 0, 0], 1, 2⟩ (by decide)
 rw [decide_eq_true rfl] at r8
 simp only [gP, gV, gT, gD, mD, dfD, dfC] at *
 have d2 : decide ((l2.length : Int) = 1) = true := decide_eq_true (by omega)
 have d4 : decide ((l4.length : Int) = 2) = true := decide_eq_true (by omega)
 cases f2 : (pts l2).all D.flatE <;> cases f4 : (pts l4).all D.flatE
 all_goals
  simp (disch := omega) only [go_sem, ↓reduceIte]
  refine call_by r1 ?_
  simp (disch := omega) only [go_sem, ↓reduceIte]
  refine call_by r2 ?_
  simp (disch := omega) only [go_sem, ↓reduceIte, f2, f4, d2, d4]
  refine call_by r3 ?_
  simp (disch := omega) only [go_sem, ↓reduceIte, f2, f4, d2, d4]
  refine call_by r4 ?_
  simp (disch := omega) only [go_sem, ↓reduceIte, f2, f4, d2, d4]
  refine call_by r5 ?_
  simp (disch := omega) only [go_sem, ↓reduceIte, f2, f4, d2, d4]
  refine call_by r6 ?_
  simp (disch := omega) only [go_sem, ↓reduceIte, f2, f4, d2, d4]
  refine call_by r7 ?_
  simp (disch := omega) only [go_sem, ↓reduceIte, f2, f4, d2, d4]
  refine call_by r8 ?_
  simp (disch := omega) only [go_sem, ↓reduceIte, f2, f4, d2, d4]
end
def numP (t f o : Int) (x : E) : Bool := decide (x.t = t) && (decide (x.f = f) && decide (x.o = o))
def numL (g : G) (t f o : Int) : Nat := (g.e.filter (numP t f o)).length
def kndL (a b : G) (k : Nat) : Int := if k < a.e.length then (gt a.e (k : Int)).t else (gt b.e ((k - a.e.length : Nat) : Int)).t
def pairR (a b : G) (i k n m t : Int) : Bool := decide (numL a t k i = numL b t m n) && decide (numL a t i k = numL b t n m)
def fitsR (a b : G) (ns : List Int) (n : Int) : Bool := decide (gt a.n ns.length = gt b.n n) && (!decide (n ∈ ns) && (List.range (ns.length + 1)).all fun k => (List.range (a.e.length + b.e.length)).all fun t => pairR a b ns.length k n (gt (ns ++ [n]) (k : Int)) (kndL a b t))
section
variable (P : Program) (F : String → Nat)
end
section
variable {P : Program} {F : String → Nat} {α : Type}
end
section
def fullN (N : Nat) (ok : List Int → Int → Bool) : Nat → List Int → List (List Int)
 | 0, ns => [ns]
 | k + 1, ns => (List.range N).flatMap fun (n : Nat) => if ok ns (n : Int) then fullN N ok k (ns ++ [(n : Int)]) else []
def imE (a b : G) (ns : List Int) : List (List Int) := fullN b.e.length (fun es n => wnt a b ns es n.toNat) a.e.length []
def imM (a b : G) (ns : List Int) : List Mo := (imE a b ns).map fun es => ⟨ns, es⟩
end
section
theorem gt_app_l {α : Type} [Inhabited α] {x y : List α} {i : Int} (h0 : 0 ≤ i) (h : i < x.length) : gt (x ++ y) i = gt x i := by
 obtain ⟨j, rfl⟩ := Int.eq_ofNat_of_zero_le h0
 rw [gt_nat (by simp; omega), gt_nat (by omega), List.getElem_append_left (by omega)]
theorem flatMap_congr' {α β : Type} {f g : α → List β} : ∀ {l : List α}, (∀ x ∈ l, f x = g x) → l.flatMap f = l.flatMap g
 | [], _ => rfl
 | x :: l, h => by rw [List.flatMap_cons, List.flatMap_cons, h x (by simp), flatMap_congr' fun y hy => h y (by simp [hy])]
theorem trE_sh {c d : List Int} {i j : Nat} {x y : E} (ht : x.t = y.t) (hf : x.f = i ↔ y.f = j) (ho : x.o = i ↔ y.o = j) (h1 : gt c x.o = gt d y.o) (h2 : gt c x.f = gt d y.f) : trE c i x = trE d j y := by
 unfold trE
 rw [ht, h1, h2]
 by_cases e1 : y.f = j <;> by_cases e2 : y.o = j <;> simp [hf, ho, e1, e2]
theorem perm_sub {α : Type} [DecidableEq α] : ∀ {A B : List α}, A.Nodup → (∀ x ∈ A, x ∈ B) → A.length = B.length → A.Perm B
 | [], B, _, _, h => by rw [List.eq_nil_of_length_eq_zero (l := B) (by simpa using h.symm)]
 | x :: A, B, hn, hs, h => by
  rw [List.nodup_cons] at hn
  have hx := hs x (by simp)
  have hl := List.length_erase_of_mem hx
  have := perm_sub (A := A) (B := B.erase x) hn.2 (fun y hy => (List.mem_erase_of_ne (fun e => hn.1 (by rw [← e]; exact hy))).2 (hs y (by simp [hy]))) (by simp at h; omega)
  exact (this.cons x).trans (List.perm_cons_erase hx).symm
end
section
theorem gt_take' {l : List Int} {i k : Nat} (h : k < i) (hl : i ≤ l.length) : gt (l.take i) (k : Int) = gt l (k : Int) := by
 rw [gt_nat (by simp; omega), gt_nat (by omega), List.getElem_take]
theorem mem_fullN {N : Nat} {ok : List Int → Int → Bool} : ∀ {k : Nat} {ns l : List Int}, l ∈ fullN N ok k ns ↔ l.length = ns.length + k ∧ l.take ns.length = ns ∧ ∀ i : Nat, ns.length ≤ i → i < l.length → (0 ≤ gt l (i : Int) ∧ gt l (i : Int) < N) ∧ ok (l.take i) (gt l (i : Int)) = true
 | 0, ns, l => by
  simp only [fullN, List.mem_singleton, Nat.add_zero]
  constructor
  ·rintro rfl
   exact ⟨rfl, List.take_length, fun i h1 h2 => by omega⟩
  ·rintro ⟨h1, h2, _⟩
   rw [← h1, List.take_length] at h2
   exact h2
 | k + 1, ns, l => by
  simp only [fullN, List.mem_flatMap, List.mem_range]
  constructor
  ·rintro ⟨n, hn, h⟩
   split at h
   ·rename_i hok
    obtain ⟨h1, h2, h3⟩ := mem_fullN.1 h
    simp only [List.length_append, List.length_singleton] at h1 h2 h3
    have hg : gt l (ns.length : Int) = n ∧ l.take ns.length = ns := by
     have e := take_gt (l := l) (i := ns.length) (by omega)
     rw [h2] at e
     obtain ⟨e1, e2⟩ := List.append_inj' e rfl
     simp only [List.cons.injEq, and_true] at e2
     exact ⟨e2.symm, e1.symm⟩
    refine ⟨by omega, hg.2, fun i h4 h5 => ?_⟩
    rcases Nat.lt_or_ge ns.length i with h6 | h6
    ·exact h3 i (by omega) h5
    ·obtain rfl : i = ns.length := by omega
     rw [hg.1, hg.2]
     exact ⟨⟨by omega, by omega⟩, hok⟩
   ·cases h
  ·rintro ⟨h1, h2, h3⟩
   obtain ⟨⟨h4, h5⟩, h6⟩ := h3 ns.length (Nat.le_refl _) (by omega)
   rw [h2] at h6
   obtain ⟨n, hn⟩ := Int.eq_ofNat_of_zero_le h4
   rw [hn] at h5 h6
   refine ⟨n, by omega, ?_⟩
   rw [if_pos h6]
   refine mem_fullN.2 ⟨by simp; omega, ?_, fun i h7 h8 => h3 i (by simp at h7; omega) h8⟩
   rw [List.length_append, List.length_singleton, take_gt (by omega), h2, hn]
structure NIso (a b : G) (l : List Int) : Prop where
 len : l.length = a.n.length
 rng : ∀ i : Nat, i < a.n.length → 0 ≤ gt l (i : Int) ∧ gt l (i : Int) < b.n.length
 inj : ∀ i k : Nat, i < a.n.length → k < a.n.length → gt l (i : Int) = gt l (k : Int) → i = k
 ty : ∀ i : Nat, i < a.n.length → gt a.n (i : Int) = gt b.n (gt l (i : Int))
 num : ∀ (t : Int) (i k : Nat), i < a.n.length → k < a.n.length → numL a t i k = numL b t (gt l (i : Int)) (gt l (k : Int))
theorem not_mem_take {l : List Int} {i : Nat} (hi : i < l.length) : gt l (i : Int) ∉ l.take i ↔ ∀ k : Nat, k < i → gt l (k : Int) ≠ gt l (i : Int) := by
 constructor
 ·intro h k hk e
  apply h
  rw [← e, ← gt_take' hk (by omega)]
  exact gt_mem (by omega) (by simp; omega)
 ·intro h hm
  obtain ⟨k, hk, e⟩ := List.mem_iff_getElem.1 hm
  simp only [List.length_take] at hk
  refine h k (by omega) ?_
  rw [← gt_take' (i := i) (by omega) (by omega), gt_nat (by simp; omega)]
  exact e
theorem numL_zero {g : G} {t f o : Int} (h : ∀ x ∈ g.e, x.t ≠ t) : numL g t f o = 0 := by
 unfold numL
 rw [List.length_eq_zero_iff, List.filter_eq_nil_iff]
 intro x hx
 simp [numP, h x hx]
theorem knd_all {a b : G} {i k p q : Int} (h : ∀ j : Nat, j < a.e.length + b.e.length → numL a (kndL a b j) i k = numL b (kndL a b j) p q) (t : Int) : numL a t i k = numL b t p q := by
 by_cases h1 : ∃ x ∈ a.e, x.t = t
 ·obtain ⟨x, hx, rfl⟩ := h1
  obtain ⟨j, hj, rfl⟩ := List.mem_iff_getElem.1 hx
  have := h j (by omega)
  rw [kndL, if_pos hj, gt_nat hj] at this
  exact this
 ·by_cases h2 : ∃ x ∈ b.e, x.t = t
  ·obtain ⟨x, hx, rfl⟩ := h2
   obtain ⟨j, hj, rfl⟩ := List.mem_iff_getElem.1 hx
   have := h (a.e.length + j) (by omega)
   rw [kndL, if_neg (by omega), show a.e.length + j - a.e.length = j by omega, gt_nat hj] at this
   exact this
  ·rw [numL_zero (fun x hx e => h1 ⟨x, hx, e⟩), numL_zero (fun x hx e => h2 ⟨x, hx, e⟩)]
theorem mem_fullR {a b : G} {l : List Int} : l ∈ fullN b.n.length (fitsR a b) a.n.length [] ↔ NIso a b l := by
 rw [mem_fullN]
 simp only [List.length_nil, Nat.zero_add, List.take_zero, true_and, Nat.zero_le, forall_const]
 constructor
 ·rintro ⟨h1, h2⟩
  have h3 : ∀ i : Nat, i < a.n.length → gt a.n (i : Int) = gt b.n (gt l (i : Int)) ∧ (∀ k : Nat, k < i → gt l (k : Int) ≠ gt l (i : Int)) ∧ ∀ k : Nat, k ≤ i → ∀ t, numL a t k i = numL b t (gt l (k : Int)) (gt l (i : Int)) ∧ numL a t i k = numL b t (gt l (i : Int)) (gt l (k : Int)) := fun i hi => by
   have h := (h2 i (by omega)).2
   simp only [fitsR, Bool.and_eq_true, decide_eq_true_eq, Bool.not_eq_true', decide_eq_false_iff_not, List.all_eq_true, List.mem_range, List.length_take, show min i l.length = i by omega, pairR] at h
   obtain ⟨e1, e2, e3⟩ := h
   refine ⟨e1, (not_mem_take (by omega)).1 e2, fun k hk t => ?_⟩
   have e4 : gt (l.take i ++ [gt l (i : Int)]) (k : Int) = gt l (k : Int) := by
    rw [← take_gt (by omega)]
    exact gt_take' (by omega) (by omega)
   have e5 := e3 k (by omega)
   rw [e4] at e5
   exact ⟨knd_all (fun j hj => (e5 j hj).1) t, knd_all (fun j hj => (e5 j hj).2) t⟩
  refine ⟨h1, fun i hi => (h2 i (by omega)).1, fun i k hi hk e => ?_, fun i hi => (h3 i hi).1, fun t i k hi hk => ?_⟩
  ·rcases Nat.lt_trichotomy i k with h | h | h
   ·exact absurd e ((h3 k hk).2.1 i h)
   ·exact h
   ·exact absurd e.symm ((h3 i hi).2.1 k h)
  ·rcases Nat.le_total i k with h | h
   ·exact ((h3 k hk).2.2 i h t).1
   ·exact ((h3 i hi).2.2 k h t).2
 ·intro h
  refine ⟨h.len, fun i hi => ?_⟩
  have hl := h.len
  refine ⟨h.rng i (by omega), ?_⟩
  simp only [fitsR, Bool.and_eq_true, decide_eq_true_eq, Bool.not_eq_true', decide_eq_false_iff_not, List.all_eq_true, List.mem_range, List.length_take, show min i l.length = i by omega, pairR]
  refine ⟨h.ty i (by omega), (not_mem_take hi).2 fun k hk e => ?_, fun k hk j _ => ?_⟩
  ·have := h.inj k i (by omega) (by omega) e
   omega
  ·have e4 : gt (l.take i ++ [gt l (i : Int)]) (k : Int) = gt l (k : Int) := by
    rw [← take_gt (by omega)]
    exact gt_take' (by omega) (by omega)
   rw [e4]
   exact ⟨h.num _ k i (by omega) (by omega), h.num _ i k (by omega) (by omega)⟩
end
section
def mapE (l : List Int) (x : E) : E := ⟨x.t, gt l x.f, gt l x.o⟩
theorem NIso.nd {a b : G} {l : List Int} (h : NIso a b l) : l.Nodup := by
 rw [List.nodup_iff_pairwise_ne, List.pairwise_iff_getElem]
 intro i j hi hj hij e
 have hl := h.len
 have := h.inj i j (by omega) (by omega) (by rw [gt_nat hi, gt_nat hj]; exact e)
 omega
theorem NIso.surj {a b : G} {l : List Int} (h : NIso a b l) (hn : a.n.length = b.n.length) {f : Int} (h0 : 0 ≤ f) (h1 : f < b.n.length) : ∃ i : Nat, i < a.n.length ∧ gt l (i : Int) = f := by
 have hl := h.len
 have hp := perm_sub (A := l) (B := (List.range b.n.length).map fun i : Nat => (i : Int)) h.nd (fun x hx => by
  obtain ⟨i, hi, rfl⟩ := List.mem_iff_getElem.1 hx
  have := h.rng i (by omega)
  rw [gt_nat hi] at this
  obtain ⟨n, hn⟩ := Int.eq_ofNat_of_zero_le this.1
  exact List.mem_map.2 ⟨n, List.mem_range.2 (by omega), hn.symm⟩) (by simp; omega)
 have hf : f ∈ l := hp.mem_iff.2 (by
  obtain ⟨n, rfl⟩ := Int.eq_ofNat_of_zero_le h0
  exact List.mem_map.2 ⟨n, List.mem_range.2 (by omega), rfl⟩)
 obtain ⟨i, hi, rfl⟩ := List.mem_iff_getElem.1 hf
 exact ⟨i, by omega, gt_nat hi⟩
theorem NIso.inj' {a b : G} {l : List Int} (h : NIso a b l) {i k : Int} (h1 : 0 ≤ i ∧ i < a.n.length) (h2 : 0 ≤ k ∧ k < a.n.length) (e : gt l i = gt l k) : i = k := by
 obtain ⟨n, rfl⟩ := Int.eq_ofNat_of_zero_le h1.1
 obtain ⟨m, rfl⟩ := Int.eq_ofNat_of_zero_le h2.1
 have := h.inj n m (by omega) (by omega) e
 omega
theorem NIso.rng' {a b : G} {l : List Int} (h : NIso a b l) {i : Int} (h1 : 0 ≤ i ∧ i < a.n.length) : 0 ≤ gt l i ∧ gt l i < b.n.length := by
 obtain ⟨n, rfl⟩ := Int.eq_ofNat_of_zero_le h1.1
 exact h.rng n (by omega)
theorem numP_iff {t f o : Int} {x : E} : numP t f o x = true ↔ x = ⟨t, f, o⟩ := by
 obtain ⟨a, b, c⟩ := x
 simp [numP]
theorem numL_count (g : G) (t f o : Int) : numL g t f o = g.e.count ⟨t, f, o⟩ := by
 rw [numL, List.count_eq_countP, List.countP_eq_length_filter]
 congr 1
 refine List.filter_congr fun x _ => ?_
 rw [Bool.eq_iff_iff, numP_iff, beq_iff_eq]
theorem NIso.edges {a b : G} {l : List Int} (h : NIso a b l) (va : InG a) (vb : InG b) (hn : a.n.length = b.n.length) : (a.e.map (mapE l)).Perm b.e := by
 rw [List.perm_iff_count]
 rintro ⟨t, f, o⟩
 by_cases hf : (0 ≤ f ∧ f < b.n.length) ∧ (0 ≤ o ∧ o < b.n.length)
 ·obtain ⟨i, hi, rfl⟩ := h.surj hn hf.1.1 hf.1.2
  obtain ⟨k, hk, rfl⟩ := h.surj hn hf.2.1 hf.2.2
  rw [← numL_count, ← h.num t i k hi hk, numL_count, List.count_eq_countP, List.count_eq_countP, List.countP_map]
  refine List.countP_congr fun x hx => ?_
  have hv := va.2.2 x hx
  obtain ⟨xt, xf, xo⟩ := x
  simp only [Function.comp_apply, mapE, beq_iff_eq, E.mk.injEq] at hv ⊢
  constructor
  ·rintro ⟨h1, h2, h3⟩
   exact ⟨h1, h.inj' ⟨hv.1, hv.2.1⟩ ⟨by omega, by omega⟩ h2, h.inj' ⟨hv.2.2.1, hv.2.2.2⟩ ⟨by omega, by omega⟩ h3⟩
  ·rintro ⟨rfl, rfl, rfl⟩
   exact ⟨rfl, rfl, rfl⟩
 ·rw [List.count_eq_zero.2, List.count_eq_zero.2]
  ·intro hm
   have := vb.2.2 _ hm
   simp only at this
   omega
  ·intro hm
   obtain ⟨x, hx, e⟩ := List.mem_map.1 hm
   have hv := va.2.2 x hx
   have h1 := h.rng' (i := x.f) ⟨by omega, by omega⟩
   have h2 := h.rng' (i := x.o) ⟨by omega, by omega⟩
   simp only [mapE, E.mk.injEq] at e
   omega
theorem wnt_iff {a b : G} {ns es : List Int} {n : Nat} : wnt a b ns es n = true ↔ gt b.e (n : Int) = mapE ns (gt a.e (es.length : Int)) ∧ (n : Int) ∉ es := by
 simp only [wnt, Bool.and_eq_true, decide_eq_true_eq, Bool.not_eq_true', decide_eq_false_iff_not]
 obtain ⟨xt, xf, xo⟩ := gt a.e (es.length : Int)
 obtain ⟨yt, yf, yo⟩ := gt b.e (n : Int)
 simp only [mapE, E.mk.injEq]
theorem ext_edge {a b : G} {ns es : List Int} (hp : (a.e.map (mapE ns)).Perm b.e) (hk : es.length < a.e.length) (hd : es.Nodup) (hr : ∀ x ∈ es, 0 ≤ x ∧ x < b.e.length)
  (hw : ∀ i : Nat, i < es.length → gt b.e (gt es (i : Int)) = mapE ns (gt a.e (i : Int))) : ∃ n : Nat, n < b.e.length ∧ wnt a b ns es n = true := by
 refine Classical.byContradiction fun hno => ?_
 obtain ⟨w, hwd⟩ : ∃ w, w = mapE ns (gt a.e (es.length : Int)) := ⟨_, rfl⟩
 let I : List Int := ((List.range b.e.length).filter fun n : Nat => gt b.e (n : Int) == w).map fun n : Nat => (n : Int)
 have hI : I.Nodup := by
  rw [List.nodup_iff_pairwise_ne, List.pairwise_map]
  have := (List.nodup_range (n := b.e.length)).filter fun n : Nat => gt b.e (n : Int) == w
  exact this.imp fun h e => h (by omega)
 have hIl : I.length = b.e.count w := by
  have e : (List.range b.e.length).map (fun n : Nat => gt b.e (n : Int)) = b.e := by
   refine List.ext_getElem (by simp) fun i h1 h2 => ?_
   simp only [List.getElem_map, List.getElem_range]
   exact gt_nat h2
  conv => rhs; rw [← e]
  rw [List.length_map, List.count_eq_countP, List.countP_map, List.countP_eq_length_filter]
  rfl
 have hsub : I ⊆ es.filter fun x => gt b.e x == w := fun x hx => by
  obtain ⟨n, hn, rfl⟩ := List.mem_map.1 hx
  obtain ⟨h1, h2⟩ := List.mem_filter.1 hn
  have h1 := List.mem_range.1 h1
  refine List.mem_filter.2 ⟨?_, h2⟩
  refine Classical.byContradiction fun hm => hno ⟨n, h1, wnt_iff.2 ⟨?_, hm⟩⟩
  rw [← hwd]
  exact beq_iff_eq.1 h2
 have hle := List.Nodup.length_le_of_subset hI hsub
 have hes : (es.filter fun x => gt b.e x == w).length = ((a.e.take es.length).map (mapE ns)).count w := by
  have e : es.map (fun x => gt b.e x) = (a.e.take es.length).map (mapE ns) := by
   refine List.ext_getElem (by simp; omega) fun i h1 h2 => ?_
   simp only [List.length_map] at h1
   simp only [List.getElem_map, List.getElem_take]
   have := hw i h1
   rw [gt_nat h1, gt_nat (by omega)] at this
   exact this
  rw [← e, List.count_eq_countP, List.countP_map, List.countP_eq_length_filter]
  rfl
 have hc := hp.count_eq w
 have hsp : a.e.map (mapE ns) = (a.e.take es.length).map (mapE ns) ++ (w :: (a.e.drop (es.length + 1)).map (mapE ns)) := by
  have := (List.take_append_drop es.length a.e).symm
  rw [drop_gt hk] at this
  conv => lhs; rw [this]
  rw [List.map_append, List.map_cons, hwd]
 rw [hsp, List.count_append, List.count_cons_self] at hc
 omega
theorem fullE_ne {a b : G} {ns : List Int} (hp : (a.e.map (mapE ns)).Perm b.e) : ∀ (k : Nat) (es : List Int), es.length + k = a.e.length → es.Nodup → (∀ x ∈ es, 0 ≤ x ∧ x < b.e.length) →
  (∀ i : Nat, i < es.length → gt b.e (gt es (i : Int)) = mapE ns (gt a.e (i : Int))) → fullN b.e.length (fun es n => wnt a b ns es n.toNat) k es ≠ []
 | 0, es, _, _, _, _ => by simp [fullN]
 | k + 1, es, h, hd, hr, hw => by
  obtain ⟨n, hn, hwn⟩ := ext_edge hp (by omega) hd hr hw
  obtain ⟨h1, h2⟩ := wnt_iff.1 hwn
  have := fullE_ne hp k (es ++ [(n : Int)]) (by simp; omega) (by
   rw [List.nodup_append]
   refine ⟨hd, by simp, fun x hx y hy e => ?_⟩
   simp only [List.mem_singleton] at hy
   subst e hy
   exact h2 hx) (fun x hx => by
   rcases List.mem_append.1 hx with hx | hx
   ·exact hr x hx
   ·simp only [List.mem_singleton] at hx; omega) (fun i hi => by
   rw [List.length_append, List.length_singleton] at hi
   rcases Nat.lt_or_ge i es.length with h3 | h3
   ·rw [gt_app_l (x := es) (by omega) (by omega)]
    exact hw i h3
   ·obtain rfl : i = es.length := by omega
    have : gt (es ++ [(n : Int)]) (es.length : Int) = n := by rw [gt_nat (by simp)]; simp
    rw [this, h1])
  obtain ⟨x, hx⟩ := List.exists_mem_of_ne_nil _ this
  refine List.ne_nil_of_mem (a := x) ?_
  rw [fullN, List.mem_flatMap]
  refine ⟨n, List.mem_range.2 hn, ?_⟩
  rw [if_pos (by simpa using hwn)]
  exact hx
theorem NIso.imE_ne {a b : G} {l : List Int} (h : NIso a b l) (va : InG a) (vb : InG b) (hn : a.n.length = b.n.length) : imE a b l ≠ [] :=
 fullE_ne (h.edges va vb hn) _ _ (by simp) List.nodup_nil (by simp) (fun i hi => by simp at hi)
theorem NIso.sgn {a b : G} {l ca cb : List Int} (h : NIso a b l) (va : InG a) (vb : InG b) (hn : a.n.length = b.n.length) (hc : ∀ i : Nat, i < a.n.length → gt ca (i : Int) = gt cb (gt l (i : Int))) {i j : Nat} (hi : i < a.n.length) (hj : gt l (i : Int) = j) :
  sgnO a.e ca i = sgnO b.e cb j := by
 have hc' : ∀ i : Int, 0 ≤ i → i < a.n.length → gt ca i = gt cb (gt l i) := fun i h0 h1 => by
  obtain ⟨n, rfl⟩ := Int.eq_ofNat_of_zero_le h0
  exact hc n (by omega)
 unfold sgnO
 rw [hc i hi, hj]
 congr 2
 refine sorted_one scmp_cmp (sortL_sorted _) (sortL_sorted _) ((sortL_perm _).trans (List.Perm.trans ?_ (sortL_perm _).symm))
 have hp := (h.edges va vb hn).flatMap_right (trE cb j)
 have e : trL a.e ca i = (a.e.map (mapE l)).flatMap (trE cb j) := by
  rw [List.flatMap_map, trL]
  refine flatMap_congr' fun x hx => ?_
  have hv := va.2.2 x hx
  refine trE_sh rfl ?_ ?_ (hc' _ (by omega) (by omega)) (hc' _ (by omega) (by omega))
  ·simp only [mapE]
   rw [← hj]
   exact ⟨fun e => by rw [e], fun e => h.inj' ⟨by omega, by omega⟩ ⟨by omega, by omega⟩ e⟩
  ·simp only [mapE]
   rw [← hj]
   exact ⟨fun e => by rw [e], fun e => h.inj' ⟨by omega, by omega⟩ ⟨by omega, by omega⟩ e⟩
 rw [e]
 exact hp
end
section
def Car (a : G) (l : List Int) (x y : List (List Int)) : Prop := ∀ i : Nat, i < a.n.length → gt x (i : Int) = gt y (gt l (i : Int))
theorem gt_map_c {x : List (List Int)} {f : List Int → Int} {i : Int} (h0 : 0 ≤ i) (h : i < x.length) : gt (x.map f) i = f (gt x i) := by
 obtain ⟨n, rfl⟩ := Int.eq_ofNat_of_zero_le h0
 rw [gt_nat (by simp; omega), gt_nat (by omega)]
 simp
theorem Car.next {a b : G} {l : List Int} {x y : List (List Int)} (h : Car a l x y) (hl : NIso a b l) (va : InG a) (vb : InG b) (hn : a.n.length = b.n.length) (hx : x.length = a.n.length) (hy : y.length = b.n.length) (S : List (List Int)) :
  Car a l (nextL a (colA x S)) (nextL b (colA y S)) := fun i hi => by
 have hr := hl.rng i hi
 obtain ⟨j, hj⟩ := Int.eq_ofNat_of_zero_le hr.1
 rw [nextL_gt hi, hj, nextL_gt (by omega)]
 refine hl.sgn va vb hn (fun k hk => ?_) hi hj
 have hrk := hl.rng k hk
 rw [colA, colA, gt_map_c (by omega) (by omega), gt_map_c hrk.1 (by omega), h k hk]
theorem Car.first {a b : G} {l : List Int} (hl : NIso a b l) : Car a l (frstL a) (frstL b) := fun i hi => by
 have hr := hl.rng i hi
 have ht := hl.ty i hi
 obtain ⟨j, hj⟩ := Int.eq_ofNat_of_zero_le hr.1
 rw [hj] at ht hr ⊢
 rw [gt_nat (by rw [frstL_length]; omega), gt_nat (by rw [frstL_length]; omega)]
 simp only [frstL, List.getElem_map]
 rw [gt_nat hi, gt_nat (by omega)] at ht
 rw [ht]
theorem Car.mem {a b : G} {l : List Int} {x y : List (List Int)} (h : Car a l x y) (hl : NIso a b l) (hn : a.n.length = b.n.length) (hx : x.length = a.n.length) (hy : y.length = b.n.length) (z : List Int) : z ∈ x ↔ z ∈ y := by
 constructor
 ·intro hz
  obtain ⟨i, hi, rfl⟩ := List.mem_iff_getElem.1 hz
  have := h i (by omega)
  rw [gt_nat hi] at this
  rw [this]
  have hr := hl.rng i (by omega)
  exact gt_mem hr.1 (by omega)
 ·intro hz
  obtain ⟨j, hj, rfl⟩ := List.mem_iff_getElem.1 hz
  obtain ⟨i, hi, e⟩ := hl.surj hn (f := (j : Int)) (by omega) (by omega)
  have := h i hi
  rw [e, gt_nat hj] at this
  rw [← this]
  exact gt_mem (by omega) (by omega)
def isos (a b : G) : List Mo := (fullN b.n.length (fitsR a b) a.n.length []).flatMap (imM a b)
end
section
theorem backL_own {l : List Int} (hn : l.Nodup) (hb : ∀ x ∈ l, 0 ≤ x ∧ x < l.length) {j : Nat} (hj : j < l.length) : gt (backL l l.length) (gt l j) = j := by
 obtain ⟨k, hk, hk2⟩ := gtI (hb _ (gt_mem (l := l) (j := j) (by omega) (by omega)))
 rw [hk2, backL_gt hk, ← hk2, lastI_own hn _ (Nat.le_refl _) j hj]
end
section
theorem mem_isos {a b : G} {m : Mo} : m ∈ isos a b ↔ NIso a b m.n ∧ m.e ∈ imE a b m.n := by
 simp only [isos, List.mem_flatMap, mem_fullR, imM, List.mem_map]
 constructor
 ·rintro ⟨ns, h1, es, h2, rfl⟩
  exact ⟨h1, h2⟩
 ·rintro ⟨h1, h2⟩
  exact ⟨m.n, h1, m.e, h2, rfl⟩
end
def setG (g : G) (u : Nat) : G := ⟨g.n.set u (-1), g.e⟩
section
variable (P : Program) (F : String → Nat)
end
section
variable {P : Program} {F : String → Nat} {α : Type}
theorem InG.set {g : G} (h : InG g) (u : Nat) : InG (setG g u) := by
 obtain ⟨h1, h2, h3⟩ := h
 refine ⟨by simpa [setG] using h1, h2, fun x hx => ?_⟩
 have := h3 x hx
 simpa [setG] using this
end
section
theorem NIso.id (g : G) : NIso g g (nums 0 g.n.length) := by
 have hg : ∀ i : Nat, i < g.n.length → gt (nums 0 g.n.length) (i : Int) = i := fun i hi => nums_gt hi
 refine ⟨nums_len _ _, fun i hi => ?_, fun i k hi hk e => ?_, fun i hi => ?_, fun t i k hi hk => ?_⟩
 ·rw [hg i hi]; omega
 ·rw [hg i hi, hg k hk] at e; omega
 ·rw [hg i hi]
 ·rw [hg i hi, hg k hk]
theorem NIso.comp {a b c : G} {l m : List Int} (h : NIso a b l) (k : NIso b c m) : NIso a c (thr l m) := by
 have hl := h.len
 have hg : ∀ i : Nat, i < a.n.length → gt (thr l m) (i : Int) = gt m (gt l (i : Int)) := fun i hi => thr_gt (by omega)
 refine ⟨by rw [thr_len, hl], fun i hi => ?_, fun i k' hi hk e => ?_, fun i hi => ?_, fun t i k' hi hk => ?_⟩
 ·rw [hg i hi]
  exact k.rng' (h.rng i hi)
 ·rw [hg i hi, hg k' hk] at e
  exact h.inj i k' hi hk (k.inj' (h.rng i hi) (h.rng k' hk) e)
 ·rw [hg i hi, h.ty i hi]
  obtain ⟨j, hj⟩ := Int.eq_ofNat_of_zero_le (h.rng i hi).1
  rw [hj]
  exact k.ty j (by have := (h.rng i hi).2; omega)
 ·rw [hg i hi, hg k' hk, h.num t i k' hi hk]
  obtain ⟨j, hj⟩ := Int.eq_ofNat_of_zero_le (h.rng i hi).1
  obtain ⟨p, hp⟩ := Int.eq_ofNat_of_zero_le (h.rng k' hk).1
  rw [hj, hp]
  exact k.num t j p (by have := (h.rng i hi).2; omega) (by have := (h.rng k' hk).2; omega)
theorem NIso.inv {a b : G} {l : List Int} (h : NIso a b l) (hn : a.n.length = b.n.length) : NIso b a (backL l l.length) ∧ ∀ i : Nat, i < a.n.length → gt (backL l l.length) (gt l (i : Int)) = i := by
 have hl := h.len
 have hb : ∀ x ∈ l, 0 ≤ x ∧ x < l.length := fun x hx => by
  obtain ⟨i, hi, rfl⟩ := List.mem_iff_getElem.1 hx
  have := h.rng i (by omega)
  rw [gt_nat hi] at this
  omega
 have ho : ∀ i : Nat, i < a.n.length → gt (backL l l.length) (gt l (i : Int)) = i := fun i hi => backL_own h.nd hb (by omega)
 have hs : ∀ j : Nat, j < b.n.length → ∃ i : Nat, i < a.n.length ∧ gt l (i : Int) = j ∧ gt (backL l l.length) (j : Int) = i := fun j hj => by
  obtain ⟨i, hi, e⟩ := h.surj hn (f := (j : Int)) (by omega) (by omega)
  exact ⟨i, hi, e, by rw [← e, ho i hi]⟩
 refine ⟨⟨by rw [backL_len, hl, hn], fun j hj => ?_, fun j k hj hk e => ?_, fun j hj => ?_, fun t j k hj hk => ?_⟩, ho⟩
 ·obtain ⟨i, hi, _, e⟩ := hs j hj
  rw [e]; omega
 ·obtain ⟨i, hi, e1, e2⟩ := hs j hj
  obtain ⟨p, hp, e3, e4⟩ := hs k hk
  rw [e2, e4] at e
  obtain rfl : i = p := by omega
  omega
 ·obtain ⟨i, hi, e1, e2⟩ := hs j hj
  rw [e2, h.ty i hi, e1]
 ·obtain ⟨i, hi, e1, e2⟩ := hs j hj
  obtain ⟨p, hp, e3, e4⟩ := hs k hk
  rw [e2, e4, h.num t i p hi hp, e1, e3]
def Orb (g : G) (u v : Nat) : Prop := ∃ l, NIso g g l ∧ gt l (u : Int) = v
theorem Orb.refl {g : G} {u : Nat} (h : u < g.n.length) : Orb g u u := ⟨_, NIso.id g, nums_gt h⟩
theorem Orb.symm {g : G} {u v : Nat} (hu : u < g.n.length) (h : Orb g u v) : Orb g v u := by
 obtain ⟨l, h1, h2⟩ := h
 obtain ⟨k1, k2⟩ := h1.inv rfl
 exact ⟨_, k1, by rw [← h2]; exact k2 u hu⟩
theorem Orb.trans {g : G} {u v w : Nat} (hu : u < g.n.length) (h : Orb g u v) (k : Orb g v w) : Orb g u w := by
 obtain ⟨l, h1, h2⟩ := h
 obtain ⟨m, k1, k2⟩ := k
 exact ⟨_, h1.comp k1, by rw [thr_gt (by rw [h1.len]; exact hu), h2, k2]⟩
end
section
theorem NIso.ex {a b : G} {l : List Int} (h : NIso a b l) (va : InG a) (vb : InG b) (hn : a.n.length = b.n.length) : ∃ es, (⟨l, es⟩ : Mo) ∈ isos a b := by
 obtain ⟨es, hes⟩ := List.exists_mem_of_ne_nil _ (h.imE_ne va vb hn)
 exact ⟨es, mem_isos.2 ⟨h, hes⟩⟩
end
end Go.Am
