/- The data of an abstract machine for slices, structs and integers, and how they lie in memory. -/
import Derived.Calls
import Derived.Below
import Derived.Laws.Rows
import Derived.Laws.CopyRow
import Derived.Laws.AppendOwn
import Derived.Laws.MakeOwn
namespace Go.Am
open Go

/-- Data. `lst`: a slice that is only read. `arr`: a slice that is owned. `ref`: a pointer to cells that are only read. `box`: a pointer to cells that are owned. `sl`, `pt`, `pe`: a slice of, a pointer to an entry of the machine's own memory. -/
inductive D where
  | int (k : IntKind) (n : Int)
  | bool (b : Bool)
  | nl (sz : Nat)
  | lst (sz : Nat) (xs : List D)
  | arr (sz : Nat) (xs : List D)
  | agg (cs : List D)
  | tup (ds : List D)
  | ref (cs : List D)
  | box (cs : List D)
  | clo (f : Nat) (caps : List D)
  | sl (id lo len : Nat)
  | pt (id off : Nat)
  | pe (id i off : Nat)
  | undef
  deriving Inhabited

/-- More elements than any slice has that is read. -/
def maxL : Nat := 140737488355328

/-- Values that lie in memory one behind the other. -/
def Mem (w : World) (b off : Nat) (us : List Value) : Prop := ∀ j u, us[j]? = some u → w.cell? ⟨b, off + j, none⟩ = some u

mutual
/-- How a datum lies in memory: `I`: the blocks that are only read; `os`: the blocks that it owns. -/
def DR (w : World) (I : Nat → Prop) : D → Value → List Nat → Prop
  | .int k n, v, os => v = .int k n ∧ os = []
  | .bool b, v, os => v = .bool b ∧ os = []
  | .nl _, v, os => v = .slice none 0 0 ∧ os = []
  | .lst sz xs, v, os => os = [] ∧ xs.length ≤ maxL ∧ ((v = .slice none 0 0 ∧ xs = []) ∨
      ∃ b off cap us, v = .slice (some ⟨b, off, none⟩) xs.length cap ∧ xs.length ≤ cap ∧ cap ≤ maxLen ∧ I b ∧ Mem w b off us ∧ PE w I sz xs us)
  | .arr sz xs, v, os => xs.length ≤ maxL ∧ ((v = .slice none 0 0 ∧ xs = [] ∧ os = []) ∨
      ∃ b cap cur e us, v = .slice (some ⟨b, 0, none⟩) xs.length cap ∧ os = [b] ∧ w.heap[b]? = some (.cells cur e (0, 0)) ∧ xs.length ≤ cap ∧ cap ≤ maxLen ∧ cap * sz ≤ cur.size ∧ Mem w b 0 us ∧ PE w I sz xs us)
  | .agg cs, v, os => ∃ vs, v = .agg vs ∧ (∀ u ∈ vs.toList, u.oneCell' = true) ∧ DRs w I cs vs.toList os
  | .tup ds, v, os => ∃ vs, v = .tuple vs ∧ DRs w I ds vs.toList os
  | .ref cs, v, os => os = [] ∧ ∃ b off us, v = .pointer (some ⟨b, off, none⟩) ∧ I b ∧ Mem w b off us ∧ PC w I cs us
  | .box cs, v, os => ∃ b cur e os', v = .pointer (some ⟨b, 0, none⟩) ∧ os = b :: os' ∧ w.heap[b]? = some (.cells cur e (0, 0)) ∧ (∀ u ∈ cur.toList, u.oneCell' = true) ∧ DRs w I cs cur.toList os'
  | .clo f caps, v, os => ∃ vs, v = .func (.func f) #[] vs ∧ DRs w I caps vs.toList os
  | .sl .., _, _ | .pt .., _, _ | .pe .., _, _ | .undef, _, _ => False
def DRs (w : World) (I : Nat → Prop) : List D → List Value → List Nat → Prop
  | [], vs, os => vs = [] ∧ os = []
  | d :: ds, vs, os => ∃ v vs' o o', vs = v :: vs' ∧ os = o ++ o' ∧ DR w I d v o ∧ DRs w I ds vs' o'
/-- Cells, none of which owns anything. -/
def PC (w : World) (I : Nat → Prop) : List D → List Value → Prop
  | [], us => us = []
  | c :: cs, us => ∃ u us', us = u :: us' ∧ u.oneCell' = true ∧ DR w I c u [] ∧ PC w I cs us'
/-- Elements of `sz` cells each. -/
def PE (w : World) (I : Nat → Prop) (sz : Nat) : List D → List Value → Prop
  | [], us => us = []
  | x :: xs, us => ∃ u us', us = u ++ us' ∧ u.length = sz ∧ P1 w I x u ∧ PE w I sz xs us'
def P1 (w : World) (I : Nat → Prop) : D → List Value → Prop
  | .agg cs, us => PC w I cs us
  | .int k n, us => us = [.int k n]
  | .bool c, us => us = [.bool c]
  | .lst z xs, us => ∃ u, us = [u] ∧ u.oneCell' = true ∧ xs.length ≤ maxL ∧ ((u = .slice none 0 0 ∧ xs = []) ∨
      ∃ b off cap us, u = .slice (some ⟨b, off, none⟩) xs.length cap ∧ xs.length ≤ cap ∧ cap ≤ maxLen ∧ I b ∧ Mem w b off us ∧ PE w I z xs us)
  | _, _ => False
end

/-- The world moves on: only the blocks `O` and new ones may change. -/
structure Stp (O : Nat → Prop) (w w' : World) : Prop where
  os : w'.os = w.os
  tape : w'.tape = w.tape
  output : w'.output = w.output
  size : w.heap.size ≤ w'.heap.size
  block : ∀ b, b < w.heap.size → ¬ O b → w'.heap[b]? = w.heap[b]?
  len : ∀ (b : Nat) cur e fr, w.heap[b]? = some (.cells cur e fr) → ∃ cur', w'.heap[b]? = some (.cells cur' e fr) ∧ cur'.size = cur.size

theorem Stp.refl (O : Nat → Prop) (w : World) : Stp O w w := ⟨rfl, rfl, rfl, Nat.le_refl _, fun _ _ _ => rfl, fun _ cur _ _ h => ⟨cur, h, rfl⟩⟩

theorem Stp.trans {O : Nat → Prop} {a b c : World} (h : Stp O a b) (k : Stp O b c) : Stp O a c :=
  ⟨k.os.trans h.os, k.tape.trans h.tape, k.output.trans h.output, Nat.le_trans h.size k.size,
   fun x hx hO => (k.block x (Nat.lt_of_lt_of_le hx h.size) hO).trans (h.block x hx hO),
   fun x cur e fr hg => let ⟨c1, g1, s1⟩ := h.len x cur e fr hg; let ⟨c2, g2, s2⟩ := k.len x c1 e fr g1; ⟨c2, g2, s2.trans s1⟩⟩

theorem Stp.mono {O O' : Nat → Prop} {a b : World} (h : Stp O a b) (hO : ∀ x, x < a.heap.size → O x → O' x) : Stp O' a b :=
  ⟨h.os, h.tape, h.output, h.size, fun x hx hn => h.block x hx (fun ho => hn (hO x hx ho)), h.len⟩

theorem Mem.mono {w w' : World} {b off : Nat} {us : List Value} (hb : w'.heap[b]? = w.heap[b]?) (h : Mem w b off us) : Mem w' b off us :=
  fun j u hj => (World.cell?_of_block (a := ⟨b, off + j, none⟩) hb).trans (h j u hj)

/-- The blocks that are only read stay, and stay as they are. -/
structure Keep (w w' : World) (I I' : Nat → Prop) : Prop where
  mem : ∀ b, I b → I' b
  same : ∀ b, I b → w'.heap[b]? = w.heap[b]?

mutual
theorem DR.mono {w w' : World} {I I' : Nat → Prop} (k : Keep w w' I I') :
    ∀ (d : D) (v : Value) (os : List Nat), (∀ b ∈ os, w'.heap[b]? = w.heap[b]?) → DR w I d v os → DR w' I' d v os
  | .int _ n, v, os, _, h => by simpa [DR] using h
  | .bool b, v, os, _, h => by simpa [DR] using h
  | .nl _, v, os, _, h => by simpa [DR] using h
  | .lst sz xs, v, os, _, h => by
    simp only [DR] at h ⊢
    obtain ⟨h0, h1, h2⟩ := h
    refine ⟨h0, h1, h2.imp id ?_⟩
    rintro ⟨b, off, cap, us, hv, hc, hc2, hb, hm, he⟩
    exact ⟨b, off, cap, us, hv, hc, hc2, k.mem b hb, hm.mono (k.same b hb), PE.mono k sz xs us he⟩
  | .arr sz xs, v, os, ho, h => by
    simp only [DR] at h ⊢
    refine ⟨h.1, h.2.imp id ?_⟩
    rintro ⟨b, cap, cur, e, us, hv, hos, hg, h1, h2, h3, hm, he⟩
    have hb := ho b (by rw [hos]; simp)
    exact ⟨b, cap, cur, e, us, hv, hos, by rw [hb]; exact hg, h1, h2, h3, hm.mono hb, PE.mono k sz xs us he⟩
  | .agg cs, v, os, ho, h => by
    simp only [DR] at h ⊢
    obtain ⟨vs, hv, h1, hs⟩ := h
    exact ⟨vs, hv, h1, DRs.mono k cs _ os ho hs⟩
  | .tup cs, v, os, ho, h => by
    simp only [DR] at h ⊢
    obtain ⟨vs, hv, hs⟩ := h
    exact ⟨vs, hv, DRs.mono k cs _ os ho hs⟩
  | .ref cs, v, os, _, h => by
    simp only [DR] at h ⊢
    obtain ⟨h0, b, off, us, hv, hb, hm, hc⟩ := h
    exact ⟨h0, b, off, us, hv, k.mem b hb, hm.mono (k.same b hb), PC.mono k cs us hc⟩
  | .box cs, v, os, ho, h => by
    simp only [DR] at h ⊢
    obtain ⟨b, cur, e, os', hv, hos, hg, h1, hs⟩ := h
    subst hos
    exact ⟨b, cur, e, os', hv, rfl, by rw [ho b (by simp)]; exact hg, h1, DRs.mono k cs _ os' (fun x hx => ho x (by simp [hx])) hs⟩
  | .clo f cs, v, os, ho, h => by
    simp only [DR] at h ⊢
    obtain ⟨vs, hv, hs⟩ := h
    exact ⟨vs, hv, DRs.mono k cs _ os ho hs⟩
  | .sl .., _, _, _, h => by simp [DR] at h
  | .pt .., _, _, _, h => by simp [DR] at h
  | .pe .., _, _, _, h => by simp [DR] at h
  | .undef, _, _, _, h => by simp [DR] at h
theorem DRs.mono {w w' : World} {I I' : Nat → Prop} (k : Keep w w' I I') :
    ∀ (ds : List D) (vs : List Value) (os : List Nat), (∀ b ∈ os, w'.heap[b]? = w.heap[b]?) → DRs w I ds vs os → DRs w' I' ds vs os
  | [], vs, os, _, h => by simpa [DRs] using h
  | d :: ds, vs, os, ho, h => by
    simp only [DRs] at h ⊢
    obtain ⟨v, vs', o, o', hvs, hos, hd, hds⟩ := h
    subst hos
    exact ⟨v, vs', o, o', hvs, rfl, DR.mono k d v o (fun b hb => ho b (by simp [hb])) hd, DRs.mono k ds vs' o' (fun b hb => ho b (by simp [hb])) hds⟩
theorem PC.mono {w w' : World} {I I' : Nat → Prop} (k : Keep w w' I I') :
    ∀ (cs : List D) (us : List Value), PC w I cs us → PC w' I' cs us
  | [], us, h => by simpa [PC] using h
  | c :: cs, us, h => by
    simp only [PC] at h ⊢
    obtain ⟨u, us', hu, h1, hd, hc⟩ := h
    exact ⟨u, us', hu, h1, DR.mono k c u [] (by simp) hd, PC.mono k cs us' hc⟩
theorem PE.mono {w w' : World} {I I' : Nat → Prop} (k : Keep w w' I I') :
    ∀ (sz : Nat) (xs : List D) (us : List Value), PE w I sz xs us → PE w' I' sz xs us
  | sz, [], us, h => by simpa [PE] using h
  | sz, x :: xs, us, h => by
    simp only [PE] at h ⊢
    obtain ⟨u, us', hu, h1, hd, hc⟩ := h
    exact ⟨u, us', hu, h1, P1.mono k x u hd, PE.mono k sz xs us' hc⟩
theorem P1.mono {w w' : World} {I I' : Nat → Prop} (k : Keep w w' I I') :
    ∀ (x : D) (us : List Value), P1 w I x us → P1 w' I' x us
  | .agg cs, us, h => by
    simp only [P1] at h ⊢
    exact PC.mono k cs us h
  | .int _ n, us, h => by simpa only [P1] using h
  | .bool _, us, h => by simpa only [P1] using h
  | .lst z xs, us, h => by
    simp only [P1] at h ⊢
    obtain ⟨u, hu, h1, h2, h3⟩ := h
    refine ⟨u, hu, h1, h2, h3.imp id ?_⟩
    rintro ⟨b, off, cap, us, hv, hc, hc2, hb, hm, he⟩
    exact ⟨b, off, cap, us, hv, hc, hc2, k.mem b hb, hm.mono (k.same b hb), PE.mono k z xs us he⟩
  | .nl _, _, h | .arr _ _, _, h | .tup _, _, h | .ref _, _, h | .box _, _, h
  | .clo _ _, _, h | .sl .., _, h | .pt .., _, h | .pe .., _, h | .undef, _, h => by simp [P1] at h
end
end Go.Am
