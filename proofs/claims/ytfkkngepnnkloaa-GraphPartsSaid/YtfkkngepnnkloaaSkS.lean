/- slices.Sort at []int, out of the library's contract; slices.Compact; the number of images. -/
import Derived.Test.YtfkkngepnnkloaaSkB
import Derived.Sort.Grow
namespace Go.Am
open Go Go.Sort
set_option linter.unusedVariables false
set_option linter.unusedSimpArgs false
set_option linter.unnecessarySimpa false
def srt (l : List Int) : List Int := l.mergeSort fun x y => decide (x ≤ y)
theorem srt_perm (l : List Int) : (srt l).Perm l := List.mergeSort_perm _ _
theorem srt_len (l : List Int) : (srt l).length = l.length := (srt_perm l).length_eq
theorem srt_sorted (l : List Int) : (srt l).Pairwise (· ≤ ·) := by
  have := List.pairwise_mergeSort (le := fun x y : Int => decide (x ≤ y)) (fun a b c h1 h2 => by simp at *; omega) (fun a b => by simp; omega) l
  simpa [srt] using this
section
variable (P : Program) (F : String → Nat)
def K_slices_Sort_I : Prop := ∀ l : List Int, l.length ≤ maxL → FC P (F "slices.Sort.I") [.arr 1 (ints l)] (.tup []) [(0, .arr 1 (ints (srt l)))]
end
theorem PE_ints {w : World} {I : Nat → Prop} : ∀ {l : List Int} {us : List Value}, PE w I 1 (ints l) us → us = l.map (Value.int .i64)
  | [], us, h => by simpa [ints, PE] using h
  | x :: l, us, h => by
    simp only [ints, List.map_cons, PE, P1] at h
    obtain ⟨u, us', rfl, _, rfl, h2⟩ := h
    rw [PE_ints (l := l) h2]; rfl
theorem PE_ints' {w : World} {I : Nat → Prop} : ∀ (l : List Int), PE w I 1 (ints l) (l.map (Value.int .i64))
  | [] => by simp [ints, PE]
  | x :: l => by
    simp only [ints, List.map_cons, PE, P1]
    exact ⟨[.int .i64 x], l.map (Value.int .i64), rfl, rfl, rfl, PE_ints' l⟩
/-- What a sort does to the memory. -/
theorem sort_world {w : World} {b n : Nat} {cur : Array Value} {e : TypeId} {d : Array Int} {os : Array Obj} (hg : w.heap[b]? = some (.cells cur e (0, 0))) (hd : d.size ≤ cur.size) :
    Stp (· = b) w (grow (putRow (Value.int .i64) (Sort.ahead w n) b 0 d) os) ∧ ∃ c, (grow (putRow (Value.int .i64) (Sort.ahead w n) b 0 d) os).heap[b]? = some (.cells c e (0, 0)) ∧ c.size = cur.size ∧ ∀ j, j < d.size → c[j]? = some (.int .i64 d[j]!) := by
  have hb : b < w.heap.size := (Array.getElem?_eq_some_iff.1 hg).1
  have hold : ∀ k, k < w.heap.size → (grow (putRow (Value.int .i64) (Sort.ahead w n) b 0 d) os).heap[k]? = if b = k then (w.heap[k]?).map (onCells (putCells (Value.int .i64) 0 d)) else w.heap[k]? := fun k hk => by
    rw [heap_grow_old _ _ (by simpa [Sort.ahead] using hk)]
    simp only [putRow, mapBlock, Sort.ahead, Array.getElem?_modify]
  have hnew : (grow (putRow (Value.int .i64) (Sort.ahead w n) b 0 d) os).heap[b]? = some (.cells (putCells (Value.int .i64) 0 d cur) e (0, 0)) := by
    rw [hold b hb, if_pos rfl, hg]; rfl
  refine ⟨⟨rfl, rfl, rfl, by simp [Sort.ahead], fun k hk hne => by rw [hold k hk, if_neg (fun h => hne h.symm)], fun k c e' fr hk => ?_⟩, _, hnew, by simp [putCells], fun j hj => ?_⟩
  · have hk2 : k < w.heap.size := (Array.getElem?_eq_some_iff.1 hk).1
    rw [hold k hk2]
    by_cases h : b = k
    · subst h
      rw [if_pos rfl, hk]
      exact ⟨_, rfl, by simp [putCells]⟩
    · rw [if_neg h, hk]
      exact ⟨c, rfl, rfl⟩
  · simp only [putCells, Array.getElem?_mapIdx]
    rw [Array.getElem?_eq_getElem (by omega)]
    simp only [Option.map_some]
    rw [if_pos (by omega)]
    rfl
theorem sort_FC {P : Program} {f : Nat} (hen : ∀ (vs : Array Value) (w : World), (callFunc f vs).run P w = .ok (.enter f vs) w)
    (h1 : ∀ (blk off cap : Nat) (zs : List Int) (w : World), Holds (Value.int .i64) w blk off zs.toArray → blk < w.heap.size → zs.length < 4611686018427387904 → Calls P f #[.slice (some ⟨blk, off, none⟩) zs.length cap] w fun e w' =>
      e = .returned (.tuple #[]) ∧ ∃ n os, w' = grow (putRow (Value.int .i64) (Sort.ahead w n) blk off (zs.mergeSort fun x y => decide (x ≤ y)).toArray) os)
    (h2 : ∀ (p : Option Addr) (cap : Nat) (w : World), Calls P f #[.slice p 0 cap] w fun e w' => e = .returned (.tuple #[]) ∧ w' = w) (l : List Int) (hl : l.length ≤ maxL) :
    FC P f [.arr 1 (ints l)] (.tup []) [(0, .arr 1 (ints (srt l)))] := by
  refine ⟨hen, fun w I vs os hI hnd hos hdr => ?_⟩
  simp only [DRs] at hdr
  obtain ⟨v, vs', o, o', rfl, rfl, hd, rfl, rfl⟩ := hdr
  simp only [DR] at hd
  obtain ⟨hmax, ⟨rfl, hnil, rfl⟩ | ⟨b, cap, cur, e, us, rfl, rfl, hg, c1, c2, c3, hM, hP⟩⟩ := hd
  · have hl0 : l = [] := by simpa [ints] using hnil
    subst hl0
    refine (h2 none 0 w).mono ?_
    rintro e w' ⟨rfl, rfl⟩
    refine ⟨_, [], rfl, Stp.refl _ _, by simp, by simp, ?_⟩
    simp only [List.map_cons, List.map_nil, DRs, DR]
    exact ⟨_, _, [], [], rfl, rfl, ⟨_, rfl, rfl, rfl⟩, _, _, [], [], rfl, rfl, ⟨by simp [srt, ints, maxL], .inl ⟨rfl, by simp [srt, ints], rfl⟩⟩, rfl, rfl⟩
  · have hus := PE_ints hP
    subst hus
    have hlen : (ints l).length = l.length := ints_length l
    rw [hlen] at c1
    simp only [Nat.mul_one] at c3
    rw [hlen]
    have hcur : ∀ j, j < l.length → cur[j]? = some (.int .i64 l[j]!) := fun j hj => by
      have := Mem.cells hg hM j (.int .i64 l[j]!) (by simp [hj])
      simpa using this
    have hH : Holds (Value.int .i64) w b 0 l.toArray := fun j hj => by
      have hj : j < l.length := by simpa using hj
      have hc := hcur j hj
      refine ⟨?_, ?_⟩
      · simp only [World.cell?, hg, Nat.zero_add, hc]
        simp [hj]
      · simp [World.frozen?, hg]
    have hbs : b < w.heap.size := (Array.getElem?_eq_some_iff.1 hg).1
    refine (h1 b 0 cap l w hH hbs (by simp only [maxL] at hl; omega)).mono ?_
    rintro er w' ⟨rfl, n, os2, rfl⟩
    have hsz : (l.mergeSort fun x y => decide (x ≤ y)).toArray.size = l.length := by simp
    obtain ⟨k1, c, k2, k3, k4⟩ := sort_world (n := n) (os := os2) (d := (l.mergeSort fun x y => decide (x ≤ y)).toArray) hg (by rw [hsz]; omega)
    refine ⟨_, [b], rfl, k1.mono fun x _ hx => by simp [hx], by simp, fun x hx => by simp at hx; subst hx; exact ⟨.inl (by simp), Nat.lt_of_lt_of_le hbs k1.size⟩, ?_⟩
    simp only [List.map_cons, List.map_nil, DRs, DR]
    refine ⟨_, _, [], [b], rfl, rfl, ⟨_, rfl, rfl, rfl⟩, _, _, [b], [], rfl, rfl, ⟨by rw [ints_length, srt_len]; exact hl, .inr ⟨b, cap, c, e, (srt l).map (Value.int .i64), ?_, rfl, k2, by rw [ints_length, srt_len]; exact c1, c2, by omega, ?_, PE_ints' _⟩⟩, rfl, rfl⟩
    · simp [ints_length, srt_len, hlen]
    · refine Mem.of_cells k2 (fun j u hj => ?_)
      rw [List.getElem?_map] at hj
      have hjl : j < (srt l).length := by
        rcases Nat.lt_or_ge j (srt l).length with h | h
        · exact h
        · rw [List.getElem?_eq_none h] at hj; cases hj
      have := k4 j (by rw [hsz]; rw [srt_len] at hjl; exact hjl)
      rw [Nat.zero_add, this]
      rw [List.getElem?_eq_getElem hjl] at hj
      simp only [Option.map_some] at hj
      rw [← hj]
      congr 2
      simp [srt] at hjl ⊢
      rw [List.getElem?_eq_getElem (by simpa using hjl)]
      rfl
end Go.Am
