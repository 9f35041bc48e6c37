/- Sorting of lists of lists by a function: the library's contract for slices.SortFunc, turned into a function's contract; any list, equal elements too. -/
import Derived.Shelf.SlSortCmp.Kit1
import Derived.Test.YtmkhlefohbfekaaSpPa
import Derived.Test.YtmkhlefohbfekaaSpPb
import Derived.Test.YtmkhlefohbfekaaSpPc
import Derived.Test.YtmkhlefohbfekaaSpXa
namespace Go.Am
open Go Go.Sort Go.RowKit Go.Proofs Go.Lib
set_option linter.unusedVariables false
set_option linter.unusedSimpArgs false
section
variable {P : Program} {w w' : World} {I : Nat → Prop}
theorem PE_iis : ∀ {l : List (List Int)} {us : List Value}, PE w I 1 (iis l) us → us.length = l.length ∧ ∀ (i : Nat) (h : i < l.length), ∃ v, us[i]? = some v ∧ v.oneCell' = true ∧ DR w I (.lst 1 (ints l[i])) v []
 | [], us, h => by
  simp only [iis, List.map_nil, PE] at h
  subst h
  exact ⟨rfl, fun i h => by simp at h⟩
 | x :: l, us, h => by
  simp only [iis, List.map_cons, PE] at h
  obtain ⟨u, us', rfl, h1, h2, h3⟩ := h
  simp only [P1] at h2
  obtain ⟨v, rfl, h4, h5, h6⟩ := h2
  obtain ⟨h7, h8⟩ := PE_iis (l := l) h3
  refine ⟨by simp [h7], fun i hi => ?_⟩
  cases i with
  | zero => exact ⟨v, rfl, h4, by simp only [DR]; exact ⟨trivial, h5, h6⟩⟩
  | succ i =>
   obtain ⟨v', q1, q2⟩ := h8 i (by simpa using hi)
   exact ⟨v', by simpa using q1, q2⟩
theorem PE_iis' : ∀ {l : List (List Int)} {us : List Value}, us.length = l.length → (∀ (i : Nat) (h : i < l.length), ∃ v, us[i]? = some v ∧ v.oneCell' = true ∧ DR w I (.lst 1 (ints l[i])) v []) → PE w I 1 (iis l) us
 | [], us, h, _ => by
  simp only [iis, List.map_nil, PE]
  exact List.eq_nil_of_length_eq_zero (by simpa using h)
 | x :: l, [], h, _ => by simp at h
 | x :: l, u :: us, h, k => by
  simp only [iis, List.map_cons, PE]
  obtain ⟨v, h1, h2, h3⟩ := k 0 (by simp)
  simp only [List.getElem?_cons_zero, Option.some.injEq] at h1
  subst h1
  simp only [DR, List.getElem_cons_zero] at h3
  refine ⟨[u], us, rfl, rfl, ?_, PE_iis' (l := l) (by simpa using h) fun i hi => ?_⟩
  ·simp only [P1]
   exact ⟨u, rfl, h2, h3.2.1, h3.2.2⟩
  ·obtain ⟨v', q1, q2⟩ := k (i + 1) (by simpa using hi)
   exact ⟨v', by simpa using q1, by simpa using q2⟩
theorem grown_of_Stp (h : Stp (fun _ => False) w w') : ∃ q os, w' = grow (w.drewN q) os := by
 refine ⟨w'.drawn - w.drawn, w'.heap.extract w.heap.size w'.heap.size, ?_⟩
 have hh : w'.heap = w.heap ++ w'.heap.extract w.heap.size w'.heap.size := by
  apply Array.ext_getElem?
  intro i
  by_cases hi : i < w.heap.size
  ·rw [Array.getElem?_append_left hi]; exact h.block i hi (fun x => x)
  ·rw [Array.getElem?_append_right (by omega), Array.getElem?_extract]
   have hs := h.size
   split
   ·congr 1; omega
   ·rename_i h2
    exact Array.getElem?_eq_none (by omega)
 have h1 := h.os
 have h2 := h.tape
 have h3 := h.output
 have h4 := h.drw
 obtain ⟨a1, a2, a3, a4, a5⟩ := w'
 obtain ⟨b1, b2, b3, b4, b5⟩ := w
 simp only at h1 h2 h3 h4 hh
 subst h1 h2 h3
 simp only [grow, World.drewN, World.mk.injEq, true_and, and_true]
 exact ⟨hh, by omega⟩
theorem sort_worldG {α : Type} [Inhabited α] {enc : α → Value} {b n : Nat} {cur : Array Value} {e : TypeId} {d : Array α} {os : Array Obj} (hg : w.heap[b]? = some (.cells cur e (0, 0))) (hd : d.size ≤ cur.size) :
  Stp (· = b) w (sortWorld enc w b 0 n d os) ∧ ∃ c, (sortWorld enc w b 0 n d os).heap[b]? = some (.cells c e (0, 0)) ∧ c.size = cur.size ∧ ∀ j, j < d.size → c[j]? = some (enc d[j]!) := by
 unfold sortWorld
 have hb : b < w.heap.size := (Array.getElem?_eq_some_iff.1 hg).1
 have hold : ∀ k, k < w.heap.size → (grow (putRow enc (Sort.ahead w n) b 0 d) os).heap[k]? = if b = k then (w.heap[k]?).map (onCells (putCells enc 0 d)) else w.heap[k]? := fun k hk => by
  rw [heap_grow_old _ _ (by simpa [Sort.ahead] using hk)]
  simp only [putRow, mapBlock, Sort.ahead, Array.getElem?_modify]
 have hnew : (grow (putRow enc (Sort.ahead w n) b 0 d) os).heap[b]? = some (.cells (putCells enc 0 d cur) e (0, 0)) := by
  rw [hold b hb, if_pos rfl, hg]; rfl
 refine ⟨⟨rfl, rfl, rfl, by simp [Sort.ahead], fun k hk hne => by rw [hold k hk, if_neg (fun h => hne h.symm)], fun k c e' fr hk => ?_, show w.drawn ≤ w.drawn + n by omega⟩, _, hnew, by simp [putCells], fun j hj => ?_⟩
 ·have hk2 : k < w.heap.size := (Array.getElem?_eq_some_iff.1 hk).1
  rw [hold k hk2]
  by_cases h : b = k
  ·subst h
   rw [if_pos rfl, hk]
   exact ⟨_, rfl, by simp [putCells]⟩
  ·rw [if_neg h, hk]
   exact ⟨c, rfl, rfl⟩
 ·simp only [putCells, Array.getElem?_mapIdx]
  rw [Array.getElem?_eq_getElem (by omega)]
  simp only [Option.map_some]
  rw [if_pos (by omega)]
  simp
theorem swo_places {l : List (List Int)} {c : List Int → List Int → Int} (hc : Cmp c) : SWO (ltOf fun (i j : Fin l.length) => c l[i] l[j]) where
 irrefl i := by
  have := hc.neg l[i] l[i]
  simp only [ltOf, decide_eq_false_iff_not]; omega
 trans i j k h1 h2 := by
  simp only [ltOf, decide_eq_true_eq] at *
  exact hc.tr _ _ _ h1 h2
 ntrans i j k h1 h2 := by
  simp only [ltOf, decide_eq_false_iff_not] at *
  intro h3
  have e1 := hc.neg l[i] l[j]
  have e2 := hc.neg l[j] l[k]
  by_cases z : c l[j] l[i] = 0
  ·have := hc.eq _ _ z
   rw [this] at h2
   exact h2 h3
  ·exact h2 (hc.tr _ _ _ (by omega) h3)
theorem sortF_FC {f : Nat} (hen : ∀ (vs : Array Value) (w : World), (callFunc f vs).run P w = .ok (.enter f vs) w)
  (hsort : ∀ (α : Type) [Inhabited α] (enc : α → Value) (h1 : OneCell enc) (cf : α → α → Int) (hO : SWO (ltOf cf)) (g : Nat) (cb : Array Value) (blk off cap : Nat) (d : Array α) (w : World)
   (eg : ∀ args w, (callFunc g args).run P w = .ok (.enter g args) w) (hcmp : CmpLays1 P g cb enc cf blk off d.size w) (hH : Holds enc w blk off d) (hblk : blk < w.heap.size) (hsz : d.size < 4611686018427387904),
   Calls P f #[.slice (some ⟨blk, off, none⟩) d.size cap, .func (.func g) #[] cb] w fun e w' =>
    e = .returned (.tuple #[]) ∧ ∃ d' n os, PermIn 0 d.size d d' ∧ SortedIn (ltOf cf) 0 d.size d' ∧ w' = sortWorld enc w blk off n d' os)
  (hnone : ∀ (p : Option Addr) (cap : Nat) (fv : Value) (w : World), Calls P f #[.slice p 0 cap, fv] w fun e w' => e = .returned (.tuple #[]) ∧ w' = w)
  (l S : List (List Int)) (g : Nat) (c : List Int → List Int → Int) (hl : l.length ≤ 1000000) (hc : Cmp c) (hS1 : S.Perm l) (hS : S.Pairwise (fun a b => c a b ≤ 0))
  (hg : ∀ x ∈ l, ∀ y ∈ l, FC P g [.lst 1 (ints x), .lst 1 (ints y)] (.int .i64 (c x y)) []) :
  FC P f [.arr 1 (iis l), .clo g []] (.tup []) [(0, .arr 1 (iis S))] := by
 by_cases hl0 : l = []
 ·subst hl0
  obtain rfl := List.perm_nil.1 hS1
  refine ⟨hen, fun w I vs os hI hndo hos hdr => ?_⟩
  simp only [DRs] at hdr
  obtain ⟨v, vs', o, o', rfl, rfl, hd, v2, vs2, o2, o3, rfl, rfl, hd2, rfl, rfl⟩ := hdr
  simp only [DR, DRs] at hd hd2
  obtain ⟨vs3, rfl, hv3, rfl⟩ := hd2
  have hv3 : vs3 = #[] := by simpa using hv3
  subst hv3
  simp only [List.append_nil] at *
  obtain ⟨hmax, ⟨rfl, hnil, rfl⟩ | ⟨b, cap, cur, e, us, rfl, rfl, hgb, c1, c2, c3, hM, hP⟩⟩ := hd
  ·refine Calls.mono (hnone none 0 (.func (.func g) #[] #[]) w) ?_
   rintro er w2 ⟨rfl, rfl⟩
   refine ⟨_, [], rfl, Stp.refl _ _, by simp, by simp, ?_⟩
   simp only [List.map_cons, List.map_nil, DRs, DR]
   exact ⟨_, _, [], [], rfl, rfl, ⟨_, rfl, rfl, rfl⟩, _, _, [], [], rfl, rfl, ⟨by simp [iis, maxL], .inl ⟨rfl, by simp [iis], rfl⟩⟩, rfl, rfl⟩
  ·obtain ⟨ul, _⟩ := PE_iis hP
   obtain rfl := List.eq_nil_of_length_eq_zero ul
   refine Calls.mono (hnone (some ⟨b, 0, none⟩) cap (.func (.func g) #[] #[]) w) ?_
   rintro er w2 ⟨rfl, rfl⟩
   refine ⟨_, [b], rfl, Stp.refl _ _, by simp, fun x hx => by simp at hx; subst hx; exact ⟨.inl (by simp), (Array.getElem?_eq_some_iff.1 hgb).1⟩, ?_⟩
   simp only [List.map_cons, List.map_nil, DRs, DR]
   refine ⟨_, _, [], [b], rfl, rfl, ⟨_, rfl, rfl, rfl⟩, _, _, [b], [], rfl, rfl, ⟨by simp [iis, maxL], .inr ⟨b, cap, cur, e, [], rfl, rfl, hgb, c1, c2, c3, ?_, ?_⟩⟩, rfl, rfl⟩
   ·exact hM
   ·simp [iis, PE]
 obtain ⟨x0, hx0⟩ := List.exists_mem_of_ne_nil l hl0
 have hpos : 0 < l.length := List.length_pos_of_mem hx0
 refine ⟨hen, fun w I vs os hI hndo hos hdr => ?_⟩
 simp only [DRs] at hdr
 obtain ⟨v, vs', o, o', rfl, rfl, hd, v2, vs2, o2, o3, rfl, rfl, hd2, rfl, rfl⟩ := hdr
 simp only [DR, DRs] at hd hd2
 obtain ⟨vs3, rfl, hv3, rfl⟩ := hd2
 have hv3 : vs3 = #[] := by simpa using hv3
 subst hv3
 simp only [List.append_nil] at *
 obtain ⟨hmax, ⟨rfl, hnil, rfl⟩ | ⟨b, cap, cur, e, us, rfl, rfl, hgb, c1, c2, c3, hM, hP⟩⟩ := hd
 ·exact absurd hnil (fun h => by rw [← List.length_eq_zero_iff, iis_length] at h; omega)
 rw [iis_length] at c1
 obtain ⟨ul, uv⟩ := PE_iis hP
 simp only [Nat.mul_one] at c3
 let enc : Fin l.length → Value := fun i => (us[i.1]?).getD undef
 have : Inhabited (Fin l.length) := ⟨⟨0, hpos⟩⟩
 have henc : ∀ i : Fin l.length, us[i.1]? = some (enc i) ∧ (enc i).oneCell' = true ∧ DR w I (.lst 1 (ints l[i])) (enc i) [] := fun i => by
  obtain ⟨v, h1, h2, h3⟩ := uv i.1 i.2
  have : enc i = v := by simp only [enc, h1, Option.getD_some]
  rw [this]
  exact ⟨h1, h2, h3⟩
 let d : Array (Fin l.length) := Array.ofFn id
 have hds : d.size = l.length := by simp [d]
 have hdg : ∀ j, (h : j < l.length) → d[j]! = ⟨j, h⟩ := fun j h => by
  rw [getElem!_pos d j (by omega)]
  simp [d]
 have hbs : b < w.heap.size := (Array.getElem?_eq_some_iff.1 hgb).1
 have hIb : ∀ x, I x → x ≠ b := fun x hx e => (hI x hx).2 (by simp [e])
 have hsW : ∀ (m : Nat) (os : Array Obj) (dk : Array (Fin l.length)), dk.size = d.size → Stp (· = b) w (sortWorld enc w b 0 m dk os) := fun m os dk hk =>
  (sort_worldG hgb (by rw [hk, hds]; omega)).1
 have hcur : ∀ j : Fin l.length, cur[j.1]? = some (enc j) := fun j => by
  have := Mem.cells hgb hM j.1 (enc j) (henc j).1
  simpa using this
 have hH : Holds enc w b 0 d := fun j hj => by
  rw [hds] at hj
  have hcc := hcur ⟨j, hj⟩
  rw [hdg j hj]
  refine ⟨?_, ?_⟩
  ·simp only [World.cell?, hgb, Nat.zero_add, Option.isSome_none, Bool.false_eq_true, if_false]
   exact hcc
  ·simp [World.frozen?, hgb]
 have hcmp : CmpLays1 P g #[] enc (fun i j => c l[i] l[j]) b 0 d.size w := fun m os dk hk x y => by
  have st := hsW m os dk hk
  have hkeep : Keep w (sortWorld enc w b 0 m dk os) I I := ⟨fun _ h => h, fun x hx => st.block x (hI x hx).1 (hIb x hx)⟩
  have hfc := (hg l[x] (List.getElem_mem _) l[y] (List.getElem_mem _)).2 (sortWorld enc w b 0 m dk os) I [enc x, enc y] [] (fun x hx => ⟨Nat.lt_of_lt_of_le (hI x hx).1 st.size, by simp⟩) List.nodup_nil (by simp)
   (by
    simp only [DRs]
    exact ⟨_, _, [], [], rfl, rfl, DR.mono hkeep _ _ _ (by simp) (henc x).2.2, _, _, [], [], rfl, rfl, DR.mono hkeep _ _ _ (by simp) (henc y).2.2, rfl, rfl⟩)
  rw [show (#[enc x, enc y] ++ #[] : Array Value) = [enc x, enc y].toArray by simp]
  refine Calls.mono hfc ?_
  rintro er w2 ⟨v', os', rfl, hst, _, _, hdr⟩
  simp only [List.map_nil, DRs, DR] at hdr
  obtain ⟨v1, vs1, o1, o2, h1, h2, ⟨rfl, rfl⟩, rfl, rfl⟩ := hdr
  simp only [List.cons.injEq, and_true] at h1
  subst h1
  exact ⟨rfl, grown_of_Stp (hst.mono fun x _ hx => by simp at hx)⟩
 have eg : ∀ args w, (callFunc g args).run P w = .ok (.enter g args) w := (hg x0 hx0 x0 hx0).1
 have hcall := hsort (Fin l.length) enc (fun i => (henc i).2.1) (fun i j => c l[i] l[j]) (swo_places hc) g #[] b 0 cap d w eg hcmp hH hbs (by omega)
 rw [iis_length]
 rw [hds] at hcall
 refine Calls.mono hcall ?_
 rintro er w2 ⟨rfl, d', n, os2, hp, hso, rfl⟩
 have hd's : d'.size = l.length := by rw [hp.1, hds]
 obtain ⟨k1, cc, k2, k3, k4⟩ := sort_worldG (n := n) (os := os2) (d := d') (enc := enc) hgb (by omega)
 -- what lies there is the sorted list
 have hperm : d'.toList.Perm d.toList := by
  have := hp.2.2
  rw [Array.extract_eq_self_of_le (by omega), Array.extract_eq_self_of_le (by omega)] at this
  exact this
 have hL : (d'.toList.map fun i => l[i]) = S := by
  have hdl : (d.toList.map fun i : Fin l.length => l[i]) = l := by
   refine List.ext_getElem (by simp [d]) fun i h1 h2 => ?_
   simp [d]
  have hpl : (d'.toList.map fun i : Fin l.length => l[i]).Perm l := by
   have := hperm.map (fun i : Fin l.length => l[i])
   rw [hdl] at this
   exact this
  refine sorted_one hc ?_ hS (hpl.trans hS1.symm)
  rw [List.pairwise_iff_getElem]
  intro i j hi hj hij
  simp only [List.length_map, Array.length_toList] at hi hj
  have hs := hso i j (Nat.zero_le _) hij (by omega)
  rw [getElem!_pos d' j (by omega), getElem!_pos d' i (by omega)] at hs
  simp only [ltOf, decide_eq_false_iff_not] at hs
  simp only [List.getElem_map, Array.getElem_toList]
  have := hc.neg l[d'[j]] l[d'[i]]
  omega
 have hSlen : S.length = l.length := by rw [← hL]; simp [hd's]
 refine ⟨_, [b], rfl, k1.mono fun x _ hx => by simp [hx], by simp, fun x hx => by simp at hx; subst hx; exact ⟨.inl (by simp), Nat.lt_of_lt_of_le hbs k1.size⟩, ?_⟩
 simp only [List.map_cons, List.map_nil, DRs, DR]
 refine ⟨_, _, [], [b], rfl, rfl, ⟨_, rfl, rfl, rfl⟩, _, _, [b], [], rfl, rfl, ⟨by rw [iis_length, hSlen]; unfold maxL; omega, .inr ⟨b, cap, cc, e, d'.toList.map enc, ?_, rfl, k2, by rw [iis_length, hSlen]; exact c1, c2, by omega, ?_, ?_⟩⟩, rfl, rfl⟩
 ·simp [iis_length, hSlen]
 ·refine Mem.of_cells k2 (fun j u hj => ?_)
  rw [List.getElem?_map] at hj
  have hjl : j < d'.size := by
   rcases Nat.lt_or_ge j d'.toList.length with h | h
   ·simpa using h
   ·rw [List.getElem?_eq_none h] at hj; cases hj
  have := k4 j hjl
  rw [Nat.zero_add, this, getElem!_pos d' j hjl]
  rw [List.getElem?_eq_getElem (by simpa using hjl)] at hj
  simpa using hj
 ·have hkeep : Keep w (sortWorld enc w b 0 n d' os2) I (fun x => (I x ∨ x ∈ [b] ∨ w.heap.size ≤ x) ∧ x ∉ [b] ∧ x < (sortWorld enc w b 0 n d' os2).heap.size) :=
   ⟨fun x hx => ⟨.inl hx, by simpa using hIb x hx, Nat.lt_of_lt_of_le (hI x hx).1 k1.size⟩, fun x hx => k1.block x (hI x hx).1 (hIb x hx)⟩
  rw [← hL]
  refine PE_iis' (by simp) fun i hi => ?_
  simp only [List.length_map, Array.length_toList] at hi
  refine ⟨enc d'[i], by simp [hi], (henc _).2.1, ?_⟩
  simp only [List.getElem_map, Array.getElem_toList]
  exact DR.mono hkeep _ _ _ (by simp) (henc d'[i]).2.2
end
end Go.Am
