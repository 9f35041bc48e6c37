/- Stores and appends. -/
import Derived.Test.YtkllpeebnabdiaaAmK
namespace Go.Am
open Go

section
variable {P : Program} {B : Base} {κ : Nat → Option KI} {hp hp' : List (Nat × Ent)} {F : Nat → Prop} {w : World} {sl : List (Nat × D)} {tm : Array Value} {df : List Deferred} {n : Nat} {d : D}

theorem setRow_Stp (w : World) (b : Nat) (cs : Array Value) {cur : Array Value} {ty : TypeId} (hg : w.heap[b]? = some (.cells cur ty (0, 0))) (hs : cs.size = cur.size) : Stp (· = b) w (w.setRow b cs) :=
  ⟨rfl, rfl, rfl, by simp, fun k _ hk => setRow_other w b k cs hk, fun k c e fr hk => by
    by_cases h : k = b
    · subst h
      rw [hg] at hk
      simp only [Option.some.injEq, Obj.cells.injEq] at hk
      obtain ⟨rfl, rfl, rfl⟩ := hk
      exact ⟨cs, setRow_heap w k _ cs _ _ hg, hs⟩
    · exact ⟨c, by rw [setRow_other w b k cs h]; exact hk, rfl⟩⟩

theorem run_storeVar {t : TypeId} {m b off : Nat} (hz : szOf P t = some m) {v : Value} (hm : v.cells.size = m) (h1 : ∀ u ∈ v.cells.toList, u.oneCell' = true) {cur : Array Value} {ty : TypeId} (hg : w.heap[b]? = some (.cells cur ty (0, 0))) (hle : off + m ≤ cur.size) :
    (Go.storeVar t ⟨b, off, none⟩ v).run P w = .ok () (w.setRow b (cur.toList.take off ++ v.cells.toList ++ cur.toList.drop (off + m)).toArray) := by
  have := run_storeCells_at P b off ty v.cells.toList 0 cur w hg (by simp; omega) h1
  simp only [Nat.add_zero, Array.length_toList, hm] at this
  simp [Go.storeVar, run_szOf hz, hm, this]

theorem Mem.set {w' : World} {b : Nat} {cur : Array Value} {e : TypeId} (hg : w'.heap[b]? = some (.cells cur e (0, 0))) {us : List Value} (h : ∀ (j : Nat) (u : Value), us[j]? = some u → cur[j]? = some u) : Mem w' b 0 us :=
  Mem.of_cells hg (fun j u hj => by simpa using h j u hj)

theorem res_store (h : RH B κ hp F w) (hs : RS B κ hp w sl tm) {o : Oper} {t : TypeId} {ao xo : Operand} (ho : o.op = .store t ao xo) {a x : X} (ha : cX ao = some a) (hx : cX xo = some x) {m : Nat} (hz : szOf P t = some m) (hm0 : m ≠ 0)
    (he : eff n sl hp (.store m a x) = some (d, hp')) : Res P B κ hp hp' (Fr F n) w ((execOp (Act.eval ⟨tm, df⟩) o).run P w) d := by
  simp only [eff] at he
  cases hda : ev sl a with
  | none => simp [hda] at he
  | some da =>
    cases hdx : ev sl x with
    | none => cases da <;> simp [hda, hdx] at he
    | some dx =>
      have hva := ev_sound (df := df) hs ha hda
      have hvx := ev_sound (df := df) hs hx hdx
      cases da <;> simp only [hda, hdx, reduceCtorEq] at he
      case pt id off =>
        split at he
        · rename_i cs l hl hc
          split at he
          · rename_i hcond
            simp only [Option.some.injEq, Prod.mk.injEq] at he
            obtain ⟨rfl, rfl⟩ := he
            obtain ⟨b, cur, ty, hk, hob, hg, h1, hms⟩ := h.box hl
            simp only [MR, hk, Option.some.injEq, KI.box.injEq] at hva
            obtain ⟨b', rfl, hva⟩ := hva
            obtain ⟨g1, g2⟩ := cellsO_MR hvx hc
            have hsz : (Act.eval ⟨tm, df⟩ xo).cells.size = m := by have := g1.length; simp at this; omega
            have hcl := hms.length
            have hr := run_storeVar (P := P) hz hsz g2 hg (off := off) (by simp at hcl; omega)
            have hst := setRow_Stp w b (cur.toList.take off ++ (Act.eval ⟨tm, df⟩ xo).cells.toList ++ cur.toList.drop (off + m)).toArray hg (by simp only [List.size_toArray, List.length_append, List.length_take, List.length_drop, Array.length_toList, hsz]; simp at hcl; omega)
            obtain ⟨k1, k2⟩ := h.change (F' := Fr F n) hob hst Fr.sub (ent := .box (splice cs off l)) (fun keep => by
              simp only [ER]
              refine ⟨b, _, ty, hk, setRow_heap w b cur _ ty _ hg, ?_, ?_⟩
              · intro u hu
                simp only [List.mem_append] at hu
                rcases hu with (hu | hu) | hu
                · exact h1 u (List.mem_of_mem_take hu)
                · exact g2 u hu
                · exact h1 u (List.mem_of_mem_drop hu)
              · have hsp : splice cs off l = cs.take off ++ l ++ cs.drop (off + m) := by unfold splice; rw [hcond.1]
                have hh := MRs.append.2 ⟨_, _, rfl, MRs.append.2 ⟨_, _, rfl, ((hms.take off).1).mono keep (fun _ _ h => h), g1.mono keep (fun _ _ h => h)⟩, ((hms.take (off + m)).2).mono keep (fun _ _ h => h)⟩
                rw [← hsp] at hh
                exact hh)
            refine ⟨κ, undef, _, .inr ⟨?_, rfl⟩, k1, k2, by simp only [MR]; exact undef_nb⟩
            simp [execOp, ho, Instr.storeAt, Instr.sureAddr, hva, hr]
          · cases he
        · cases he
      case pe id i off =>
        split at he
        · rename_i sz xs hl
          split at he
          · rename_i el d' hxe hpd
            split at he
            · rename_i hcond
              -- the new element
              have key : ∀ (el' : D) (u' : List Value) (hM : ∀ (I : Nat → Prop), Keep w w (Im B κ hp w) I → (∀ id ∈ dx.ids, Rd w I κ hp id) → ∀ u, P1 w I el u → u.length = sz → P1 w I el' (u.take off ++ (Act.eval ⟨tm, df⟩ xo).cells.toList ++ u.drop (off + m)) ∧ (u.take off ++ (Act.eval ⟨tm, df⟩ xo).cells.toList ++ u.drop (off + m)).length = sz),
                  (Act.eval ⟨tm, df⟩ xo).cells.size = m → (∀ u ∈ (Act.eval ⟨tm, df⟩ xo).cells.toList, u.oneCell' = true) → off + m ≤ sz → d = .undef → hp' = up (freezeIds dx.ids hp) id (.arr sz (xs.set i el')) → lk (freezeIds dx.ids hp) id = some (.arr sz xs) →
                  Res P B κ hp hp' (Fr F n) w ((execOp (Act.eval ⟨tm, df⟩) o).run P w) d := by
                intro el' u' hM hsz g2 hoff hd hhp hfz
                subst hd; subst hhp
                obtain ⟨k1, k2⟩ := h.freezes dx.ids
                have hent := k1.ent id _ hfz
                simp only [MR] at hva
                obtain ⟨b, sz', tot, hk, hva⟩ := hva
                simp only [ER, hk, Option.some.injEq, reduceCtorEq, false_and, false_or, KI.arr.injEq] at hent
                obtain ⟨hmax, b', tot', cur, ty, us, ⟨rfl, rfl, rfl⟩, hg, htot, hMem, hP⟩ := hent
                obtain ⟨av, u, bv, rfl, la, lu, p1, pa, pb⟩ := hP.get hxe
                obtain ⟨q1, q2⟩ := hM _ k2.keep (fun id hi => rd_freeze k1 hi) u p1 lu
                have hi := (List.getElem?_eq_some_iff.1 hxe).1
                have hMc := Mem.cells hg hMem
                have hle : i * sz' + sz' ≤ cur.size := by
                  have := Mem.le hg hMem (by simp [lu]; omega)
                  simp [la, lu] at this; omega
                have hr := run_storeVar (P := P) hz hsz g2 hg (off := i * sz' + off) (by omega)
                have hst := setRow_Stp w b (cur.toList.take (i * sz' + off) ++ (Act.eval ⟨tm, df⟩ xo).cells.toList ++ cur.toList.drop (i * sz' + off + m)).toArray hg (by simp only [List.size_toArray, List.length_append, List.length_take, List.length_drop, Array.length_toList, hsz]; omega)
                have hob : OB κ (freezeIds dx.ids hp) id b := ⟨_, _, hfz, rfl, hk, rfl⟩
                obtain ⟨j1, j2⟩ := k1.change (F' := Fr F n) hob hst Fr.sub (ent := .arr sz' (xs.set i el')) (fun keep => by
                  simp only [ER]
                  refine ⟨by simpa using hmax, .inr ⟨b, tot, _, ty, av ++ ((u.take off ++ (Act.eval ⟨tm, df⟩ xo).cells.toList ++ u.drop (off + m)) ++ bv), hk, setRow_heap w b cur _ ty _ hg, ?_, ?_, ?_⟩⟩
                  · simp only [List.size_toArray, List.length_append, List.length_take, List.length_drop, Array.length_toList, hsz]; omega
                  · refine Mem.set (setRow_heap w b cur _ ty _ hg) (fun j uu hj => ?_)
                    have e1 : av ++ ((u.take off ++ (Act.eval ⟨tm, df⟩ xo).cells.toList ++ u.drop (off + m)) ++ bv) = (av ++ (u ++ bv)).take (i * sz' + off) ++ (Act.eval ⟨tm, df⟩ xo).cells.toList ++ (av ++ (u ++ bv)).drop (i * sz' + off + m) := by
                      rw [← la]
                      rw [List.take_append, List.drop_append]
                      simp only [Nat.add_sub_cancel_left, List.take_append, List.drop_append]
                      have e2 : av.take (av.length + off) = av := List.take_of_length_le (by omega)
                      have e3 : av.drop (av.length + off + m) = [] := List.drop_eq_nil_of_le (by omega)
                      have e4 : bv.take (off - u.length) = [] := by rw [show off - u.length = 0 from by omega]; rfl
                      have e5 : bv.drop (av.length + off + m - av.length - u.length) = bv := by rw [show av.length + off + m - av.length - u.length = 0 from by omega]; rfl
                      rw [e2, e3, e4, e5, show av.length + off + m - av.length = off + m from by omega]
                      simp
                    rw [e1] at hj
                    have hlt : (av ++ (u ++ bv)).length ≤ cur.size := by
                      have := Mem.le hg hMem (by simp [lu]; omega); simpa using this
                    have hpre : ∀ j, j < (av ++ (u ++ bv)).length → (av ++ (u ++ bv))[j]? = cur.toList[j]? := fun j hj => by
                      have := hMc j _ (List.getElem?_eq_getElem hj)
                      rw [List.getElem?_eq_getElem hj]
                      simpa using this.symm
                    rw [show (cur.toList.take (i * sz' + off) ++ (Act.eval ⟨tm, df⟩ xo).cells.toList ++ cur.toList.drop (i * sz' + off + m)).toArray[j]? = (cur.toList.take (i * sz' + off) ++ (Act.eval ⟨tm, df⟩ xo).cells.toList ++ cur.toList.drop (i * sz' + off + m))[j]? from by simp]
                    have ltot : (av ++ (u ++ bv)).length = i * sz' + (sz' + bv.length) := by simp [la, lu]
                    by_cases c1 : j < i * sz' + off
                    · have l1 : j < ((av ++ (u ++ bv)).take (i * sz' + off)).length := by rw [List.length_take]; omega
                      have l2 : j < (cur.toList.take (i * sz' + off)).length := by rw [List.length_take, Array.length_toList]; omega
                      rw [List.append_assoc, List.getElem?_append_left l1] at hj
                      rw [List.append_assoc, List.getElem?_append_left l2]
                      rw [List.getElem?_take, if_pos c1] at hj ⊢
                      rw [← hpre j (by omega)]; exact hj
                    · have l1 : ((av ++ (u ++ bv)).take (i * sz' + off)).length = i * sz' + off := by rw [List.length_take]; omega
                      have l2 : (cur.toList.take (i * sz' + off)).length = i * sz' + off := by rw [List.length_take, Array.length_toList]; omega
                      rw [List.append_assoc, List.getElem?_append_right (by omega), l1] at hj
                      rw [List.append_assoc, List.getElem?_append_right (by omega), l2]
                      by_cases c2 : j - (i * sz' + off) < m
                      · rw [List.getElem?_append_left (by simpa [hsz] using c2)] at hj ⊢
                        exact hj
                      · rw [List.getElem?_append_right (by simp [hsz]; omega)] at hj ⊢
                        rw [List.getElem?_drop] at hj ⊢
                        simp only [Array.length_toList, hsz] at hj ⊢
                        rw [← hpre _ (by have := (List.getElem?_eq_some_iff.1 hj).1; omega)]; exact hj
                  · have hP2 := PE.set (i := i) hP hxe q1 q2
                    have e1 : (av ++ (u ++ bv)).take (i * sz') ++ ((u.take off ++ (Act.eval ⟨tm, df⟩ xo).cells.toList ++ u.drop (off + m)) ++ (av ++ (u ++ bv)).drop (i * sz' + sz')) = av ++ ((u.take off ++ (Act.eval ⟨tm, df⟩ xo).cells.toList ++ u.drop (off + m)) ++ bv) := by
                      rw [← la, List.take_left, show av.length + sz' = (av ++ u).length from by simp [lu], ← List.append_assoc av u bv, List.drop_left]
                    rw [e1] at hP2
                    exact PE.mono keep _ _ _ hP2)
                refine ⟨κ, undef, _, .inr ⟨?_, rfl⟩, j1, k2.trans j2, by simp only [MR]; exact undef_nb⟩
                simp [execOp, ho, Instr.storeAt, Instr.sureAddr, hva, hr]
              have hsz : (Act.eval ⟨tm, df⟩ xo).cells.size = m ∧ ∀ u ∈ (Act.eval ⟨tm, df⟩ xo).cells.toList, u.oneCell' = true := by
                obtain ⟨k1, k2⟩ := h.freezes dx.ids
                have hpc := pur_sound k2.keep (fun id hi => rd_freeze k1 hi) hvx hpd
                have := hpc.length
                exact ⟨by simp at this; omega, hpc.one⟩
              have hnid : id ∉ dx.ids := by
                have := hcond.2.2
                simpa using this
              have hfz : lk (freezeIds dx.ids hp) id = some (.arr sz xs) := by
                rw [lk_freeze _ _ _ _ hl, if_neg hnid]
              have hels : el.cells.length = sz := by
                have hent := h.ent id _ hl
                simp only [MR] at hva
                obtain ⟨b, sz', tot, hk, hva⟩ := hva
                simp only [ER, hk, Option.some.injEq, reduceCtorEq, false_and, false_or, KI.arr.injEq] at hent
                obtain ⟨hmax, b', tot', cur, ty, us, ⟨rfl, rfl, rfl⟩, hg, htot, hMem, hP⟩ := hent
                obtain ⟨av, u, bv, _, _, lu, p1, _, _⟩ := hP.get hxe
                rw [← p1.cells.length, lu]
              split at he
              · rename_i hms
                split at he
                · rename_i hok
                  simp only [Option.some.injEq, Prod.mk.injEq] at he
                  refine key d' [] (fun I hk hr u p1 lu => ?_) hsz.1 hsz.2 (by omega) he.1.symm he.2.symm hfz
                  have hoff : off = 0 := by omega
                  subst hoff
                  have e1 : u.take 0 ++ (Act.eval ⟨tm, df⟩ xo).cells.toList ++ u.drop (0 + m) = (Act.eval ⟨tm, df⟩ xo).cells.toList := by
                    rw [List.drop_eq_nil_of_le (by omega)]; simp
                  rw [e1]
                  exact P1.of_cells hok (pur_sound hk hr hvx hpd)
                · cases he
              · split at he
                · rename_i hok
                  simp only [Option.some.injEq, Prod.mk.injEq] at he
                  refine key _ [] (fun I hk hr u p1 lu => ?_) hsz.1 hsz.2 (by omega) he.1.symm he.2.symm hfz
                  have hpc := pur_sound hk hr hvx hpd
                  have hu := p1.cells
                  have hh : PC w I (splice el.cells off d'.cells) (u.take off ++ (Act.eval ⟨tm, df⟩ xo).cells.toList ++ u.drop (off + m)) := by
                    unfold splice
                    rw [hcond.1]
                    exact PC.append.2 ⟨_, _, rfl, PC.append.2 ⟨_, _, rfl, hu.take off, hpc⟩, hu.drop (off + m)⟩
                  refine ⟨by simp only [P1]; exact hh, ?_⟩
                  rw [hh.length]
                  simp only [okElem, Bool.and_eq_true, decide_eq_true_eq] at hok
                  exact hok.1
                · cases he
            · cases he
          · cases he
        · cases he
end
end Go.Am
