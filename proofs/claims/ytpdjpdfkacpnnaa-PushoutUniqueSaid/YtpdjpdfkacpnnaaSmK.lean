/- The search finds each morphism once. -/
import Derived.Test.YtpdjpdfkacpnnaaSmI
namespace Go.Am
open Go
set_option linter.unusedVariables false
set_option linter.unusedSimpArgs false
section
theorem fold_nodup {γ : Type} {f : List Mo → γ → List Mo} (Q : γ → Mo → Prop) (hf : ∀ o k, ∃ L, f o k = o ++ L ∧ L.Nodup ∧ ∀ x ∈ L, Q k x) (hd : ∀ k k' x, Q k x → Q k' x → k = k') :
    ∀ {l : List γ} (_ : l.Nodup) (o : List Mo), ∃ L, l.foldl f o = o ++ L ∧ L.Nodup ∧ ∀ x ∈ L, ∃ k ∈ l, Q k x
  | [], _, o => ⟨[], by simp, by simp, by simp⟩
  | k :: l, hl, o => by
    obtain ⟨L1, e1, n1, q1⟩ := hf o k
    obtain ⟨h1, h2⟩ := List.nodup_cons.1 hl
    obtain ⟨L2, e2, n2, q2⟩ := fold_nodup Q hf hd h2 (f o k)
    refine ⟨L1 ++ L2, by rw [List.foldl_cons, e2, e1, List.append_assoc], ?_, fun x hx => ?_⟩
    · rw [List.nodup_append]
      refine ⟨n1, n2, fun x hx y hy e => ?_⟩
      subst e
      obtain ⟨k', hk', hq⟩ := q2 x hy
      have := hd _ _ _ (q1 x hx) hq
      subst this
      exact h1 hk'
    · rcases List.mem_append.1 hx with hx | hx
      · exact ⟨k, by simp, q1 x hx⟩
      · obtain ⟨k', hk', hq⟩ := q2 x hx
        exact ⟨k', by simp [hk'], hq⟩
theorem fold_has {γ : Type} {f : List Mo → γ → List Mo} (hp : ∀ o k, ∃ L, f o k = o ++ L) {k0 : γ} {x : Mo} (hx : ∀ o, (f o k0).length ≤ 2000 → x ∈ f o k0) :
    ∀ {l : List γ} (_ : k0 ∈ l) (o : List Mo), (l.foldl f o).length ≤ 2000 → x ∈ l.foldl f o
  | [], h, o, _ => by simp at h
  | k :: l, h, o, hl => by
    have hpre : ∀ (l : List γ) (o : List Mo), ∃ L, l.foldl f o = o ++ L := fun l => by
      induction l with
      | nil => intro o; exact ⟨[], by simp⟩
      | cons k l ih =>
        intro o
        obtain ⟨L1, e1⟩ := hp o k
        obtain ⟨L2, e2⟩ := ih (f o k)
        exact ⟨L1 ++ L2, by rw [List.foldl_cons, e2, e1, List.append_assoc]⟩
    rw [List.foldl_cons] at hl ⊢
    rcases List.mem_cons.1 h with rfl | h
    · obtain ⟨L, e⟩ := hpre l (f o k0)
      rw [e] at hl ⊢
      rw [List.length_append] at hl
      exact List.mem_append_left _ (hx o (by omega))
    · exact fold_has hp hx h _ hl
theorem sel_nodup (p : Nat → Bool) (n : Nat) : (sel p n).Nodup := by
  unfold sel List.Nodup
  rw [List.pairwise_map]
  exact ((List.nodup_range (n := n)).filter _).imp fun h e => h (by omega)
theorem aE_add (a b : G) (ns : List Int) : ∀ (n : Nat) (es : List Int) (out : List Mo), ∃ L, aE a b ns n es out = out ++ L ∧ L.Nodup ∧ ∀ x ∈ L, x.n = ns ∧ ∃ r, x.e = es ++ r
  | 0, es, out => by
    rw [aE]
    split
    · exact ⟨[], by simp, by simp, by simp⟩
    · exact ⟨[⟨ns, es⟩], rfl, by simp, fun x hx => by
        simp only [List.mem_singleton] at hx
        subst hx
        exact ⟨rfl, [], by simp⟩⟩
  | n + 1, es, out => by
    rw [aE]
    split
    · exact ⟨[], by simp, by simp, by simp⟩
    · obtain ⟨L, h1, h2, h3⟩ := fold_nodup (f := fun o x => aE a b ns n (es ++ [x]) o) (fun y x => x.n = ns ∧ ∃ r, x.e = es ++ [y] ++ r) (fun o k => aE_add a b ns n (es ++ [k]) o)
        (fun k k' x h h' => by
          obtain ⟨_, r, h⟩ := h
          obtain ⟨_, r', h'⟩ := h'
          rw [h, List.append_assoc, List.append_assoc] at h'
          have := List.append_cancel_left h'
          simp at this
          exact this.1) (l := optL a b ns es.length) (sel_nodup _ _) out
      exact ⟨L, h1, h2, fun x hx => by
        obtain ⟨k, _, h4, r, h5⟩ := h3 x hx
        exact ⟨h4, [k] ++ r, by rw [h5, List.append_assoc]⟩⟩
theorem aN_add (a b : G) : ∀ (n : Nat) (ns : List Int) (out : List Mo), ∃ L, aN a b n ns out = out ++ L ∧ L.Nodup ∧ ∀ x ∈ L, ∃ r, x.n = ns ++ r
  | 0, ns, out => by
    rw [aN]
    split
    · exact ⟨[], by simp, by simp, by simp⟩
    · obtain ⟨L, h1, h2, h3⟩ := aE_add a b ns a.e.length [] out
      exact ⟨L, h1, h2, fun x hx => ⟨[], by rw [(h3 x hx).1]; simp⟩⟩
  | n + 1, ns, out => by
    rw [aN]
    split
    · exact ⟨[], by simp, by simp, by simp⟩
    · obtain ⟨L, h1, h2, h3⟩ := fold_nodup (f := fun o (i : Nat) => if gt b.n i = gt a.n ns.length ∧ possL a b (ns ++ [(i : Int)]) = true then aN a b n (ns ++ [(i : Int)]) o else o) (fun (i : Nat) x => ∃ r, x.n = ns ++ [(i : Int)] ++ r) (fun o k => by
          split
          · exact aN_add a b n _ o
          · exact ⟨[], by simp, by simp, by simp⟩)
        (fun k k' x h h' => by
          obtain ⟨r, h⟩ := h
          obtain ⟨r', h'⟩ := h'
          rw [h, List.append_assoc, List.append_assoc] at h'
          have := List.append_cancel_left h'
          simp at this
          omega) (l := List.range b.n.length) List.nodup_range out
      exact ⟨L, h1, h2, fun x hx => by
        obtain ⟨k, _, r, h5⟩ := h3 x hx
        exact ⟨[(k : Int)] ++ r, by rw [h5, List.append_assoc]⟩⟩
theorem aE_has {a b : G} {ns : List Int} : ∀ (n : Nat) (es r : List Int) (out : List Mo), r.length = n → (∀ i : Nat, i < (es ++ r).length → gt (es ++ r) i ∈ optL a b ns i) → (aE a b ns n es out).length ≤ 2000 → (⟨ns, es ++ r⟩ : Mo) ∈ aE a b ns n es out
  | 0, es, r, out, hr, hf, hl => by
    obtain rfl : r = [] := List.length_eq_zero_iff.1 hr
    rw [aE] at hl ⊢
    split at hl
    · omega
    · rename_i hc
      rw [if_neg hc]
      simp
  | n + 1, es, [], out, hr, hf, hl => by simp at hr
  | n + 1, es, y :: r, out, hr, hf, hl => by
    rw [aE] at hl ⊢
    split at hl
    · omega
    · rename_i hc
      rw [if_neg hc]
      have hy : y ∈ optL a b ns es.length := by
        have := hf es.length (by simp)
        rwa [show gt (es ++ y :: r) (es.length : Int) = y by rw [gt_nat (by simp)]; simp] at this
      refine fold_has (f := fun o x => aE a b ns n (es ++ [x]) o) (fun o k => ?_) (fun o ho => ?_) hy out hl
      · obtain ⟨L, h, _⟩ := aE_add a b ns n (es ++ [k]) o
        exact ⟨L, h⟩
      · have := aE_has n (es ++ [y]) r o (by simpa using hr) (fun i hi => by have h := hf i (by simpa using hi); simpa using h) ho
        simpa using this
theorem opt_mem {a b : G} {ns : List Int} {e y : Int} (h : 0 ≤ y ∧ y < b.e.length) (hf : fitO ns (gt a.e e) (gt b.e y) = true) : y ∈ optL a b ns e := by
  obtain ⟨k, hk, rfl⟩ := gtI h
  unfold optL sel
  exact List.mem_map.2 ⟨k, List.mem_filter.2 ⟨by simpa using hk, hf⟩, rfl⟩
theorem aN_has {a b : G} {v : Mo} (hv : MOk a b v) : ∀ (n : Nat) (ns r : List Int) (out : List Mo), r.length = n → v.n = ns ++ r → (aN a b n ns out).length ≤ 2000 → v ∈ aN a b n ns out
  | 0, ns, r, out, hr, he, hl => by
    obtain rfl : r = [] := List.length_eq_zero_iff.1 hr
    rw [List.append_nil] at he
    rw [aN] at hl ⊢
    split at hl
    · omega
    · rename_i hc
      rw [if_neg hc]
      have := aE_has (a := a) (b := b) (ns := ns) a.e.length [] v.e out hv.le (fun i hi => by
        rw [List.nil_append] at hi ⊢
        obtain ⟨h1, h2, h3, h4⟩ := hv.ed i (by have := hv.le; omega)
        refine opt_mem h1 ?_
        unfold fitO
        rw [he] at h3 h4
        simp [h2, h3, h4]) hl
      rw [List.nil_append] at this
      have e : v = ⟨ns, v.e⟩ := by rw [← he]
      rw [e]
      exact this
  | n + 1, ns, [], out, hr, he, hl => by simp at hr
  | n + 1, ns, y :: r, out, hr, he, hl => by
    have hln := hv.ln
    have hlen : ns.length < a.n.length := by rw [← hln, he]; simp
    have hgy : gt v.n ns.length = y := by rw [he, gt_nat (by simp)]; simp
    obtain ⟨h1, h2⟩ := hv.nd ns.length hlen
    rw [hgy] at h1 h2
    obtain ⟨i, hi, rfl⟩ := gtI h1
    have hcut : ∀ z : Int, 0 ≤ z → z ≤ ns.length → gt (ns ++ [(i : Int)]) z = gt v.n z := fun z h0 h1 => by
      obtain ⟨k, rfl⟩ : ∃ k : Nat, z = k := ⟨z.toNat, by omega⟩
      rw [he]
      by_cases c : k < ns.length
      · rw [gt_app c, gt_nat (l := ns ++ (i : Int) :: r) (i := k) (by simp; omega), gt_nat c, List.getElem_append_left c]
      · have : k = ns.length := by omega
        subst this
        rw [gt_last, gt_nat (by simp)]; simp
    have hposs : possL a b (ns ++ [(i : Int)]) = true := by
      unfold possL
      rw [List.all_eq_true]
      intro x hx
      obtain ⟨j, hj, rfl⟩ := mem_gt hx
      obtain ⟨g1, g2, g3, g4⟩ := hv.ed j hj
      obtain ⟨k, hk, hk2⟩ := gtI g1
      obtain ⟨_, f1, f2⟩ := edge_fits hv.va (i := j) (by omega)
      unfold possE
      by_cases c : mxE (gt a.e j) = ((ns ++ [(i : Int)]).length : Int) - 1
      · have hm : (gt a.e j).f ≤ ns.length ∧ (gt a.e j).o ≤ ns.length := by
          unfold mxE at c
          rw [List.length_append, List.length_singleton] at c
          split at c <;> omega
        have : ((List.range b.e.length).any fun k : Nat => fitO (ns ++ [(i : Int)]) (gt a.e j) (gt b.e k)) = true := by
          rw [List.any_eq_true]
          refine ⟨k, by simpa using hk, ?_⟩
          rw [hk2] at g2 g3 g4
          unfold fitO
          rw [hcut _ f1.1 hm.1, hcut _ f2.1 hm.2]
          simp [g2, g3, g4]
        rw [this, Bool.or_true]
      · rw [show decide (mxE (gt a.e j) = ((ns ++ [(i : Int)]).length : Int) - 1) = false from decide_eq_false c]
        rfl
    rw [aN] at hl ⊢
    split at hl
    · omega
    · rename_i hc
      rw [if_neg hc]
      refine fold_has (f := fun o (i : Nat) => if gt b.n i = gt a.n ns.length ∧ possL a b (ns ++ [(i : Int)]) = true then aN a b n (ns ++ [(i : Int)]) o else o) (k0 := i) (fun o k => ?_) (fun o ho => ?_) (by simpa using hi) out hl
      · skip
        split
        · obtain ⟨L, h, _⟩ := aN_add a b n (ns ++ [(k : Int)]) o
          exact ⟨L, h⟩
        · exact ⟨[], by simp⟩
      · skip
        rw [if_pos ⟨h2, hposs⟩] at ho ⊢
        exact aN_has hv n (ns ++ [(i : Int)]) r o (by simpa using hr) (by simpa using he) ho
theorem allM_has {a b : G} {v : Mo} (hv : MOk a b v) (h : allErr a b = 0) : v ∈ allM a b := by
  unfold allM
  rw [if_pos h]
  refine aN_has hv _ [] v.n [] (by rw [hv.ln]) (by simp) ?_
  unfold allErr at h
  rw [if_neg (by simp [hv.va]), if_neg (by simp [hv.vb])] at h
  split at h
  · simp at h
  · omega
theorem allM_nodup (a b : G) : (allM a b).Nodup := by
  unfold allM
  split
  · obtain ⟨L, h1, h2, _⟩ := aN_add a b a.n.length [] []
    rw [h1]
    simpa using h2
  · simp
theorem allErr_small {a b : G} (h1 : validG a = 0) (h2 : validG b = 0) : allErr a b = 0 ∨ allErr a b = 3 := by
  unfold allErr
  rw [if_neg (by simp [h1]), if_neg (by simp [h2])]
  split
  · exact .inr rfl
  · exact .inl rfl
theorem one_of {u : Mo} {p : Mo → Bool} : ∀ {l : List Mo}, l.Nodup → u ∈ l → (∀ v ∈ l, p v = true ↔ v = u) → (l.filter p).length = 1
  | [], _, h, _ => by simp at h
  | a :: l, hn, hu, hp => by
    obtain ⟨h1, h2⟩ := List.nodup_cons.1 hn
    by_cases c : a = u
    · subst c
      have h0 : l.filter p = [] := by
        rw [List.filter_eq_nil_iff]
        intro v hv hpv
        have := (hp v (by simp [hv])).1 hpv
        subst this
        exact h1 hv
      rw [List.filter_cons, if_pos ((hp a (by simp)).2 rfl), h0]
      rfl
    · rw [List.filter_cons, if_neg (fun h => c ((hp a (by simp)).1 h))]
      refine one_of h2 ?_ fun v hv => hp v (by simp [hv])
      rcases List.mem_cons.1 hu with rfl | hu
      · exact absurd rfl c
      · exact hu
end
end Go.Am
