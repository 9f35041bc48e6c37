/- What the machine's code comes to, the model's code comes to. -/
import Derived.Test.YtkllpeebnabdiaaAmX
import Derived.Tactics
namespace Go.Am
open Go

theorem wp_loop_idx {P : Program} {c : Code} {Q : Exit → Act → World → Prop} {a : Act} {w : World} {m : Nat} (J : Nat → Act → World → Prop) (h₀ : J m a w)
    (round : ∀ m a w, J m a w → c.wp P (Exit.then (fun a' w' => ∃ m', m' < m ∧ J m' a' w') Q) a w) : (Code.loop c).wp P Q a w := by
  intro b k cs
  have key : ∀ n a w, J n a w →
      ∃ e a' w', Q e a' w' ∧ Arrives P (lone (b.at a (.code c :: .inLoop c :: k)) cs w) b k cs e a' w' := by
    intro n
    induction n using Nat.strongRecOn with
    | _ n ih =>
      intro a w hI
      obtain ⟨e, a₁, w₁, hq, harr⟩ := round n a w hI b (.inLoop c :: k) cs
      cases e with
      | normal =>
        obtain ⟨m', hlt, hI₁⟩ := hq
        obtain ⟨e₂, a₂, w₂, hq₂, harr₂⟩ := ih m' hlt a₁ w₁ hI₁
        exact ⟨e₂, a₂, w₂, hq₂, .of_steps (Steps.trans harr (.one step_inLoop)) harr₂⟩
      | exit id => exact ⟨_, a₁, w₁, hq, .pass (x := .inLoop c) rfl (fun _ _ => .inl (by simp)) harr⟩
      | goto l => exact ⟨_, a₁, w₁, hq, .pass (x := .inLoop c) rfl (fun _ _ => .inl (by simp)) harr⟩
      | ret => exact ⟨_, a₁, w₁, hq, .pass (x := .inLoop c) rfl (fun _ _ => .inl (by simp)) harr⟩
      | panic ch => exact ⟨_, a₁, w₁, hq, .pass (x := .inLoop c) rfl (fun _ _ => .inl (by simp)) harr⟩
      | outgrown => exact ⟨_, a₁, w₁, hq, .pass (x := .inLoop c) rfl (fun _ _ => .inl (by simp)) harr⟩
  obtain ⟨e, a', w', hq, harr⟩ := key _ a w h₀
  exact ⟨e, a', w', hq, .of_steps (.one step_loop) harr⟩

def toExit : LX → Exit
  | .normal => .normal
  | .exit id => .exit id
  | .ret => .ret

/-- The model's state is the machine's. -/
def At (B : Base) (s : St) (a : Act) (w : World) : Prop := a.defers = [] ∧ ∃ κ, RH B κ s.hp (fun id => s.nx ≤ id) w ∧ RS B κ s.hp w s.sl a.tmps

theorem At.fil {B : Base} {s : St} {a : Act} {w : World} {keep : List Nat} (h : At B s a w) : At B ⟨fil keep s.sl, s.hp, s.nx⟩ a w := by
  obtain ⟨hd, κ, h1, h2⟩ := h
  refine ⟨hd, κ, h1, ⟨h2.size, fun t d ht => ?_, h2.fx⟩⟩
  simp only [lk_fil] at ht
  split at ht
  · exact h2.sl t d ht
  · cases ht
theorem At.norm {B : Base} {s : St} {a : Act} {w : World} {keep : List Nat} (h : At B s a w) : At B (norm keep s) a w := by
  obtain ⟨hd, κ, h1, h2⟩ := h
  obtain ⟨κ', g1, g2⟩ := norm_sound h1 h2 keep
  exact ⟨hd, κ', g1, g2⟩

theorem bran_case {o : Option D} {p q : Prop} (hb : bran o p q) : ∃ c : Bool, o = some (.bool c) ∧ (c = true → p) ∧ (c = false → q) := by
  unfold bran at hb
  split at hb
  · exact ⟨_, rfl, hb.1, hb.2⟩
  · exact hb.elim

theorem code_sound {P : Program} {B : Base} {H : Hints} (hmx : P.follows .mixedOrders = true) (hfx : B.fx = H.fx) :
    ∀ (c : Code) (lc : LC), cC P H B.N c = some lc → ∀ (Qa : LX → St → Prop) (Q : Exit → Act → World → Prop) (s : St) (a : Act) (w : World),
      At B s a w → W P lc Qa s → (∀ e s' a' w', Qa e s' → At B s' a' w' → Q (toExit e) a' w') → c.wp P Q a w
  | .skip, lc, hc, Qa, Q, s, a, w, hat, hw, hQ => by
    simp only [cC, Option.some.injEq] at hc
    subst hc
    simp only [W] at hw
    exact wp_skip (hQ _ _ _ _ hw hat)
  | .ret, lc, hc, Qa, Q, s, a, w, hat, hw, hQ => by
    simp only [cC, Option.some.injEq] at hc
    subst hc
    simp only [W] at hw
    exact wp_ret (hQ _ _ _ _ hw hat)
  | .exit id, lc, hc, Qa, Q, s, a, w, hat, hw, hQ => by
    simp only [cC, Option.some.injEq] at hc
    subst hc
    simp only [W] at hw
    exact wp_exit (hQ _ _ _ _ hw hat)
  | .seq x y, lc, hc, Qa, Q, s, a, w, hat, hw, hQ => by
    simp only [cC] at hc
    split at hc
    case h_2 => cases hc
    rename_i lx ly hx hy
    simp only [Option.some.injEq] at hc
    subst hc
    simp only [W] at hw
    refine wp_seq (code_sound hmx hfx x lx hx _ _ s a w hat hw fun e s' a' w' he hat' => ?_)
    cases e with
    | normal => exact code_sound hmx hfx y ly hy _ _ s' a' w' hat' he hQ
    | exit id => exact hQ _ _ _ _ he hat'
    | ret => exact hQ _ _ _ _ he hat'
  | .region id ops draw, lc, hc, Qa, Q, s, a, w, hat, hw, hQ => by
    simp only [cC] at hc
    split at hc
    case h_2 => cases hc
    rename_i l hl
    obtain ⟨hd, κ, h1, h2⟩ := hat
    cases draw with
    | false =>
      simp only [Bool.false_eq_true, if_false, Option.some.injEq] at hc
      subst hc
      simp only [W] at hw
      refine wp_region_list (ops_sound hfx hl h1 h2 hw fun κ' s' a' w' hK hR hS hN hD => ?_)
      exact hQ .normal _ _ _ hK (At.fil ⟨hD.trans hd, κ', hR, hS⟩)
    | true =>
      simp only [if_true, Option.map_eq_some_iff] at hc
      obtain ⟨cs, hcs, rfl⟩ := hc
      simp only [W] at hw
      refine dreg_sound hmx hfx hl hcs h1 h2 hw fun κ' s' a' w' hK hR hS hN hD => ?_
      exact hQ .normal _ _ _ hK (At.fil ⟨hD.trans hd, κ', hR, hS⟩)
  | .cond c x y, lc, hc, Qa, Q, s, a, w, hat, hw, hQ => by
    simp only [cC] at hc
    split at hc
    case h_2 => cases hc
    rename_i lc' lx ly hcx hx hy
    simp only [Option.some.injEq] at hc
    subst hc
    simp only [W] at hw
    obtain ⟨t, ht, g1, g2⟩ := bran_case hw
    obtain ⟨hd, κ, h1, h2⟩ := hat
    have hev := ev_sound (df := a.defers) h2 hcx ht
    simp only [MR] at hev
    refine wp_cond_split hev (fun ht => ?_) (fun ht => ?_)
    · exact code_sound hmx hfx x lx hx _ _ s a w ⟨hd, κ, h1, h2⟩ (g1 ht) hQ
    · exact code_sound hmx hfx y ly hy _ _ s a w ⟨hd, κ, h1, h2⟩ (g2 ht) hQ
  | .block id x, lc, hc, Qa, Q, s, a, w, hat, hw, hQ => by
    simp only [cC, Option.map_eq_some_iff] at hc
    obtain ⟨lx, hx, rfl⟩ := hc
    simp only [W] at hw
    refine wp_block (code_sound hmx hfx x lx hx _ _ s a w hat hw fun e s' a' w' he hat' => ?_)
    cases e with
    | normal => exact hQ .normal _ _ _ he hat'
    | exit i =>
      simp only [LX.blk] at he
      simp only [toExit, Exit.inBlock]
      split
      · rename_i hi; rw [if_pos hi] at he; exact hQ .normal _ _ _ he hat'
      · rename_i hi; rw [if_neg hi] at he; exact hQ (.exit i) _ _ _ he hat'
    | ret => exact hQ .ret _ _ _ he hat'
  | .loop x, lc, hc, Qa, Q, s, a, w, hat, hw, hQ => by
    simp only [cC, Option.map_eq_some_iff] at hc
    obtain ⟨lx, hx, rfl⟩ := hc
    simp only [W] at hw
    obtain ⟨I, ⟨m, hm⟩, hI⟩ := hw
    refine wp_loop_idx (m := m) (fun m a w => ∃ s, I m s ∧ At B s a w) ⟨_, hm, hat.norm⟩ ?_
    rintro m a w ⟨s, hs, hat⟩
    refine code_sound hmx hfx x lx hx _ _ s a w hat (hI m s hs) fun e s' a' w' he hat' => ?_
    cases e with
    | normal =>
      obtain ⟨m', hlt, hm'⟩ := he
      exact ⟨m', hlt, _, hm', hat'.norm⟩
    | exit i => exact hQ (.exit i) _ _ _ he hat'
    | ret => exact hQ .ret _ _ _ he hat'
  | .label _, lc, hc, _, _, _, _, _, _, _, _ => by simp [cC] at hc
  | .goto _, lc, hc, _, _, _, _, _, _, _, _ => by simp [cC] at hc
  | .scope _, lc, hc, _, _, _, _, _, _, _, _ => by simp [cC] at hc
  | .rangeFunc .., lc, hc, _, _, _, _, _, _, _, _ => by simp [cC] at hc
  | .refuse _, lc, hc, _, _, _, _, _, _, _, _ => by simp [cC] at hc
end Go.Am
