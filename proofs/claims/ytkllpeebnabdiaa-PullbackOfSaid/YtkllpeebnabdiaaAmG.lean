/- One operation of the machine is one operation of the model. -/
import Derived.Test.YtkllpeebnabdiaaAmF
import Derived.Laws.StructEq
import Derived.Laws.Entries
namespace Go.Am
set_option linter.unusedVariables false
set_option linter.unusedSimpArgs false
set_option linter.unnecessarySimpa false
open Go

section
variable {P : Program} {B : Base} {κ : Nat → Option KI} {hp hp' : List (Nat × Ent)} {F : Nat → Prop} {w : World} {sl : List (Nat × D)} {tm : Array Value} {df : List Deferred} {n : Nat} {d : D}

/-- What an operation came to is what the machine says. -/
def Res (P : Program) (B : Base) (κ : Nat → Option KI) (hp hp' : List (Nat × Ent)) (F' : Nat → Prop) (w : World) (r : Result Next) (d : D) : Prop :=
  ∃ κ' v w', (r = .ok (.value v) w' ∨ (r = .ok .skip w' ∧ v = undef)) ∧ RH B κ' hp' F' w' ∧ Nxt B κ κ' hp hp' w w' ∧ MR w' (Im B κ' hp' w') κ' d v

theorem Res.pure (h : RH B κ hp F w) {F' : Nat → Prop} (hF : ∀ id, F' id → F id) {v : Value} {r : Result Next} (hr : r = .ok (.value v) w) (hm : MR w (Im B κ hp w) κ d v) : Res P B κ hp hp F' w r d :=
  ⟨κ, v, w, .inl hr, h.same hF, Nxt.refl _ _ _ _, hm⟩

theorem cD_sound {v : Value} (h : cD v = some d) {I : Nat → Prop} : MR w I κ d v := by
  unfold cD at h
  split at h <;> simp only [Option.some.injEq, reduceCtorEq] at h <;> subst h <;> simp [MR]

theorem ev_sound (hs : RS B κ hp w sl tm) {xo : Operand} {x : X} (hx : cX xo = some x) (he : ev sl x = some d) : MR w (Im B κ hp w) κ d (Act.eval ⟨tm, df⟩ xo) := by
  cases xo with
  | tmp t =>
    simp only [cX, Option.some.injEq] at hx
    subst hx
    obtain ⟨v, hv, hm⟩ := hs.sl t d he
    simpa [Act.eval, hv] using hm
  | const v =>
    simp only [cX] at hx
    cases hc : cD v with
    | none => simp [hc] at hx
    | some e =>
      simp only [hc, Option.map_some, Option.some.injEq] at hx
      subst hx
      simp only [ev, Option.some.injEq] at he
      subst he
      exact cD_sound hc
  | func f =>
    simp only [cX, Option.some.injEq] at hx
    subst hx
    simp only [ev, Option.some.injEq] at he
    subst he
    simp only [MR, Act.eval]
    exact ⟨#[], rfl, by simp [MRs]⟩
  | global g => simp [cX] at hx

theorem MR.int {I : Nat → Prop} {k : IntKind} {m : Int} {v : Value} : MR w I κ (.int k m) v ↔ v = .int k m := by simp only [MR]
theorem MR.bool {I : Nat → Prop} {c : Bool} {v : Value} : MR w I κ (.bool c) v ↔ v = .bool c := by simp only [MR]

theorem run_intBits_and (k : IntKind) (a b : Int) : (Op.intBits .and k a b).run P w = .ok (.int k (k.wrap (BitVec.ofInt k.bits a &&& BitVec.ofInt k.bits b).toNat)) w := rfl
theorem run_intBits_or (k : IntKind) (a b : Int) : (Op.intBits .or k a b).run P w = .ok (.int k (k.wrap (BitVec.ofInt k.bits a ||| BitVec.ofInt k.bits b).toNat)) w := rfl
theorem run_intBits_xor (k : IntKind) (a b : Int) : (Op.intBits .xor k a b).run P w = .ok (.int k (k.wrap (BitVec.ofInt k.bits a ^^^ BitVec.ofInt k.bits b).toNat)) w := rfl

/-- The value that the model has for data without places. -/
def scal : D → Value
  | .int k m => .int k m
  | .bool b => .bool b
  | _ => undef

theorem binI_sound {op : BinOp} {t : TypeId} {k : IntKind} {a b : Int} (h : binI op k a b = some d) : ∃ v, (binOp op t (.int k a) (.int k b)).run P w = .ok v w ∧ ∀ I, MR w I κ d v := by
  cases op <;> simp only [binI, Option.some.injEq, reduceCtorEq] at h
  case quo =>
    split at h
    · cases h
    · rename_i hb; simp only [Option.some.injEq] at h; subst h
      exact ⟨_, by simp [binOp, Op.intDiv, hb]; rfl, fun I => by simp [MR]⟩
  case rem =>
    split at h
    · cases h
    · rename_i hb; simp only [Option.some.injEq] at h; subst h
      exact ⟨_, by simp [binOp, Op.intDiv, hb]; rfl, fun I => by simp [MR]⟩
  all_goals subst h
  case add => exact ⟨_, by simp [binOp, Op.intArith]; rfl, fun I => by simp [MR]⟩
  case sub => exact ⟨_, by simp [binOp, Op.intArith]; rfl, fun I => by simp [MR]⟩
  case mul => exact ⟨_, by simp [binOp, Op.intArith]; rfl, fun I => by simp [MR]⟩
  case and => exact ⟨_, by simp [binOp, run_intBits_and]; rfl, fun I => by simp [MR]⟩
  case or => exact ⟨_, by simp [binOp, run_intBits_or]; rfl, fun I => by simp [MR]⟩
  case xor => exact ⟨_, by simp [binOp, run_intBits_xor]; rfl, fun I => by simp [MR]⟩
  all_goals exact ⟨_, by simp [binOp, Op.intCmp]; rfl, fun I => by simp [MR]; try rfl⟩

theorem binD_sound {op : BinOp} {t : TypeId} {x y : Operand} {a b : D} {va vb : Value} {I : Nat → Prop} (ha : MR w I κ a va) (hb : MR w I κ b vb) (h : binD op a b = some d) :
    ∃ v, (do eqGuard op t x y va vb; binOp op t va vb : Sem Value).run P w = .ok v w ∧ ∀ I, MR w I κ d v := by
  cases a <;> cases b <;> simp only [binD, reduceCtorEq] at h
  rename_i k a k' b
  simp only [MR.int] at ha hb
  subst ha; subst hb
  have hg : (eqGuard op t x y (.int k a) (.int k' b)).run P w = .ok () w := by cases op <;> simp [eqGuard]
  simp only [Sem.run_bind, hg, Result.andThen_ok]
  cases op
  case shl =>
    simp only at h
    split at h
    · cases h
    · rename_i hb; simp only [Option.some.injEq] at h; subst h
      exact ⟨_, by simp [binOp, Op.shift, hb]; rfl, fun I => by simp [MR]⟩
  case shr =>
    simp only at h
    split at h
    · cases h
    · rename_i hb; simp only [Option.some.injEq] at h; subst h
      exact ⟨_, by simp [binOp, Op.shift, hb]; rfl, fun I => by simp [MR]⟩
  all_goals
    simp only at h
    split at h
    · rename_i hk; subst hk; exact binI_sound h
    · cases h

theorem eqBD_sound {neg : Bool} {t : TypeId} (ht : P.underlying t = some .bool) {x y : Operand} {a b : D} {va vb : Value} {I : Nat → Prop} (ha : MR w I κ a va) (hb : MR w I κ b vb) (h : eqBD neg a b = some d) :
    ∃ v, (do eqGuard (if neg then .neq else .eql) t x y va vb; binOp (if neg then .neq else .eql) t va vb : Sem Value).run P w = .ok v w ∧ ∀ I, MR w I κ d v := by
  cases a <;> cases b <;> simp only [eqBD, reduceCtorEq] at h
  rename_i a b
  simp only [MR.bool] at ha hb
  subst ha; subst hb
  simp only [Option.some.injEq] at h
  subst h
  have hg : ∀ op, (eqGuard op t x y (.bool a) (.bool b)).run P w = .ok () w := fun op => by cases op <;> simp [eqGuard]
  simp only [Sem.run_bind, hg, Result.andThen_ok]
  have he : (Op.equal t (.bool a) (.bool b)).run P w = .ok (a == b) w := by
    unfold Op.equal Op.maxDepth; exact run_equalIn_bool' w 9999 t a b ht
  cases neg
  · refine ⟨.bool (a == b), ?_, fun I => ?_⟩
    · simp [binOp, he]
    · simp only [MR]; cases a <;> cases b <;> rfl
  · refine ⟨.bool (!(a == b)), ?_, fun I => ?_⟩
    · simp [binOp, he]
    · simp only [MR]; cases a <;> cases b <;> rfl

theorem eqFields_sound {dp : Nat} : ∀ (fs : List Field) (i : Nat) (xs ys : Array Value) (a b : List D) (c : Bool), intFields P fs i = true → eqCells a b = some c → a.length = fs.length →
    MRs w (fun _ => True) (fun _ => none) a (xs.toList.drop i) → MRs w (fun _ => True) (fun _ => none) b (ys.toList.drop i) → (Op.eqFields (dp + 1) xs ys fs).run P w = .ok c w
  | [], i, xs, ys, a, b, c, _, h, hl, _, _ => by
    have : a = [] := List.eq_nil_of_length_eq_zero hl
    subst this
    cases b with
    | nil => simp only [eqCells, Option.some.injEq] at h; subst h; simp [Op.eqFields]
    | cons b l => simp [eqCells] at h
  | f :: fs, i, xs, ys, a, b, c, hf, h, hl, hx, hy => by
    simp only [intFields, intField, Bool.and_eq_true, bne_iff_ne, ne_eq, beq_iff_eq] at hf
    obtain ⟨⟨⟨hn, ho⟩, ht⟩, hfs⟩ := hf
    cases a with
    | nil => simp at hl
    | cons a l =>
      cases b with
      | nil => cases a <;> simp [eqCells] at h
      | cons b m =>
        cases a <;> cases b <;> simp only [eqCells, reduceCtorEq] at h
        rename_i k p k' q
        split at h
        · rename_i hk
          subst hk
          cases hc : eqCells l m with
          | none => simp [hc] at h
          | some c' =>
            simp only [hc, Option.map_some, Option.some.injEq] at h
            subst h
            simp only [MRs, MR] at hx hy
            obtain ⟨v, vs', hv, rfl, hx'⟩ := hx
            obtain ⟨u, us', hu, rfl, hy'⟩ := hy
            have gx : xs[i]? = some (.int k p) := by
              have := congrArg (fun l => l[0]?) hv; simpa using this
            have gy : ys[i]? = some (.int k q) := by
              have := congrArg (fun l => l[0]?) hu; simpa using this
            have ex : xs.toList.drop (i + 1) = vs' := by rw [← List.drop_drop, hv]; rfl
            have ey : ys.toList.drop (i + 1) = us' := by rw [← List.drop_drop, hu]; rfl
            cases hty : P.underlying f.type with
            | none => simp [hty] at ht
            | some d =>
              cases d <;> simp [hty] at ht
              rename_i kk
              have p1 : (part f.type xs f.offset).run P w = .ok (.int k p) w := by
                simp [part, Go.isAgg, run_underlying hty, ho, gx]
              have p2 : (part f.type ys f.offset).run P w = .ok (.int k q) w := by
                simp [part, Go.isAgg, run_underlying hty, ho, gy]
              have p3 : (Op.equalIn (dp + 1) f.type (.int k p) (.int k q)).run P w = .ok (p == q) w := run_equalIn_int w dp f.type k kk p q hty
              have ih := eqFields_sound (dp := dp) fs (i + 1) xs ys l m c' hfs hc (by simpa using hl) (by rw [ex]; exact hx') (by rw [ey]; exact hy')
              simp only [Op.eqFields, ne_eq, hn, not_false_eq_true, if_true, Sem.run_bind, p1, p2, p3, Result.andThen_ok, Sem.run_ite]
              by_cases hpq : p = q
              · subst hpq; simpa using ih
              · have : (p == q) = false := by simpa using hpq
                simp [this, hpq]
        · cases h

theorem MRs.scalar {I : Nat → Prop} {a b : List D} {c : Bool} (h : eqCells a b = some c) : ∀ {vs us : List Value}, MRs w I κ a vs → MRs w I κ b us →
    MRs w (fun _ => True) (fun _ => none) a vs ∧ MRs w (fun _ => True) (fun _ => none) b us := by
  induction a generalizing b c with
  | nil =>
    cases b with
    | nil => intro vs us h1 h2; simpa [MRs] using And.intro h1 h2
    | cons b m => simp [eqCells] at h
  | cons a l ih =>
    cases b with
    | nil => cases a <;> simp [eqCells] at h
    | cons b m =>
      cases a <;> cases b <;> simp only [eqCells, reduceCtorEq] at h
      split at h
      · cases hc : eqCells l m with
        | none => simp [hc] at h
        | some c' =>
          intro vs us h1 h2
          simp only [MRs, MR] at h1 h2 ⊢
          obtain ⟨v, vs', rfl, rfl, h1⟩ := h1
          obtain ⟨u, us', rfl, rfl, h2⟩ := h2
          obtain ⟨g1, g2⟩ := ih hc h1 h2
          exact ⟨⟨_, _, rfl, rfl, g1⟩, ⟨_, _, rfl, rfl, g2⟩⟩
      · cases h

theorem eqA_sound {neg : Bool} {t : TypeId} {m : Nat} (ht : allInts P t = some m) {x y : Operand} {a b : List D} {va vb : Value} {I : Nat → Prop} (ha : MR w I κ (.agg a) va) (hb : MR w I κ (.agg b) vb) {c : Bool}
    (h : eqCells a b = some c) (hl : a.length = m) :
    ∃ v, (do eqGuard (if neg then .neq else .eql) t x y va vb; binOp (if neg then .neq else .eql) t va vb : Sem Value).run P w = .ok v w ∧ ∀ I, MR w I κ (.bool (if neg then !c else c)) v := by
  simp only [MR] at ha hb
  obtain ⟨xs, rfl, _, hx⟩ := ha
  obtain ⟨ys, rfl, _, hy⟩ := hb
  unfold allInts at ht
  split at ht
  · rename_i fs hfs
    split at ht
    · rename_i hc
      simp only [Option.some.injEq] at ht
      simp only [Bool.and_eq_true, Bool.not_eq_true'] at hc
      obtain ⟨⟨h1, h2⟩, h3⟩ := hc
      obtain ⟨gx, gy⟩ := MRs.scalar h hx hy
      have hfo : P.underlying t = some (.struct (P.fieldsOf t)) := by unfold Program.fieldsOf; simp [hfs]
      have hff : (P.fieldsOf t).toList = fs.toList := by unfold Program.fieldsOf; simp [hfs]
      have he := eqFields_sound (P := P) (w := w) (dp := 9998) fs.toList 0 xs ys a b c h1 h (by rw [hl, ht]) (by simpa using gx) (by simpa using gy)
      have hq : (Op.equalIn 10000 t (.agg xs) (.agg ys)).run P w = .ok c w := by
        rw [run_equalIn_agg w 9999 t xs ys hfo h2, hff]; exact he
      have hg := fun op => run_eqGuard_agg (P := P) w op t x y xs ys h3
      simp only [Sem.run_bind, hg, Result.andThen_ok]
      cases neg
      · exact ⟨.bool c, by simp [run_eql_struct, hq], fun I => by simp [MR]⟩
      · exact ⟨.bool (!c), by simp [run_neq_struct, hq], fun I => by simp [MR]⟩
    · cases ht
  · cases ht
end
end Go.Am
