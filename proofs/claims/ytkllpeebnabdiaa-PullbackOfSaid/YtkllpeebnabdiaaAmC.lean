/- Contracts of functions, and what a statement of the machine comes to. -/
import Derived.Test.YtkllpeebnabdiaaAmB
namespace Go.Am
open Go

/-- The contract of a function: called with `args` it returns `r`; what is handed over to be changed is then `outs`. -/
def FC (P : Program) (f : Nat) (args : List D) (r : D) (outs : List (Nat × D)) : Prop :=
  (∀ (vs : Array Value) (w : World), (callFunc f vs).run P w = .ok (.enter f vs) w) ∧
  ∀ (w : World) (I : Nat → Prop) (vs : List Value) (os : List Nat),
    (∀ b, I b → b < w.heap.size ∧ b ∉ os) → os.Nodup → (∀ b ∈ os, b < w.heap.size) → DRs w I args vs os →
    Calls P f vs.toArray w fun e w' => ∃ v' os', e = .returned v' ∧ Stp (· ∈ os) w w' ∧ os'.Nodup ∧
      (∀ b ∈ os', (b ∈ os ∨ w.heap.size ≤ b) ∧ b < w'.heap.size) ∧
      DRs w' (fun b => (I b ∨ b ∈ os ∨ w.heap.size ≤ b) ∧ b ∉ os' ∧ b < w'.heap.size) (r :: outs.map (·.2)) (v' :: outs.map (fun o => vs.getD o.1 undef)) os'

/-- Nothing in it is shared. -/
def D.flat0 : D → Bool
  | .int .. | .bool _ => true
  | _ => false
def D.flatE : D → Bool
  | .agg cs => cs.all D.flat0
  | d => d.flat0
def D.flat1 : D → Bool
  | .arr _ xs => xs.all D.flatE
  | d => d.flat0
def D.flat2 : D → Bool
  | .agg cs | .box cs => cs.all D.flat1
  | d => d.flat1
def D.flat : D → Bool
  | .tup ds => ds.all D.flat2
  | d => d.flat2

/-- The arguments of a call, as the callee takes them, and the memory meanwhile. -/
def giveO (hp : List (Nat × Ent)) : Md → D → Option (D × List (Nat × Ent))
  | .rd, d => some (d, hp)
  | .mp, d => expel1 hp d
  | _, d => expel0 hp d
def giveOs : List (Nat × Ent) → List Md → List D → Option (List D × List (Nat × Ent))
  | hp, m :: md, d :: ds => match giveO hp m d with
    | some (e, hp1) => match giveOs hp1 md ds with
      | some (l, hp2) => some (e :: l, hp2)
      | none => none
    | none => none
  | hp, [], ds => some (ds, hp)
  | hp, _ :: _, [] => some ([], hp)
def giveR (hp : List (Nat × Ent)) : List Md → List D → Option (List D)
  | .rd :: md, d :: ds => match lend hp d, giveR hp md ds with
    | some e, some l => some (e :: l)
    | _, _ => none
  | _ :: md, d :: ds => match giveR hp md ds with
    | some l => some (d :: l)
    | none => none
  | [], ds => allO (lend hp) ds
  | _ :: _, [] => some []
def gives (hp : List (Nat × Ent)) (md : List Md) (ds : List D) : Option (List D × List (Nat × Ent)) := match md with
  | [] => (allO (lend hp) ds).map fun l => (l, hp)
  | _ => match giveOs hp md ds with
    | some (es, hp1) => (giveR hp1 md es).map fun l => (l, hp1)
    | none => none
/-- The arguments that are only read. -/
def rdOf : List Md → List D → List D
  | .rd :: md, d :: ds => d :: rdOf md ds
  | _ :: md, _ :: ds => rdOf md ds
  | [], ds => ds
  | _ :: _, [] => []
def muIdx : Nat → List Md → List Nat
  | _, [] => []
  | n, .mu :: l => n :: muIdx (n + 1) l
  | n, .mp :: l => n :: muIdx (n + 1) l
  | n, _ :: l => muIdx (n + 1) l
/-- What a function value may have captured. -/
def okCap : D → Bool
  | .int .. | .bool _ | .nl _ | .lst .. | .ref _ => true
  | _ => false
/-- What can be taken in. -/
def okA0 : D → Bool
  | .int .. | .bool _ | .nl _ | .lst .. | .ref _ | .arr .. => true
  | .clo _ cs => cs.all okCap
  | _ => false
def okA1 : D → Bool
  | .agg cs | .box cs => cs.all okA0
  | d => okA0 d
def okA : D → Bool
  | .tup ds => ds.all okA1
  | d => okA1 d
/-- The size of the elements of an entry that is owned. -/
def arrSz (hp : List (Nat × Ent)) (id : Nat) : Option Nat := match lk hp id with
  | some (.arr sz _) => some sz
  | _ => none
/-- What was handed over to be changed is taken back. -/
def takeBack (hp0 : List (Nat × Ent)) (ds : List D) : Nat → List (Nat × D) → List (Nat × Ent) → Option (Nat × List (Nat × Ent))
  | n, [], hp => some (n, hp)
  | n, (i, d) :: l, hp => match ds[i]?, d with
    | some (.sl id 0 len), .arr sz xs => if xs.length = len ∧ arrSz hp0 id = some sz then takeBack hp0 ds n l ((id, .arr sz xs) :: hp) else none
    | some (.pt id 0), .box cs => if cs.all okA0 = true then takeBack hp0 ds (adopts adopt0 n cs).2.2 l ((id, .box (adopts adopt0 n cs).1) :: ((adopts adopt0 n cs).2.1 ++ hp)) else none
    | _, _ => none
def noPt : D → Bool
  | .pt .. | .pe .. | .clo .. | .tup _ => false
  | _ => true
def afterCall (fz : Bool) (n : Nat) (hp0 hp : List (Nat × Ent)) (ds : List D) (md : List Md) (r : D) (outs : List (Nat × D)) : Option (D × List (Nat × Ent)) :=
  if outs.map (·.1) = muIdx 0 md ∧ okA r = true then
    if !fz && (r.flat && outs.all (fun o => o.2.flat)) then
      match takeBack hp0 ds (adopt n r).2.2 outs ((adopt n r).2.1 ++ hp) with
      | some (n', hp') => if n' ≤ n + 64 then some ((adopt n r).1, hp') else none
      | none => none
    else if (rdOf md ds).all noPt then
      match takeBack hp0 ds (adopt n r).2.2 outs ((adopt n r).2.1 ++ freezeIds ((rdOf md ds).flatMap D.ids) hp) with
      | some (n', hp') => if n' ≤ n + 64 then some ((adopt n r).1, hp') else none
      | none => none
    else none
  else none

def putd (dst : Option Nat) (d : D) (sl : List (Nat × D)) : List (Nat × D) := match dst with
  | some t => up sl t d
  | none => sl
/-- Going on with a value, if there is one. -/
def kon {α : Type} (o : Option α) (f : α → Prop) : Prop := match o with
  | some a => f a
  | none => False
/-- Going on by a bool. -/
def bran (o : Option D) (a b : Prop) : Prop := match o with
  | some (.bool t) => (t = true → a) ∧ (t = false → b)
  | _ => False
def brang (o : Option D) (a b s : Prop) : Prop := match o with
  | some (.bool t) => (t = true → a) ∧ (t = false → b)
  | some .undef => s
  | _ => False
theorem brang_mono {o : Option D} {a b s a' b' s' : Prop} (h1 : a → a') (h2 : b → b') (h3 : s → s') (h : brang o a b s) : brang o a' b' s' := by
  unfold brang at *
  split
  · exact ⟨fun e => h1 (h.1 e), fun e => h2 (h.2 e)⟩
  · exact h3 h
  · rename_i x1 x2
    split at h
    · exact absurd rfl (x1 _)
    · exact absurd rfl x2
    · exact h
def callK (P : Program) (f : Nat) (args : List D) (F : Bool × D × List (Nat × D) → Prop) : Prop := ∃ fz r outs, FC P f args r outs ∧ F (fz, r, outs)
def asClo : D → Option (Nat × List D)
  | .clo f caps => some (f, caps)
  | _ => none
def callP (P : Program) (n : Nat) (hp : List (Nat × Ent)) (f : Nat) (ds : List D) (md : List Md) (K : D × List (Nat × Ent) → Prop) : Prop :=
  kon (gives hp md ds) fun p => callK P f p.1 fun q => kon (afterCall q.1 n hp p.2 ds md q.2.1 q.2.2) K
/-- May a slice be nil; may it be another? -/
def nilD : D → Option (Prop × Prop)
  | .nl _ => some (True, False)
  | .lst _ xs => some (xs = [], True)
  | .sl _ _ len => some (len = 0, True)
  | _ => none
def actP (P : Program) (n : Nat) (i : LI) (s : St) (K : St → Prop) : Prop :=
  match i.op with
  | .call f xs md => kon (allO (ev s.sl) xs) fun ds => callP P n s.hp f ds md fun p => K ⟨putd i.dst p.1 s.sl, p.2, s.nx⟩
  | .callv g xs => kon ((ev s.sl g).bind asClo) fun c => kon (allO (ev s.sl) xs) fun ds => callP P n s.hp c.1 (ds ++ c.2) [] fun p => K ⟨putd i.dst p.1 s.sl, p.2, s.nx⟩
  | .isnil neg x => kon ((ev s.sl x).bind nilD) fun q => (q.1 → K ⟨putd i.dst (.bool (!neg)) s.sl, s.hp, s.nx⟩) ∧ (q.2 → K ⟨putd i.dst (.bool neg) s.sl, s.hp, s.nx⟩)
  | op => kon (eff n s.sl s.hp op) fun p => K ⟨putd i.dst p.1 s.sl, p.2, s.nx⟩
def stepP (P : Program) (n : Nat) (i : LI) (s : St) (K : St → Prop) : Prop :=
  match i.guard with
  | none => actP P n i s K
  | some (t, true) => brang (lk s.sl t) (actP P n i s K) (K ⟨putd i.dst .undef s.sl, s.hp, s.nx⟩) (K ⟨putd i.dst .undef s.sl, s.hp, s.nx⟩)
  | some (t, false) => brang (lk s.sl t) (K ⟨putd i.dst .undef s.sl, s.hp, s.nx⟩) (actP P n i s K) (K ⟨putd i.dst .undef s.sl, s.hp, s.nx⟩)
def WOps (P : Program) : List LI → Nat → St → (St → Prop) → Prop
  | [], n, s, K => K ⟨s.sl, s.hp, n⟩
  | i :: l, n, s, K => stepP P n i s fun s' => WOps P l (n + 64) s' K

/-- The same for operations whose order is open: no two of them that are not ordered hinder one another. -/
def WD (P : Program) (cs : List (Nat × Option Nat × List Nat × Bool)) (n0 : Nat) : List LI → Nat → Nat → List (Nat × List Nat × List Nat) → St → (St → Prop) → Prop
  | [], _, n, _, s, K => K ⟨s.sl, s.hp, n⟩
  | x :: l, i, n, log, s, K => chkE n0 (lk cs i) log (rdI s.sl s.hp x.op) (muI s.sl x.op) = true ∧
      stepP P n x s fun s' => WD P cs n0 l (i + 1) (n + 64) (if lgE (lk cs i) then (i, rdI s.sl s.hp x.op, muI s.sl x.op) :: log else log) s' K

inductive LX where
  | normal
  | exit (id : Nat)
  | ret

def LX.seq (W : St → Prop) (Q : LX → St → Prop) : LX → St → Prop
  | .normal, s => W s
  | .exit i, s => Q (.exit i) s
  | .ret, s => Q .ret s
def LX.blk (id : Nat) (Q : LX → St → Prop) : LX → St → Prop
  | .normal, s => Q .normal s
  | .exit i, s => if i = id then Q .normal s else Q (.exit i) s
  | .ret, s => Q .ret s

def W (P : Program) : LC → (LX → St → Prop) → St → Prop
  | .skip, Q, s => Q .normal s
  | .ret, Q, s => Q .ret s
  | .exit id, Q, s => Q (.exit id) s
  | .seq a b, Q, s => W P a (LX.seq (W P b Q) Q) s
  | .reg ops keep, Q, s => WOps P ops s.nx s fun s' => Q .normal ⟨fil keep s'.sl, s'.hp, s'.nx⟩
  | .dreg cs ops keep, Q, s => WD P cs s.nx ops 0 s.nx [] s fun s' => Q .normal ⟨fil keep s'.sl, s'.hp, s'.nx⟩
  | .cond c a b, Q, s => bran (ev s.sl c) (W P a Q s) (W P b Q s)
  | .block id a, Q, s => W P a (LX.blk id Q) s
  | .loop keep a, Q, s => ∃ (I : Nat → St → Prop), (∃ m, I m (norm keep s)) ∧
      ∀ m s, I m s → W P a (LX.seq (fun s' => ∃ m', m' < m ∧ I m' (norm keep s')) Q) s

theorem kon_mono {α : Type} {o : Option α} {f g : α → Prop} (h : ∀ a, f a → g a) (hc : kon o f) : kon o g := by
  cases o
  · exact hc
  · exact h _ hc
theorem bran_mono {o : Option D} {a b a' b' : Prop} (h : a → a') (k : b → b') (hc : bran o a b) : bran o a' b' := by
  unfold bran at *
  split
  · exact ⟨fun e => h (hc.1 e), fun e => k (hc.2 e)⟩
  · rename_i h2
    split at hc
    · rename_i h3; exact (h2 _ rfl).elim
    · exact hc
theorem callK_mono {P : Program} {f : Nat} {args : List D} {F G : Bool × D × List (Nat × D) → Prop} (h : ∀ r, F r → G r) (hc : callK P f args F) : callK P f args G :=
  let ⟨z, r, o, h1, h2⟩ := hc; ⟨z, r, o, h1, h _ h2⟩
theorem callP_mono {P : Program} {n : Nat} {hp : List (Nat × Ent)} {f : Nat} {ds : List D} {md : List Md} {K K' : D × List (Nat × Ent) → Prop} (h : ∀ d, K d → K' d)
    (hc : callP P n hp f ds md K) : callP P n hp f ds md K' :=
  kon_mono (fun _ => callK_mono fun _ => kon_mono fun _ => h _) hc
theorem actP_mono {P : Program} {n : Nat} {i : LI} {s : St} {K K' : St → Prop} (h : ∀ s, K s → K' s) (hc : actP P n i s K) : actP P n i s K' := by
  unfold actP at *
  cases hop : i.op <;> simp only [hop] at hc ⊢
  case call => exact kon_mono (fun _ => callP_mono fun _ => h _) hc
  case callv => exact kon_mono (fun _ => kon_mono fun _ => callP_mono fun _ => h _) hc
  case isnil => exact kon_mono (fun _ hq => ⟨fun e => h _ (hq.1 e), fun e => h _ (hq.2 e)⟩) hc
  all_goals exact kon_mono (fun _ => h _) hc
theorem stepP_mono {P : Program} {n : Nat} {i : LI} {s : St} {K K' : St → Prop} (h : ∀ s, K s → K' s) (hc : stepP P n i s K) : stepP P n i s K' := by
  unfold stepP at *
  cases hg : i.guard with
  | none => simp only [hg] at hc ⊢; exact actP_mono h hc
  | some g =>
    obtain ⟨t, b⟩ := g
    cases b <;> simp only [hg] at hc ⊢
    · exact brang_mono (h _) (actP_mono h) (h _) hc
    · exact brang_mono (actP_mono h) (h _) (h _) hc
theorem WOps_mono {P : Program} : ∀ {l : List LI} {n : Nat} {s : St} {K K' : St → Prop}, (∀ s, K s → K' s) → WOps P l n s K → WOps P l n s K'
  | [], _, _, _, _, h, hc => h _ hc
  | _ :: _, _, _, _, _, h, hc => stepP_mono (fun _ => WOps_mono h) hc
theorem WD_mono {P : Program} {cs : List (Nat × Option Nat × List Nat × Bool)} {n0 : Nat} : ∀ {l : List LI} {i n : Nat} {log : List (Nat × List Nat × List Nat)} {s : St} {K K' : St → Prop}, (∀ s, K s → K' s) → WD P cs n0 l i n log s K → WD P cs n0 l i n log s K'
  | [], _, _, _, _, _, _, h, hc => by simp only [WD] at *; exact h _ hc
  | _ :: _, _, _, _, _, _, _, h, hc => by simp only [WD] at *; exact ⟨hc.1, stepP_mono (fun _ => WD_mono h) hc.2⟩
theorem LX.seq_mono {V V' : St → Prop} {Q Q' : LX → St → Prop} (h : ∀ s, V s → V' s) (hq : ∀ e s, Q e s → Q' e s) (e : LX) (s : St) (hc : LX.seq V Q e s) : LX.seq V' Q' e s := by
  cases e
  · exact h _ hc
  · exact hq _ _ hc
  · exact hq _ _ hc
theorem W_mono {P : Program} : ∀ (c : LC) {Q Q' : LX → St → Prop} {s : St}, (∀ e s, Q e s → Q' e s) → W P c Q s → W P c Q' s
  | .skip, _, _, _, h, hc => by simp only [W] at *; exact h _ _ hc
  | .ret, _, _, _, h, hc => by simp only [W] at *; exact h _ _ hc
  | .exit _, _, _, _, h, hc => by simp only [W] at *; exact h _ _ hc
  | .seq a b, _, _, _, h, hc => by
    simp only [W] at *
    exact W_mono a (LX.seq_mono (fun _ => W_mono b h) h) hc
  | .reg _ _, _, _, _, h, hc => by simp only [W] at *; exact WOps_mono (fun _ => h _ _) hc
  | .dreg _ _ _, _, _, _, h, hc => by simp only [W] at *; exact WD_mono (fun _ => h _ _) hc
  | .cond c a b, _, _, s, h, hc => by
    simp only [W] at *
    exact bran_mono (W_mono a h) (W_mono b h) hc
  | .block i a, _, _, _, h, hc => by
    simp only [W] at *
    refine W_mono a (fun e s he => ?_) hc
    cases e
    · exact h _ _ he
    · simp only [LX.blk] at *
      split <;> rename_i hi <;> simp only [hi, if_true, if_false] at he <;> exact h _ _ he
    · exact h _ _ he
  | .loop keep a, _, _, _, h, hc => by
    simp only [W] at *
    obtain ⟨I, h0, h1⟩ := hc
    exact ⟨I, h0, fun m s hs => W_mono a (LX.seq_mono (fun _ h => h) h) (h1 m s hs)⟩

/-- The state in which a function begins. -/
def initGo : Nat → Nat → List D → List (Nat × D) × List (Nat × Ent) × Nat
  | _, n, [] => ([], [], n)
  | t, n, d :: ds => ((t, (adopt1 n d).1) :: (initGo (t + 1) (adopt1 n d).2.2 ds).1, (adopt1 n d).2.1 ++ (initGo (t + 1) (adopt1 n d).2.2 ds).2.1, (initGo (t + 1) (adopt1 n d).2.2 ds).2.2)
def init (args : List D) : St := { sl := (initGo 0 0 args).1, hp := (initGo 0 0 args).2.1, nx := (initGo 0 0 args).2.2 }

/-- A result: a slot, or what a slot points to. -/
inductive RV where
  | t (n : Nat)
  | c (n : Nat) (ag : Bool) (m : Nat)
def rvGet (s : St) : RV → Option D
  | .t n => lk s.sl n
  | .c n ag m => match lk s.sl n with
    | some (.pt id 0) => match lk s.hp id with
      | some (.box cs) => subCells ag 0 m cs
      | _ => none
    | _ => none
def fin (s : St) (rs : List RV) (outs : List Nat) : Option (D × List (Nat × D)) :=
  match allO (rvGet s) rs with
  | some ds => match expels expel1 s.hp (ds ++ (outs.filterMap fun i => lk s.sl i)) with
    | some (l, _) => if l.length = ds.length + outs.length then
        some (match l.take ds.length with | [d] => d | l => .tup l, outs.zip (l.drop ds.length)) else none
    | none => none
  | none => none
def Done (rs : List RV) (outs : List Nat) (r : D) (os : List (Nat × D)) : LX → St → Prop
  | .exit _, _ => False
  | .normal, s => fin s rs outs = some (r, os)
  | .ret, s => fin s rs outs = some (r, os)
/-- The same, when nothing may be changed any more. -/
def DoneF (rs : List RV) (outs : List Nat) (r : D) (os : List (Nat × D)) : LX → St → Prop
  | .exit _, _ => False
  | .normal, s => fin ⟨s.sl, freezeIds (s.hp.map (·.1)) s.hp, s.nx⟩ rs outs = some (r, os)
  | .ret, s => fin ⟨s.sl, freezeIds (s.hp.map (·.1)) s.hp, s.nx⟩ rs outs = some (r, os)
def DoneA (rs : List RV) (outs : List Nat) (r : D) (os : List (Nat × D)) (e : LX) (s : St) : Prop := ∃ ids, Done rs outs r os e ⟨s.sl, freezeIds ids s.hp, s.nx⟩
theorem Done.any {rs : List RV} {outs : List Nat} {r : D} {os : List (Nat × D)} {e : LX} {s : St} (h : Done rs outs r os e s) : DoneA rs outs r os e s := ⟨[], h⟩
theorem DoneF.any {rs : List RV} {outs : List Nat} {r : D} {os : List (Nat × D)} {e : LX} {s : St} (h : DoneF rs outs r os e s) : DoneA rs outs r os e s := ⟨s.hp.map (·.1), by cases e <;> exact h⟩
end Go.Am
