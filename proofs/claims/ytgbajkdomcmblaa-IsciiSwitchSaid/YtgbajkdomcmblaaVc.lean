/- A calculus of single steps over the walk's own wp: the live slots as a list, a rule for each operation, loops by a relation with a measure. It speaks of any program. -/
import Derived.WalkKit
import Derived.WalkSpells
import Derived.WalkLawsBesides
import Derived.Maps.AppendAt
set_option linter.unusedVariables false
set_option linter.unusedSimpArgs false
namespace Go.Proofs.Ytgbajkdomcmblaa.Vc
open Go Go.RowKit

abbrev St := List (Nat × Value)

/-- The value of a slot. -/
def look : St → Nat → Option Value
  | [], _ => none
  | (k, v) :: r, t => bif Nat.beq k t then some v else look r t

theorem look_self (d : Nat) (v : Value) (σ : St) : look ((d, v) :: σ) d = some v := by simp [look]
theorem look_ne {d t : Nat} (h : d ≠ t) (v : Value) (σ : St) : look ((d, v) :: σ) t = look σ t := by
  have : Nat.beq d t = false := by
    cases hb : Nat.beq d t with
    | false => rfl
    | true => exact absurd (Nat.eq_of_beq_eq_true hb) h
  simp [look, this]

/-- An activation has the slots that the list tells. -/
structure Rep (n : Nat) (a : Act) (σ : St) : Prop where
  defers : a.defers = []
  size : a.tmps.size = n
  slot : ∀ t v, look σ t = some v → a.tmps[t]? = some v

def ev (σ : St) : Operand → Option Value
  | .tmp t => look σ t
  | .const v => some v
  | .global g => some (.pointer (some ⟨g, 0, none⟩))
  | .func f => some (.func (.func f) #[] #[])

theorem Rep.ev {n : Nat} {a : Act} {σ : St} (h : Rep n a σ) {x : Operand} {v : Value} (hx : ev σ x = some v) : a.eval x = v := by
  cases x with
  | tmp t =>
    have := h.slot t v hx
    simp [Act.eval, this]
  | const u => simpa [Vc.ev, Act.eval] using hx
  | global g => simpa [Vc.ev, Act.eval] using hx
  | func f => simpa [Vc.ev, Act.eval] using hx

theorem Rep.put {n : Nat} {a : Act} {σ : St} (h : Rep n a σ) {d : Nat} (hd : d < n) (v : Value) : Rep n (a.put (some d) v) ((d, v) :: σ) := by
  refine ⟨h.defers, by simp [Act.put, h.size], fun t u ht => ?_⟩
  by_cases e : d = t
  · subst e
    rw [look_self] at ht
    cases ht
    simp [Act.put, h.size, hd]
  · rw [look_ne e] at ht
    simp only [Act.put]
    rw [Array.getElem?_setIfInBounds_ne e]
    exact h.slot t u ht
theorem Rep.put_none {n : Nat} {a : Act} {σ : St} (h : Rep n a σ) (v : Value) : Rep n (a.put none v) σ := h

/-- A list that tells less. -/
def Sub (σ τ : St) : Prop := ∀ t v, look σ t = some v → look τ t = some v
theorem Sub.refl (σ : St) : Sub σ σ := fun _ _ h => h
theorem Sub.nil (τ : St) : Sub [] τ := fun _ _ h => by cases h
theorem Sub.cons {t : Nat} {v : Value} {σ τ : St} (h : look τ t = some v) (hs : Sub σ τ) : Sub ((t, v) :: σ) τ := by
  intro u x hx
  by_cases e : t = u
  · subst e
    rw [look_self] at hx
    cases hx
    exact h
  · rw [look_ne e] at hx
    exact hs u x hx
theorem Rep.sub {n : Nat} {a : Act} {σ τ : St} (h : Rep n a τ) (hs : Sub σ τ) : Rep n a σ := ⟨h.defers, h.size, fun t v ht => h.slot t v (hs t v ht)⟩

abbrev Post := Exit → St → World → Prop
def Lf (n : Nat) (Q : Post) : Exit → Act → World → Prop := fun e a w => ∃ σ, Rep n a σ ∧ Q e σ w

/-- Operations that are left in a region. -/
structure WL (P : Program) (n : Nat) (ops : Array Oper) (Q : Post) (l : List Oper) (σ : St) (w : World) : Prop where
  run : ∀ a, Rep n a σ → wpList P ops (Lf n Q) l a w
/-- Code that is left. -/
structure CW (P : Program) (n : Nat) (c : Code) (Q : Post) (σ : St) (w : World) : Prop where
  run : ∀ a, Rep n a σ → c.wp P (Lf n Q) a w

def Then (K : St → World → Prop) (Q : Post) : Post
  | .normal, σ, w => K σ w
  | e, σ, w => Q e σ w
def Blk (id : Nat) (Q : Post) : Post
  | .exit i, σ, w => bif Nat.beq i id then Q .normal σ w else Q (.exit i) σ w
  | e, σ, w => Q e σ w

section code
variable {P : Program} {n : Nat} {Q : Post} {σ : St} {w : World}

theorem CW.mono {c : Code} {Q' : Post} (h : CW P n c Q σ w) (hq : ∀ e σ w, Q e σ w → Q' e σ w) : CW P n c Q' σ w :=
  ⟨fun a ha => wp_mono (h.run a ha) fun e a' w' ⟨σ', hr, q⟩ => ⟨σ', hr, hq _ _ _ q⟩⟩
theorem CW.sub {c : Code} {τ : St} (hs : Sub τ σ) (h : CW P n c Q τ w) : CW P n c Q σ w := ⟨fun a ha => h.run a (ha.sub hs)⟩
theorem CW.skip (h : Q .normal σ w) : CW P n .skip Q σ w := ⟨fun a ha => wp_skip ⟨σ, ha, h⟩⟩
theorem CW.exit {id : Nat} (h : Q (.exit id) σ w) : CW P n (.exit id) Q σ w := ⟨fun a ha => wp_exit ⟨σ, ha, h⟩⟩
theorem CW.ret (h : Q .ret σ w) : CW P n .ret Q σ w := ⟨fun a ha => wp_ret ⟨σ, ha, h⟩⟩
theorem CW.label {l : Nat} (h : Q .normal σ w) : CW P n (.label l) Q σ w := ⟨fun a ha => wp_label ⟨σ, ha, h⟩⟩
theorem CW.goto {l : Nat} (h : Q (.goto l) σ w) : CW P n (.goto l) Q σ w := ⟨fun a ha => wp_goto ⟨σ, ha, h⟩⟩
theorem CW.seq {x y : Code} (h : CW P n x (Then (CW P n y Q) Q) σ w) : CW P n (.seq x y) Q σ w :=
  ⟨fun a ha => wp_seq (wp_mono (h.run a ha) fun e a' w' ⟨σ', hr, q⟩ => by
    cases e <;> first | exact q.run a' hr | exact ⟨σ', hr, q⟩)⟩
theorem CW.condT {c : Operand} {x y : Code} (hc : ev σ c = some (.bool true)) (h : CW P n x Q σ w) : CW P n (.cond c x y) Q σ w :=
  ⟨fun a ha => wp_cond_true (ha.ev hc) (h.run a ha)⟩
theorem CW.condF {c : Operand} {x y : Code} (hc : ev σ c = some (.bool false)) (h : CW P n y Q σ w) : CW P n (.cond c x y) Q σ w :=
  ⟨fun a ha => wp_cond_false (ha.ev hc) (h.run a ha)⟩
theorem CW.condB {c : Operand} {x y : Code} {b : Bool} (hc : ev σ c = some (.bool b)) (h1 : b = true → CW P n x Q σ w) (h2 : b = false → CW P n y Q σ w) : CW P n (.cond c x y) Q σ w :=
  ⟨fun a ha => wp_cond_split (ha.ev hc) (fun e => (h1 e).run a ha) (fun e => (h2 e).run a ha)⟩
theorem CW.condP {c : Operand} {x y : Code} {p : Prop} [Decidable p] (hc : ev σ c = some (.bool (decide p))) (h1 : p → CW P n x Q σ w) (h2 : ¬ p → CW P n y Q σ w) : CW P n (.cond c x y) Q σ w :=
  .condB hc (fun e => h1 (of_decide_eq_true e)) (fun e => h2 (of_decide_eq_false e))
theorem CW.block {id : Nat} {c : Code} (h : CW P n c (Blk id Q) σ w) : CW P n (.block id c) Q σ w :=
  ⟨fun a ha => wp_block (wp_mono (h.run a ha) fun e a' w' ⟨σ', hr, q⟩ => by
    cases e with
    | exit i =>
      simp only [Exit.inBlock]
      cases hb : Nat.beq i id with
      | true =>
        have := Nat.eq_of_beq_eq_true hb
        rw [if_pos this]
        simp only [Blk, hb, cond_true] at q
        exact ⟨σ', hr, q⟩
      | false =>
        have hne : i ≠ id := fun e => by subst e; simp at hb
        rw [if_neg hne]
        simp only [Blk, hb, cond_false] at q
        exact ⟨σ', hr, q⟩
    | _ => exact ⟨σ', hr, q⟩)⟩
theorem CW.loop {c : Code} (I : Nat → St → World → Prop) (m : Nat) (σ0 : St) (hs : Sub σ0 σ) (h0 : I m σ0 w)
    (round : ∀ m σ w, I m σ w → CW P n c (Then (fun σ' w' => ∃ m' σ'', m' < m ∧ Sub σ'' σ' ∧ I m' σ'' w') Q) σ w) : CW P n (.loop c) Q σ w := by
  refine ⟨fun a ha b k cs => ?_⟩
  have key : ∀ (m : Nat) (a : Act) (w : World), (∃ σ, Rep n a σ ∧ I m σ w) →
      ∃ e a' w', Lf n Q e a' w' ∧ Arrives P (lone (b.at a (.code c :: .inLoop c :: k)) cs w) b k cs e a' w' := by
    intro m
    induction m using Nat.strongRecOn with
    | _ m ih =>
      intro a w ⟨σ, hr, hI⟩
      obtain ⟨e, a1, w1, hq, harr⟩ := (round m σ w hI).run a hr b (.inLoop c :: k) cs
      obtain ⟨σ1, hr1, q⟩ := hq
      cases e with
      | normal =>
        obtain ⟨m', σ'', hlt, hsub, hI'⟩ := q
        obtain ⟨e2, a2, w2, hq2, harr2⟩ := ih m' hlt a1 w1 ⟨σ'', hr1.sub hsub, hI'⟩
        exact ⟨e2, a2, w2, hq2, .of_steps (Steps.trans harr (.one step_inLoop)) harr2⟩
      | exit id => exact ⟨_, a1, w1, ⟨σ1, hr1, q⟩, .pass (x := .inLoop c) rfl (fun _ _ => .inl (by simp)) harr⟩
      | goto l => exact ⟨_, a1, w1, ⟨σ1, hr1, q⟩, .pass (x := .inLoop c) rfl (fun _ _ => .inl (by simp)) harr⟩
      | ret => exact ⟨_, a1, w1, ⟨σ1, hr1, q⟩, .pass (x := .inLoop c) rfl (fun _ _ => .inl (by simp)) harr⟩
      | panic ch => exact ⟨_, a1, w1, ⟨σ1, hr1, q⟩, .pass (x := .inLoop c) rfl (fun _ _ => .inl (by simp)) harr⟩
      | outgrown => exact ⟨_, a1, w1, ⟨σ1, hr1, q⟩, .pass (x := .inLoop c) rfl (fun _ _ => .inl (by simp)) harr⟩
  obtain ⟨e, a', w', hq, harr⟩ := key m a w ⟨σ0, ha.sub hs, h0⟩
  exact ⟨e, a', w', hq, .of_steps (.one step_loop) harr⟩
end code

/-! ### Calls -/
/-- A call returns, and this holds of its value and the world behind it. -/
structure Fc (P : Program) (f : FuncId) (args : Array Value) (w : World) (R : Value → World → Prop) : Prop where
  run : Calls P f args w fun e w' => ∃ v, e = .returned v ∧ R v w'

theorem Fc.mono {P : Program} {f : FuncId} {args : Array Value} {w : World} {R R' : Value → World → Prop} (h : Fc P f args w R) (hr : ∀ v w', R v w' → R' v w') : Fc P f args w R' :=
  ⟨h.run.mono fun e w' ⟨v, he, hR⟩ => ⟨v, he, hr v w' hR⟩⟩

def ArgsOk (σ : St) (args : Array Value) : Prop := ∀ t v, look σ t = some v → args[t]? = some v
theorem ArgsOk.nil (args : Array Value) : ArgsOk [] args := fun _ _ h => by cases h
theorem ArgsOk.cons {t : Nat} {v : Value} {σ : St} {args : Array Value} (h : args[t]? = some v) (hs : ArgsOk σ args) : ArgsOk ((t, v) :: σ) args := by
  intro u x hx
  by_cases e : t = u
  · subst e
    rw [look_self] at hx
    cases hx
    exact h
  · rw [look_ne e] at hx
    exact hs u x hx

/-- What is asked where a body ends. -/
structure RetAt (P : Program) (n : Nat) (fn : Func) (R : Value → World → Prop) (σ : St) (w : World) : Prop where
  run : ∃ v, (∀ a, Rep n a σ → (results fn a.tmps).run P w = .ok v w) ∧ R v w
def Ret (P : Program) (n : Nat) (fn : Func) (R : Value → World → Prop) : Post
  | .normal, σ, w | .ret, σ, w => RetAt P n fn R σ w
  | _, _, _ => False

theorem Fc.enter {P : Program} {f : FuncId} {fn : Func} {c : Code} {args : Array Value} {w : World} {R : Value → World → Prop} {n : Nat} (σ : St)
    (hf : P.funcs[f]? = some fn) (hb : fn.body = some c) (hn : fn.ntmps = n) (hl : args.size ≤ n) (hσ : ArgsOk σ args) (h : CW P n c (Ret P n fn R) σ w) : Fc P f args w R := by
  refine ⟨calls_of_wp hf hb (wp_mono (h.run _ ⟨rfl, ?_, ?_⟩) ?_)⟩
  · simp only [Array.size_append, Array.size_replicate]
    omega
  · intro t v ht
    have := hσ t v ht
    have hlt : t < args.size := (Array.getElem?_eq_some_iff.1 this).1
    simp only [Array.getElem?_append, hlt, if_true, this]
  · intro e a w' ⟨σ', hr, q⟩
    cases e with
    | normal => obtain ⟨v, h1, h2⟩ := RetAt.run q; exact ⟨hr.defers, v, h1 a hr, v, rfl, h2⟩
    | ret => obtain ⟨v, h1, h2⟩ := RetAt.run q; exact ⟨hr.defers, v, h1 a hr, v, rfl, h2⟩
    | exit id => exact q.elim
    | goto l => exact q.elim
    | panic c => exact q.elim
    | outgrown => exact q.elim

section ret
variable {P : Program} {n : Nat} {fn : Func} {R : Value → World → Prop} {σ : St} {w : World}
theorem Rep.getD {a : Act} (h : Rep n a σ) {t : Nat} {v : Value} (ht : look σ t = some v) : a.tmps.getD t undef = v := by
  have := h.slot t v ht
  simp [this]
theorem Ret.one {t : Nat} {v : Value} (hr : fn.results = #[.tmp t]) (ht : look σ t = some v) (h : R v w) : RetAt P n fn R σ w :=
  ⟨⟨v, fun a ha => by rw [results_tmp hr, ha.getD ht], h⟩⟩
theorem Ret.two {t u : Nat} {v x : Value} (hr : fn.results = #[.tmp t, .tmp u]) (ht : look σ t = some v) (hu : look σ u = some x) (h : R (.tuple #[v, x]) w) : RetAt P n fn R σ w :=
  ⟨⟨_, fun a ha => by rw [results_tmp2 hr, ha.getD ht, ha.getD hu], h⟩⟩
theorem Ret.three {t u s : Nat} {v x y : Value} (hr : fn.results = #[.tmp t, .tmp u, .tmp s]) (ht : look σ t = some v) (hu : look σ u = some x) (hs : look σ s = some y) (h : R (.tuple #[v, x, y]) w) : RetAt P n fn R σ w :=
  ⟨⟨_, fun a ha => by rw [results_tmp3 hr, ha.getD ht, ha.getD hu, ha.getD hs], h⟩⟩
end ret

/-! ### Regions in the text's order -/
section ops
variable {P : Program} {n : Nat} {ops : Array Oper} {Q : Post} {rest : List Oper} {σ : St} {w : World}

theorem CW.region {id : Nat} {l : List Oper} (h : WL P n l.toArray Q l σ w) : CW P n (.region id l.toArray false) Q σ w := ⟨fun a ha => wp_region_lit (h.run a ha)⟩
theorem WL.nil (h : Q .normal σ w) : WL P n ops Q [] σ w := ⟨fun a ha => ⟨σ, ha, h⟩⟩
theorem WL.sub {l : List Oper} {τ : St} (hs : Sub τ σ) (h : WL P n ops Q l τ w) : WL P n ops Q l σ w := ⟨fun a ha => h.run a (ha.sub hs)⟩

/-- One operation without a guard, that yields a value. -/
theorem WL.val {o : Oper} {d : Nat} {v : Value} {w' : World} (hg : o.guard = none) (hd : o.dst = some d) (hdn : d < n)
    (h : ∀ a, Rep n a σ → (execOp a.eval o).run P w = .ok (.value v) w') (k : WL P n ops Q rest ((d, v) :: σ) w') : WL P n ops Q (o :: rest) σ w :=
  ⟨fun a ha => wpList_plain hg fun K hK => by
    unfold Oper.wp
    rw [h a ha, Oper.upon_value, hd]
    exact hK _ _ (k.run _ (ha.put hdn v))⟩
theorem WL.skp {o : Oper} {w' : World} (hg : o.guard = none) (hd : o.dst = none)
    (h : ∀ a, Rep n a σ → (execOp a.eval o).run P w = .ok .skip w') (k : WL P n ops Q rest σ w') : WL P n ops Q (o :: rest) σ w :=
  ⟨fun a ha => wpList_plain hg fun K hK => by
    unfold Oper.wp
    rw [h a ha, Oper.upon_skip, hd]
    exact hK _ _ (k.run _ (ha.put_none _))⟩

/-- The operation leaves v, and the world as it is. -/
def Rn (P : Program) (n : Nat) (σ : St) (o : Oper) (w : World) (v : Value) : Prop := ∀ a, Rep n a σ → (execOp a.eval o).run P w = .ok (.value v) w
theorem WL.ofRn {o : Op} {d ty : Nat} {pos : String} {aft : Array Edge} {v : Value} (h : Rn P n σ ⟨some d, o, ty, pos, aft, none⟩ w v) (k : WL P n ops Q rest ((d, v) :: σ) w) (hd : d < n := by decide) : WL P n ops Q (⟨some d, o, ty, pos, aft, none⟩ :: rest) σ w := .val rfl rfl hd h k

variable {ty d t u : Nat} {pos : String} {aft : Array Edge} {x y c : Operand} {v : Value} {gd : Option (Nat × Bool)} {ds : Option Tmp}

theorem Rn.move (hx : ev σ x = some v) : Rn P n σ (⟨some d, .move x, ty, pos, aft, none⟩ : Oper) w (v) := fun a ha => by simp [execOp, ha.ev hx]
theorem WL.move (hx : ev σ x = some v) (k : WL P n ops Q rest ((d, v) :: σ) w) (hd : d < n := by decide) : WL P n ops Q (⟨some d, .move x, ty, pos, aft, none⟩ :: rest) σ w := .ofRn (.move hx) k hd
theorem Rn.assign (hx : ev σ x = some v) : Rn P n σ (⟨some d, .assign x, ty, pos, aft, none⟩ : Oper) w (v) := fun a ha => by simp [execOp, ha.ev hx]
theorem WL.assign (hx : ev σ x = some v) (k : WL P n ops Q rest ((d, v) :: σ) w) (hd : d < n := by decide) : WL P n ops Q (⟨some d, .assign x, ty, pos, aft, none⟩ :: rest) σ w := .ofRn (.assign hx) k hd
theorem Rn.pickT (hc : ev σ c = some (.bool true)) (hx : ev σ x = some v) : Rn P n σ (⟨some d, .pick c x y, ty, pos, aft, none⟩ : Oper) w (v) := fun a ha => by simp [execOp, ha.ev hx, ha.ev hc, asBool]
theorem WL.pickT (hc : ev σ c = some (.bool true)) (hx : ev σ x = some v) (k : WL P n ops Q rest ((d, v) :: σ) w) (hd : d < n := by decide) : WL P n ops Q (⟨some d, .pick c x y, ty, pos, aft, none⟩ :: rest) σ w := .ofRn (.pickT hc hx) k hd
theorem Rn.pickF (hc : ev σ c = some (.bool false)) (hy : ev σ y = some v) : Rn P n σ (⟨some d, .pick c x y, ty, pos, aft, none⟩ : Oper) w (v) := fun a ha => by simp [execOp, ha.ev hy, ha.ev hc, asBool]
theorem WL.pickF (hc : ev σ c = some (.bool false)) (hy : ev σ y = some v) (k : WL P n ops Q rest ((d, v) :: σ) w) (hd : d < n := by decide) : WL P n ops Q (⟨some d, .pick c x y, ty, pos, aft, none⟩ :: rest) σ w := .ofRn (.pickF hc hy) k hd
variable {i j : Int} {kd : IntKind}
theorem Rn.bin {op : BinOp} (hx : ev σ x = some (.int kd i)) (hy : ev σ y = some (.int kd j)) (h : (binOp op t (.int kd i) (.int kd j)).run P w = .ok v w) : Rn P n σ (⟨some d, .binOp op t x y u, ty, pos, aft, none⟩ : Oper) w (v) := fun a ha => by simp [execOp, ha.ev hx, ha.ev hy, eqGuard_at_int, h]
theorem WL.bin {op : BinOp} (hx : ev σ x = some (.int kd i)) (hy : ev σ y = some (.int kd j)) (h : (binOp op t (.int kd i) (.int kd j)).run P w = .ok v w) (k : WL P n ops Q rest ((d, v) :: σ) w) (hd : d < n := by decide) : WL P n ops Q (⟨some d, .binOp op t x y u, ty, pos, aft, none⟩ :: rest) σ w := .ofRn (.bin hx hy h) k hd
theorem Rn.lss (hx : ev σ x = some (.int kd i)) (hy : ev σ y = some (.int kd j)) : Rn P n σ (⟨some d, .binOp .lss t x y u, ty, pos, aft, none⟩ : Oper) w (.bool (decide (i < j))) := .bin hx hy (by simp [binOp_lss])
theorem WL.lss (hx : ev σ x = some (.int kd i)) (hy : ev σ y = some (.int kd j)) (k : WL P n ops Q rest ((d, .bool (decide (i < j))) :: σ) w) (hd : d < n := by decide) : WL P n ops Q (⟨some d, .binOp .lss t x y u, ty, pos, aft, none⟩ :: rest) σ w := .ofRn (.lss hx hy) k hd
theorem Rn.leq (hx : ev σ x = some (.int kd i)) (hy : ev σ y = some (.int kd j)) : Rn P n σ (⟨some d, .binOp .leq t x y u, ty, pos, aft, none⟩ : Oper) w (.bool (decide (i ≤ j))) := .bin hx hy (by simp [binOp_leq])
theorem WL.leq (hx : ev σ x = some (.int kd i)) (hy : ev σ y = some (.int kd j)) (k : WL P n ops Q rest ((d, .bool (decide (i ≤ j))) :: σ) w) (hd : d < n := by decide) : WL P n ops Q (⟨some d, .binOp .leq t x y u, ty, pos, aft, none⟩ :: rest) σ w := .ofRn (.leq hx hy) k hd
theorem Rn.gtr (hx : ev σ x = some (.int kd i)) (hy : ev σ y = some (.int kd j)) : Rn P n σ (⟨some d, .binOp .gtr t x y u, ty, pos, aft, none⟩ : Oper) w (.bool (decide (j < i))) := .bin hx hy (by simp [binOp_gtr])
theorem WL.gtr (hx : ev σ x = some (.int kd i)) (hy : ev σ y = some (.int kd j)) (k : WL P n ops Q rest ((d, .bool (decide (j < i))) :: σ) w) (hd : d < n := by decide) : WL P n ops Q (⟨some d, .binOp .gtr t x y u, ty, pos, aft, none⟩ :: rest) σ w := .ofRn (.gtr hx hy) k hd
theorem Rn.geq (hx : ev σ x = some (.int kd i)) (hy : ev σ y = some (.int kd j)) : Rn P n σ (⟨some d, .binOp .geq t x y u, ty, pos, aft, none⟩ : Oper) w (.bool (decide (j ≤ i))) := .bin hx hy (by simp [binOp_geq])
theorem WL.geq (hx : ev σ x = some (.int kd i)) (hy : ev σ y = some (.int kd j)) (k : WL P n ops Q rest ((d, .bool (decide (j ≤ i))) :: σ) w) (hd : d < n := by decide) : WL P n ops Q (⟨some d, .binOp .geq t x y u, ty, pos, aft, none⟩ :: rest) σ w := .ofRn (.geq hx hy) k hd
theorem Rn.eql (hx : ev σ x = some (.int kd i)) (hy : ev σ y = some (.int kd j)) : Rn P n σ (⟨some d, .binOp .eql t x y u, ty, pos, aft, none⟩ : Oper) w (.bool (decide (i = j))) := .bin hx hy (by rw [binOp_eql]; rfl)
theorem WL.eql (hx : ev σ x = some (.int kd i)) (hy : ev σ y = some (.int kd j)) (k : WL P n ops Q rest ((d, .bool (decide (i = j))) :: σ) w) (hd : d < n := by decide) : WL P n ops Q (⟨some d, .binOp .eql t x y u, ty, pos, aft, none⟩ :: rest) σ w := .ofRn (.eql hx hy) k hd
theorem Rn.neq (hx : ev σ x = some (.int kd i)) (hy : ev σ y = some (.int kd j)) : Rn P n σ (⟨some d, .binOp .neq t x y u, ty, pos, aft, none⟩ : Oper) w (.bool (decide (i ≠ j))) := .bin hx hy (by rw [binOp_neq]; simp [bne]; by_cases h : i = j <;> simp [h])
theorem WL.neq (hx : ev σ x = some (.int kd i)) (hy : ev σ y = some (.int kd j)) (k : WL P n ops Q rest ((d, .bool (decide (i ≠ j))) :: σ) w) (hd : d < n := by decide) : WL P n ops Q (⟨some d, .binOp .neq t x y u, ty, pos, aft, none⟩ :: rest) σ w := .ofRn (.neq hx hy) k hd
/-- An int's range. -/
abbrev I64 (i : Int) : Prop := -9223372036854775808 ≤ i ∧ i ≤ 9223372036854775807
theorem wrapI64 {i : Int} (h : I64 i) : IntKind.i64.wrap i = i := IntWalk.i64_in _ h
theorem Rn.add (hx : ev σ x = some (.int .i64 i)) (hy : ev σ y = some (.int .i64 j)) (hb : I64 (i + j)) : Rn P n σ (⟨some d, .binOp .add t x y u, ty, pos, aft, none⟩ : Oper) w (.int .i64 (i + j)) := .bin hx hy (by simp [binOp_add, Op.intArith, wrapI64 hb])
theorem WL.add (hx : ev σ x = some (.int .i64 i)) (hy : ev σ y = some (.int .i64 j)) (hb : I64 (i + j)) (k : WL P n ops Q rest ((d, .int .i64 (i + j)) :: σ) w) (hd : d < n := by decide) : WL P n ops Q (⟨some d, .binOp .add t x y u, ty, pos, aft, none⟩ :: rest) σ w := .ofRn (.add hx hy hb) k hd
theorem Rn.sub_ (hx : ev σ x = some (.int .i64 i)) (hy : ev σ y = some (.int .i64 j)) (hb : I64 (i - j)) : Rn P n σ (⟨some d, .binOp .sub t x y u, ty, pos, aft, none⟩ : Oper) w (.int .i64 (i - j)) := .bin hx hy (by simp [binOp_sub, Op.intArith, wrapI64 hb])
theorem WL.sub_ (hx : ev σ x = some (.int .i64 i)) (hy : ev σ y = some (.int .i64 j)) (hb : I64 (i - j)) (k : WL P n ops Q rest ((d, .int .i64 (i - j)) :: σ) w) (hd : d < n := by decide) : WL P n ops Q (⟨some d, .binOp .sub t x y u, ty, pos, aft, none⟩ :: rest) σ w := .ofRn (.sub_ hx hy hb) k hd
theorem Rn.mul (hx : ev σ x = some (.int .i64 i)) (hy : ev σ y = some (.int .i64 j)) (hb : I64 (i * j)) : Rn P n σ (⟨some d, .binOp .mul t x y u, ty, pos, aft, none⟩ : Oper) w (.int .i64 (i * j)) := .bin hx hy (by simp [binOp_mul, Op.intArith, wrapI64 hb])
theorem WL.mul (hx : ev σ x = some (.int .i64 i)) (hy : ev σ y = some (.int .i64 j)) (hb : I64 (i * j)) (k : WL P n ops Q rest ((d, .int .i64 (i * j)) :: σ) w) (hd : d < n := by decide) : WL P n ops Q (⟨some d, .binOp .mul t x y u, ty, pos, aft, none⟩ :: rest) σ w := .ofRn (.mul hx hy hb) k hd
theorem Rn.not_ {b : Bool} (hx : ev σ x = some (.bool b)) : Rn P n σ (⟨some d, .unOp .not t x, ty, pos, aft, none⟩ : Oper) w (.bool (!b)) := fun a ha => by simp [execOp, ha.ev hx, Op.unary]
theorem WL.not_ {b : Bool} (hx : ev σ x = some (.bool b)) (k : WL P n ops Q rest ((d, .bool (!b)) :: σ) w) (hd : d < n := by decide) : WL P n ops Q (⟨some d, .unOp .not t x, ty, pos, aft, none⟩ :: rest) σ w := .ofRn (.not_ hx) k hd
theorem Rn.len {A : Option Addr} {m cp : Nat} {e : TypeId} (ht : P.underlying t = some (.slice e)) (hx : ev σ x = some (.slice A m cp)) : Rn P n σ (⟨some d, .call { callee := .builtin .len, args := #[x], argTypes := #[t] }, ty, pos, aft, none⟩ : Oper) w (.int .i64 m) := fun a ha => by simp [execOp, resolve, invoke, builtin, ha.ev hx, Builtin.len_, run_underlying ht, goInt]
theorem WL.len {A : Option Addr} {m cp : Nat} {e : TypeId} (ht : P.underlying t = some (.slice e)) (hx : ev σ x = some (.slice A m cp)) (k : WL P n ops Q rest ((d, .int .i64 m) :: σ) w) (hd : d < n := by decide) : WL P n ops Q (⟨some d, .call { callee := .builtin .len, args := #[x], argTypes := #[t] }, ty, pos, aft, none⟩ :: rest) σ w := .ofRn (.len ht hx) k hd
/-- The values of operands. -/
inductive Evs (σ : St) : List Operand → List Value → Prop
  | nil : Evs σ [] []
  | cons {x : Operand} {v : Value} {l : List Operand} {vs : List Value} : ev σ x = some v → Evs σ l vs → Evs σ (x :: l) (v :: vs)
theorem Evs.map {σ : St} {l : List Operand} {vs : List Value} (h : Evs σ l vs) {a : Act} (ha : Rep n a σ) : l.map a.eval = vs := by
  induction h with
  | nil => rfl
  | cons hx _ ih => simp [ha.ev hx, ih]

/-- A call of a named function with a body. -/
theorem WL.call {f : FuncId} {fn : Func} {args : List Operand} {ats : Array TypeId} {vs : List Value} {R : Value → World → Prop}
    (hf : P.funcs[f]? = some fn) (hn : (fn.name == "runtime.NumGoroutine") = false) (hb : fn.body.isNone = false)
    (hx : Evs σ args vs) (h : Fc P f vs.toArray w R) (k : ∀ v w', R v w' → WL P n ops Q rest ((d, v) :: σ) w') (hd : d < n := by decide) :
    WL P n ops Q (⟨some d, .call { callee := .value (.func f), args := args.toArray, argTypes := ats }, ty, pos, aft, none⟩ :: rest) σ w :=
  ⟨fun a ha => wpList_plain rfl fun K hK => by
    have hcf : (callFunc f vs.toArray).run P w = .ok (.enter f vs.toArray) w := by simp only [callFunc, Sem.run_bind, run_program, Result.andThen_ok, hf, hn, hb, Bool.false_eq_true, if_false, Sem.run_pure]
    have hrun : (execOp a.eval ⟨some d, .call { callee := .value (.func f), args := args.toArray, argTypes := ats }, ty, pos, aft, none⟩).run P w = .ok (.enter f vs.toArray) w := by
      simp [execOp, resolve, Deferred.ofValue, Act.eval, invoke, hx.map ha, hcf]
    unfold Oper.wp
    rw [hrun, Oper.upon_enter]
    refine h.run.mono fun e w' ⟨v, he, hR⟩ => ?_
    subst he
    exact hK _ _ ((k v w' hR).run _ (ha.put hd v))⟩
end ops

/-! ### Worlds -/
abbrev MS := Nat → Prop
/-- From w to w' nothing has turned but blocks of S, and what is new. -/
structure Stp (w w' : World) (S : MS) : Prop where
  os : w'.os = w.os
  tape : w'.tape = w.tape
  output : w'.output = w.output
  size : w.heap.size ≤ w'.heap.size
  keep : ∀ k, k < w.heap.size → ¬ S k → w'.heap[k]? = w.heap[k]?
abbrev Ext (w w' : World) : Prop := Stp w w' (fun _ => False)
/-- The blocks that may be written lie in the heap. -/
def MB (w : World) (M : MS) : Prop := ∀ k, M k → k < w.heap.size
/-- What is read apart from M in w reads the same apart from M' in w'. -/
structure Up (w : World) (M : MS) (w' : World) (M' : MS) : Prop where
  stp : Stp w w' M
  new : ∀ k, M' k → M k ∨ w.heap.size ≤ k
  mb : MB w' M'

section worlds
variable {w0 w w' w'' : World} {M M' M'' S S' : MS}
theorem MB.fresh {g : Nat} (h : MB w M) (hg : w.heap.size ≤ g) : ¬ M g := fun hk => by have := h g hk; omega
theorem Stp.refl (w : World) (S : MS) : Stp w w S := ⟨rfl, rfl, rfl, Nat.le_refl _, fun _ _ _ => rfl⟩
theorem Stp.mono (h : Stp w w' S) (hs : ∀ k, k < w.heap.size → S k → S' k) : Stp w w' S' := ⟨h.os, h.tape, h.output, h.size, fun k hk hn => h.keep k hk fun hS => hn (hs k hk hS)⟩
theorem Stp.trans (h : Stp w w' S) (h' : Stp w' w'' S') (hs : ∀ k, S' k → S k ∨ w.heap.size ≤ k) : Stp w w'' S :=
  ⟨h'.os.trans h.os, h'.tape.trans h.tape, h'.output.trans h.output, Nat.le_trans h.size h'.size, fun k hk hn =>
    (h'.keep k (Nat.lt_of_lt_of_le hk h.size) fun hS => (hs k hS).elim hn (fun hle => by omega)).trans (h.keep k hk hn)⟩
theorem Ext.trans (h : Ext w w') (h' : Ext w' w'') : Ext w w'' := Stp.trans h h' fun _ hk => hk.elim
theorem Ext.stp (h : Ext w0 w) (s : Stp w w' S) (hs : ∀ k, S k → w0.heap.size ≤ k) : Ext w0 w' := Stp.trans h s fun k hk => .inr (hs k hk)
theorem Ext.below (h : Ext w w') : Below w.heap.size w w' := ⟨h.os, h.tape, h.output, h.size, fun k hk => h.keep k hk id⟩
theorem Ext.of_below (h : Below w.heap.size w w') : Ext w w' := ⟨h.os, h.tape, h.output, h.size, fun k hk _ => h.block k hk⟩
theorem Ext.alloc (w : World) (o : Obj) : Ext w (w.alloc o) := ⟨rfl, rfl, rfl, by simp, fun k hk _ => heap_alloc_old w o hk⟩
theorem Ext.drew (w : World) : Ext w w.drew := ⟨rfl, rfl, rfl, Nat.le_refl _, fun _ _ _ => rfl⟩
theorem Stp.of_grown {row : Option Nat} (h : w.grownBy w' row) : Stp w w' (fun k => row = some k) := ⟨h.os, h.tape, h.output, h.size, fun k hk hn => h.block k hk fun e => hn e.symm⟩

theorem MB.none (w : World) : MB w (fun _ => False) := fun _ h => h.elim
theorem MB.stp (h : MB w M) (s : Stp w w' S) : MB w' M := fun k hk => Nat.lt_of_lt_of_le (h k hk) s.size
theorem Up.refl (h : MB w M) : Up w M w M := ⟨Stp.refl w M, fun _ hk => .inl hk, h⟩
theorem Up.trans (h : Up w M w' M') (h' : Up w' M' w'' M'') : Up w M w'' M'' :=
  ⟨Stp.trans h.stp h'.stp h.new, fun k hk => (h'.new k hk).elim (h.new k) (fun hle => .inr (Nat.le_trans h.stp.size hle)), h'.mb⟩
/-- Fewer blocks may be written: what was read apart from more is read apart from these. -/
theorem Up.less (h : Up w M w' M') (hm : ∀ k, M'' k → M' k) : Up w M w' M'' := ⟨h.stp, fun k hk => h.new k (hm k hk), fun k hk => h.mb k (hm k hk)⟩
theorem Up.here (hm : MB w M) (hs : ∀ k, M' k → M k) : Up w M w M' := (Up.refl hm).less hs
theorem Ext.up (h : Ext w w') (hm : MB w M) : Up w M w' M := ⟨Stp.mono h fun _ _ hk => hk.elim, fun _ hk => .inl hk, hm.stp h⟩
/-- A step that writes blocks of M alone. -/
theorem Stp.up (h : Stp w w' S) (hm : MB w M) (hs : ∀ k, k < w.heap.size → S k → M k) : Up w M w' M := ⟨h.mono hs, fun _ hk => .inl hk, hm.stp h⟩

/-- A block that is read: it may not be written. -/
structure Rd (w : World) (M : MS) (k : Nat) : Prop where
  lt : k < w.heap.size
  out : ¬ M k
theorem Rd.up {k : Nat} (h : Rd w M k) (u : Up w M w' M') : Rd w' M' k := ⟨Nat.lt_of_lt_of_le h.lt u.stp.size, fun hk => (u.new k hk).elim h.out (fun hle => by have := h.lt; omega)⟩
theorem Rd.keep {k : Nat} (h : Rd w M k) (u : Up w M w' M') : w'.heap[k]? = w.heap[k]? := u.stp.keep k h.lt h.out
theorem Rd.cell {a : Addr} (h : Rd w M a.block) (u : Up w M w' M') : w'.cell? a = w.cell? a := World.cell?_of_block (h.keep u)
end worlds

theorem Addr.add_add (a : Addr) (m k : Nat) : (a.add m).add k = a.add (m + k) := by
  unfold Addr.add
  by_cases hm : m = 0
  · subst hm
    simp
  · by_cases hk : k = 0
    · subst hk
      simp [hm]
    · simp [hm, hk]
      omega
@[simp] theorem Addr.add_block (a : Addr) (m : Nat) : (a.add m).block = a.block := by unfold Addr.add; split <;> rfl
theorem Addr.add_zero (a : Addr) : a.add 0 = a := rfl

/-- Cells in a row, from an address on, that are read. -/
structure At (w : World) (M : MS) (a : Addr) (cs : List Value) : Prop where
  rd : cs ≠ [] → Rd w M a.block
  cell : ∀ i u, cs[i]? = some u → w.cell? (a.add i) = some u
section at_
variable {w w' : World} {M M' : MS} {a : Addr} {cs : List Value}
theorem At.up (h : At w M a cs) (u : Up w M w' M') : At w' M' a cs :=
  ⟨fun hne => (h.rd hne).up u, fun i v hv => ((Rd.cell (a := a.add i) (by rw [Addr.add_block]; exact h.rd (by intro e; subst e; simp at hv)) u)).trans (h.cell i v hv)⟩
end at_

/-- How an element's cells tell a datum, apart from what may be written. -/
abbrev ER (α : Type) := World → MS → List Value → α → Prop
class Stable {α : Type} (R : ER α) : Prop where
  up : ∀ {w w' : World} {M M' : MS} {cs : List Value} {x : α}, R w M cs x → Up w M w' M' → R w' M' cs x
  one : ∀ {w : World} {M : MS} {cs : List Value} {x : α}, R w M cs x → ∀ u ∈ cs, u.oneCell' = true

/-- A slice's parts, that tell a list. -/
structure SlD {α : Type} (R : ER α) (sz : Nat) (w : World) (M : MS) (A : Option Addr) (c : Nat) (xs : List α) : Prop where
  cap : xs.length ≤ c
  lim : xs.length ≤ 9223372036854775807
  nil : A = none → c = 0
  el : ∀ j x, xs[j]? = some x → ∃ ad cs, A = some ad ∧ cs.length = sz ∧ At w M (ad.add (j * sz)) cs ∧ R w M cs x
/-- A slice that tells a list. -/
def Sl {α : Type} (R : ER α) (sz : Nat) (w : World) (M : MS) (v : Value) (xs : List α) : Prop := ∃ A c, v = .slice A xs.length c ∧ SlD R sz w M A c xs

section sl
variable {α : Type} {R : ER α} {sz : Nat} {w w' : World} {M M' : MS} {A : Option Addr} {c : Nat} {xs : List α} {v : Value}
theorem SlD.up [Stable R] (h : SlD R sz w M A c xs) (u : Up w M w' M') : SlD R sz w' M' A c xs :=
  ⟨h.cap, h.lim, h.nil, fun j x hx => let ⟨ad, cs, h1, h2, h3, h4⟩ := h.el j x hx; ⟨ad, cs, h1, h2, h3.up u, Stable.up h4 u⟩⟩
theorem Sl.up [Stable R] (h : Sl R sz w M v xs) (u : Up w M w' M') : Sl R sz w' M' v xs := let ⟨A, c, hv, hd⟩ := h; ⟨A, c, hv, hd.up u⟩
theorem SlD.sl (h : SlD R sz w M A c xs) : Sl R sz w M (.slice A xs.length c) xs := ⟨A, c, rfl, h⟩
theorem SlD.empty (hA : A = none → c = 0) : SlD R sz w M A c [] := ⟨Nat.zero_le _, by simp, hA, fun j x hx => by simp at hx⟩
theorem Sl.nil : Sl R sz w M (.slice none 0 0) ([] : List α) := ⟨none, 0, rfl, SlD.empty fun _ => rfl⟩
theorem Sl.cells (h : Sl R sz w M v xs) : v.cells = #[v] := by obtain ⟨A, c, rfl, _⟩ := h; rfl
theorem Sl.len (h : Sl R sz w M v xs) : xs.length ≤ 9223372036854775807 := let ⟨_, _, _, hd⟩ := h; hd.lim
/-- A piece: xs[lo:hi], hi within the length. -/
theorem SlD.slice (h : SlD R sz w M A c xs) {lo hi : Nat} (h1 : lo ≤ hi) (h2 : hi ≤ xs.length) :
    SlD R sz w M (if c = lo then A else A.map (·.add (lo * sz))) (c - lo) ((xs.drop lo).take (hi - lo)) := by
  have hc := h.cap
  have hl := h.lim
  have hlen : ((xs.drop lo).take (hi - lo)).length = hi - lo := by simp; omega
  refine ⟨by omega, by omega, ?_, ?_⟩
  · intro hA
    split at hA
    · omega
    · cases hA' : A with
      | none => have := h.nil hA'; omega
      | some ad => rw [hA'] at hA; simp at hA
  · intro j x hx
    have hj : j < hi - lo := by have := (List.getElem?_eq_some_iff.1 hx).1; omega
    have hx' : xs[lo + j]? = some x := by rw [List.getElem?_take, if_pos hj, List.getElem?_drop] at hx; exact hx
    obtain ⟨ad, cs, hA, hcs, hat, hR⟩ := h.el _ _ hx'
    refine ⟨ad.add (lo * sz), cs, ?_, hcs, ?_, hR⟩
    · rw [if_neg (by omega), hA]
      rfl
    · rw [Addr.add_add, ← Nat.add_mul]
      exact hat
end sl

/-! ### Elements of one cell -/
def IntR : ER Int := fun _ _ cs x => cs = [.int .i64 x] ∧ I64 x
def ByteR : ER Int := fun _ _ cs x => cs = [.int .u8 x] ∧ 0 ≤ x ∧ x ≤ 255
def BoolR : ER Bool := fun _ _ cs x => cs = [.bool x]
instance : Stable IntR := ⟨fun h _ => h, fun h u hu => by rw [h.1] at hu; simp at hu; subst hu; rfl⟩
instance : Stable ByteR := ⟨fun h _ => h, fun h u hu => by rw [h.1] at hu; simp at hu; subst hu; rfl⟩
instance : Stable BoolR := ⟨fun h _ => h, fun h u hu => by rw [h] at hu; simp at hu; subst hu; rfl⟩
abbrev Ints := Sl IntR 1
abbrev Bytes := Sl ByteR 1

/-! ### A slice of the call's own, that may be appended to -/
/-- The slice v is the call's own: its block, from B on, may be written; it tells xs. -/
def Own {α : Type} (R : ER α) (sz : Nat) (e : TypeId) (w : World) (M : MS) (B : Nat) (v : Value) (xs : List α) : Prop :=
  ∃ css : List (List Value), css.length = xs.length ∧ (∀ cs ∈ css, cs.length = sz) ∧ (∀ (j : Nat) x cs, xs[j]? = some x → css[j]? = some cs → R w M cs x) ∧
    w.ownsRow B e sz v xs.length css.flatten ∧ xs.length ≤ 140737488355328 ∧ ∀ k, v.ownBlock = some k → M k

theorem flatten_get {sz : Nat} : ∀ {css : List (List Value)} (_ : ∀ cs ∈ css, cs.length = sz) {j i : Nat} {cs : List Value} {u : Value}, css[j]? = some cs → cs[i]? = some u → css.flatten[j * sz + i]? = some u
  | [], _, j, i, cs, u, hj, _ => by simp at hj
  | c :: r, hl, 0, i, cs, u, hj, hi => by
    have : c = cs := by simpa using hj
    subst this
    have hlt := (List.getElem?_eq_some_iff.1 hi).1
    simp only [List.flatten_cons, Nat.zero_mul, Nat.zero_add]
    rw [List.getElem?_append_left hlt]
    exact hi
  | c :: r, hl, j + 1, i, cs, u, hj, hi => by
    have hc : c.length = sz := hl c (by simp)
    have ih := flatten_get (sz := sz) (css := r) (fun x hx => hl x (by simp [hx])) (j := j) (i := i) (cs := cs) (u := u) (by simpa using hj) hi
    simp only [List.flatten_cons]
    rw [List.getElem?_append_right (by rw [hc, Nat.add_mul]; omega), hc, Nat.add_mul]
    rw [show j * sz + 1 * sz + i - sz = j * sz + i by omega]
    exact ih

section own
variable {α : Type} {R : ER α} {sz e B : Nat} {w w' : World} {M M' : MS} {xs : List α} {v : Value}
theorem Own.nil : Own R sz e w M B (.slice none 0 0) ([] : List α) :=
  ⟨[], rfl, by simp, by simp, World.ownsRow_nil w B e sz, by simp, fun k hk => by simp [Value.ownBlock] at hk⟩
theorem Own.len (h : Own R sz e w M B v xs) : xs.length ≤ 140737488355328 := let ⟨_, _, _, _, _, hl, _⟩ := h; hl
theorem Own.base (h : Own R sz e w M B v xs) : ∀ k, v.ownBlock = some k → B ≤ k ∧ k < w.heap.size := let ⟨_, _, _, _, ho, _, _⟩ := h; ho.lt
theorem Own.mem (h : Own R sz e w M B v xs) : ∀ k, v.ownBlock = some k → M k := let ⟨_, _, _, _, _, _, hm⟩ := h; hm
theorem Own.form (h : Own R sz e w M B v xs) : ∃ A c, v = .slice A xs.length c := by
  obtain ⟨css, _, _, _, ho, _, _⟩ := h
  rcases ho.2 with ⟨rfl, hn⟩ | ⟨g, cap, cur, rfl, _⟩
  · exact ⟨none, 0, by rw [hn]⟩
  · exact ⟨_, _, rfl⟩
theorem Own.cells (h : Own R sz e w M B v xs) : v.cells = #[v] := by obtain ⟨A, c, rfl⟩ := h.form; rfl
/-- What the world's step does not write lives on. -/
theorem Own.step [Stable R] {S : MS} (h : Own R sz e w M B v xs) (s : Stp w w' S) (hne : ∀ k, v.ownBlock = some k → ¬ S k) (u : Up w M w' M') (hm : ∀ k, v.ownBlock = some k → M' k) : Own R sz e w' M' B v xs := by
  obtain ⟨css, h1, h2, h3, ho, hl, _⟩ := h
  refine ⟨css, h1, h2, fun j x cs hx hc => Stable.up (h3 j x cs hx hc) u, ?_, hl, hm⟩
  refine ⟨ho.1, ?_⟩
  rcases ho.2 with hn | ⟨g, cap, cur, rfl, hb, hg, r⟩
  · exact .inl hn
  · exact .inr ⟨g, cap, cur, rfl, hb, (s.keep g (Array.getElem?_eq_some_iff.1 hg).1 (hne g rfl)).trans hg, r⟩
theorem Own.ext [Stable R] (h : Own R sz e w M B v xs) (s : Ext w w') (u : Up w M w' M') (hm : ∀ k, M k → M' k) : Own R sz e w' M' B v xs :=
  h.step s (fun _ _ hk => hk) u fun k hk => hm k (h.mem k hk)
/-- Nothing will be appended any more: it is read, apart from what is to be written still. -/
theorem Own.read [Stable R] (h : Own R sz e w M B v xs) (hm : MB w M) (hs : ∀ k, M' k → M k) (hne : ∀ k, v.ownBlock = some k → ¬ M' k) : Sl R sz w M' v xs := by
  have u := Up.here hm hs
  obtain ⟨css, h1, h2, h3, ho, hl, _⟩ := h
  rcases ho.2 with ⟨rfl, hn⟩ | ⟨g, cap, cur, rfl, hb, hg, hnc, hcm, hcs, htk⟩
  · have : xs = [] := List.eq_nil_of_length_eq_zero hn
    subst this
    exact Sl.nil
  · refine ⟨some ⟨g, 0, none⟩, cap, rfl, hnc, Nat.le_trans hl (Nat.le_of_ble_eq_true rfl), fun h => by simp at h, fun j x hx => ?_⟩
    have hj := (List.getElem?_eq_some_iff.1 hx).1
    obtain ⟨cs, hcs'⟩ : ∃ cs, css[j]? = some cs := ⟨css[j]'(by omega), List.getElem?_eq_getElem (by omega)⟩
    refine ⟨⟨g, 0, none⟩, cs, rfl, h2 cs (List.mem_of_getElem? hcs'), ⟨fun _ => ⟨by rw [Addr.add_block]; exact (Array.getElem?_eq_some_iff.1 hg).1, by rw [Addr.add_block]; exact hne g rfl⟩, fun i v hv => ?_⟩, Stable.up (h3 j x cs hx hcs') u⟩
    rw [Addr.add_add]
    exact ho.cells (g := g) rfl _ _ (flatten_get h2 hcs' hv)
theorem Own.apart {β : Type} {R' : ER β} {sz' e' B' : Nat} {v' : Value} {ys : List β} (h : Own R sz e w M B v xs) (h' : Own R' sz' e' w M' B' v' ys) (hne : e ≠ e') : ∀ k, v.ownBlock = some k → ¬ v'.ownBlock = some k := by
  intro k hk hk'
  obtain ⟨_, _, _, _, ho, _, _⟩ := h
  obtain ⟨_, _, _, _, ho', _, _⟩ := h'
  rcases ho.2 with ⟨rfl, _⟩ | ⟨g, cap, cur, rfl, _, hg, _⟩
  · simp [Value.ownBlock] at hk
  · rcases ho'.2 with ⟨rfl, _⟩ | ⟨g', cap', cur', rfl, _, hg', _⟩
    · simp [Value.ownBlock] at hk'
    · simp only [Value.ownBlock, Option.some.injEq] at hk hk'
      subst hk
      subst hk'
      rw [hg] at hg'
      injection hg' with hg'
      injection hg' with _ ht
      exact hne ht
theorem Own.read0 [Stable R] {M0 : MS} {w0 : World} (h : Own R sz e w M w0.heap.size v xs) (hm : MB w M) (hs : ∀ k, M0 k → M k) (h0 : MB w0 M0) : Sl R sz w M0 v xs :=
  h.read hm hs fun k hk hM => by have := h0 k hM; have := h.base k hk; omega
end own

/-! ### Operations on memory -/
def fieldOff (P : Program) (s : TypeId) (i : Nat) : Option Nat :=
  match P.underlying s with
  | some (.struct fs) => match fs[i]? with
    | some f => match P.info? f.type with
      | some inf => bif Nat.beq inf.size 0 then none else some f.offset
      | none => none
    | none => none
  | _ => none
def elemSize (P : Program) (t : TypeId) : Option Nat :=
  match P.underlying t with
  | some (.slice e) => (P.info? e).map (·.size)
  | _ => none
def aggSize (P : Program) (t : TypeId) : Option Nat :=
  match P.underlying t with
  | some (.struct _) | some (.array _ _) => (P.info? t).map (·.size)
  | _ => none
def scalar (P : Program) (t : TypeId) : Bool :=
  match P.underlying t with
  | some (.struct _) | some (.array _ _) => false
  | some _ => true
  | none => false
/-- A type's zero value, its cells, its bytes. -/
def tinfo (P : Program) (t : TypeId) : Option (Option Value × Nat × Nat) := (P.info? t).map fun i => (i.zero, i.size, i.bytes)

/-- A block of cells. -/
def Bk (w : World) (g : Nat) (e : TypeId) (cs : List Value) : Prop := w.heap[g]? = some (.cells cs.toArray e (0, 0))

theorem oneCell_cells {u : Value} (h : u.oneCell' = true) : u.cells = #[u] := by cases u <;> simp_all [Value.oneCell', Value.cells]
theorem Sl.one {α : Type} {R : ER α} {sz : Nat} {w : World} {M : MS} {v : Value} {xs : List α} (h : Sl R sz w M v xs) : v.oneCell' = true := by obtain ⟨A, c, rfl, _⟩ := h; rfl
theorem Own.one {α : Type} {R : ER α} {sz e B : Nat} {w : World} {M : MS} {v : Value} {xs : List α} (h : Own R sz e w M B v xs) : v.oneCell' = true := by obtain ⟨A, c, rfl⟩ := h.form; rfl

section blk
variable {w w' : World} {M M' S : MS} {g e : Nat} {cs : List Value}
theorem Bk.lt (h : Bk w g e cs) : g < w.heap.size := (Array.getElem?_eq_some_iff.1 h).1
theorem Bk.cell (h : Bk w g e cs) {j : Nat} {u : Value} (hj : cs[j]? = some u) : w.cell? ⟨g, j, none⟩ = some u := by
  rw [cell_of_row w g j _ e (0, 0) h]
  simpa using hj
theorem Bk.stp (h : Bk w g e cs) (s : Stp w w' S) (hn : ¬ S g) : Bk w' g e cs := (s.keep g h.lt hn).trans h
theorem Bk.ext (h : Bk w g e cs) (s : Ext w w') : Bk w' g e cs := h.stp s id
theorem Bk.up (h : Bk w g e cs) (u : Up w M w' M') (hn : ¬ M g) : Bk w' g e cs := h.stp u.stp hn
theorem Bk.at_ (h : Bk w g e cs) (hn : ¬ M g) : At w M ⟨g, 0, none⟩ cs := ⟨fun _ => ⟨h.lt, hn⟩, fun i u hu => by rw [Addr.add_lit]; simpa using h.cell (j := i) hu⟩
theorem Bk.alloc (w : World) (cs : List Value) (e : TypeId) : Bk (w.alloc (.cells cs.toArray e)) w.heap.size e cs := heap_alloc_new w _
theorem Bk.setRow (h : Bk w g e cs) (ds : List Value) : Bk (w.setRow g ds.toArray) g e ds ∧ Stp w (w.setRow g ds.toArray) (fun k => k = g) :=
  ⟨setRow_heap w g _ _ e _ h, rfl, rfl, rfl, by simp [World.setRow], fun k _ hk => setRow_other w g k _ hk⟩
end blk

section mem
variable {P : Program} {n : Nat} {ops : Array Oper} {Q : Post} {rest : List Oper} {σ : St} {w : World}
variable {ty d t u : Nat} {pos : String} {aft : Array Edge} {x y c : Operand} {v : Value}

theorem Rn.nilCheck {a : Addr} (hx : ev σ x = some (.pointer (some a))) : Rn P n σ (⟨some d, .nilCheck x, ty, pos, aft, none⟩ : Oper) w (.pointer (some a)) := fun a ha => by simp [execOp, ha.ev hx]
theorem WL.nilCheck {a : Addr} (hx : ev σ x = some (.pointer (some a))) (k : WL P n ops Q rest ((d, .pointer (some a)) :: σ) w) (hd : d < n := by decide) : WL P n ops Q (⟨some d, .nilCheck x, ty, pos, aft, none⟩ :: rest) σ w := .ofRn (.nilCheck hx) k hd
theorem Rn.extract {vs : Array Value} {i : Nat} (hx : ev σ x = some (.tuple vs)) (hi : vs[i]? = some v) : Rn P n σ (⟨some d, .extract x i, ty, pos, aft, none⟩ : Oper) w (v) := fun a ha => by simp [execOp, ha.ev hx, Instr.extract, hi]
theorem WL.extract {vs : Array Value} {i : Nat} (hx : ev σ x = some (.tuple vs)) (hi : vs[i]? = some v) (k : WL P n ops Q rest ((d, v) :: σ) w) (hd : d < n := by decide) : WL P n ops Q (⟨some d, .extract x i, ty, pos, aft, none⟩ :: rest) σ w := .ofRn (.extract hx hi) k hd
theorem Rn.fieldAddr {s i off : Nat} {a : Addr} (hf : fieldOff P s i = some off) (hx : ev σ x = some (.pointer (some a))) : Rn P n σ (⟨some d, .fieldAddr s x i, ty, pos, aft, none⟩ : Oper) w (.pointer (some (a.add off))) := by
  intro b ha
  unfold fieldOff at hf
  cases hu : P.underlying s with
  | none => simp [hu] at hf
  | some ds =>
    cases ds <;> simp only [hu] at hf <;> try (cases hf; done)
    case struct fs =>
      cases hfi : fs[i]? with
      | none => simp [hfi] at hf
      | some f =>
        cases hinf : P.info? f.type with
        | none => simp [hfi, hinf] at hf
        | some inf =>
          simp only [hfi, hinf] at hf
          cases hz : Nat.beq inf.size 0 with
          | true => simp [hz] at hf
          | false =>
            simp only [hz, cond_false, Option.some.injEq] at hf
            have hne : inf.size ≠ 0 := fun e => by rw [e] at hz; simp at hz
            simp [execOp, ha.ev hx, Instr.fieldAt, run_underlying hu, hfi, Instr.sureAddr, fieldPlace, sizeOf, typeInfo, hinf, hne, hf]
theorem WL.fieldAddr {s i off : Nat} {a : Addr} (hf : fieldOff P s i = some off) (hx : ev σ x = some (.pointer (some a))) (k : WL P n ops Q rest ((d, .pointer (some (a.add off))) :: σ) w) (hd : d < n := by decide) : WL P n ops Q (⟨some d, .fieldAddr s x i, ty, pos, aft, none⟩ :: rest) σ w := .ofRn (.fieldAddr hf hx) k hd
theorem Rn.indexAddr {A : Addr} {m cp sz : Nat} {kd : IntKind} {i : Int} (hs : elemSize P t = some sz) (hx : ev σ x = some (.slice (some A) m cp)) (hy : ev σ y = some (.int kd i)) (h0 : 0 ≤ i) (h1 : i < m)
    : Rn P n σ (⟨some d, .indexAddr t x y, ty, pos, aft, none⟩ : Oper) w (.pointer (some (A.add (i.toNat * sz)))) := by
  intro b ha
  unfold elemSize at hs
  cases hu : P.underlying t with
  | none => simp [hu] at hs
  | some ds =>
    cases ds <;> simp only [hu] at hs <;> try (cases hs; done)
    case slice e =>
      cases hinf : P.info? e with
      | none => simp [hinf] at hs
      | some inf =>
        simp only [hinf, Option.map_some, Option.some.injEq] at hs
        subst hs
        simp [execOp, ha.ev hx, ha.ev hy, Instr.indexAt, run_underlying hu, asIntOf, h0, h1, sizeOf, typeInfo, hinf]
theorem WL.indexAddr {A : Addr} {m cp sz : Nat} {kd : IntKind} {i : Int} (hs : elemSize P t = some sz) (hx : ev σ x = some (.slice (some A) m cp)) (hy : ev σ y = some (.int kd i)) (h0 : 0 ≤ i) (h1 : i < m)
    (k : WL P n ops Q rest ((d, .pointer (some (A.add (i.toNat * sz)))) :: σ) w) (hd : d < n := by decide) : WL P n ops Q (⟨some d, .indexAddr t x y, ty, pos, aft, none⟩ :: rest) σ w := .ofRn (.indexAddr hs hx hy h0 h1) k hd
theorem Rn.idx {A : Option Addr} {ad : Addr} {m cp sz : Nat} {kd : IntKind} {i : Int} (hs : elemSize P t = some sz) (hx : ev σ x = some (.slice A m cp)) (hy : ev σ y = some (.int kd i)) (hA : A = some ad) (h0 : 0 ≤ i) (h1 : i < m) : Rn P n σ (⟨some d, .indexAddr t x y, ty, pos, aft, none⟩ : Oper) w (.pointer (some (ad.add (i.toNat * sz)))) := by
  subst hA
  exact Rn.indexAddr hs hx hy h0 h1
theorem WL.idx {A : Option Addr} {ad : Addr} {m cp sz : Nat} {kd : IntKind} {i : Int} (hs : elemSize P t = some sz) (hx : ev σ x = some (.slice A m cp)) (hy : ev σ y = some (.int kd i)) (hA : A = some ad) (h0 : 0 ≤ i) (h1 : i < m) (k : WL P n ops Q rest ((d, .pointer (some (ad.add (i.toNat * sz)))) :: σ) w) (hd : d < n := by decide) : WL P n ops Q (⟨some d, .indexAddr t x y, ty, pos, aft, none⟩ :: rest) σ w := .ofRn (.idx hs hx hy hA h0 h1) k hd
theorem Rn.load {a : Addr} (hs : scalar P t = true) (hx : ev σ x = some (.pointer (some a))) (hc : w.cell? a = some v) : Rn P n σ (⟨some d, .load t x, ty, pos, aft, none⟩ : Oper) w (v) := by
  intro b ha
  unfold scalar at hs
  cases hu : P.underlying t with
  | none => simp [hu] at hs
  | some ds =>
    cases ds <;> simp [hu] at hs <;> simp [execOp, ha.ev hx, Instr.loadAt, Instr.sureAddr, loadVar, isAgg, run_underlying hu, hc]
theorem WL.load {a : Addr} (hs : scalar P t = true) (hx : ev σ x = some (.pointer (some a))) (hc : w.cell? a = some v) (k : WL P n ops Q rest ((d, v) :: σ) w) (hd : d < n := by decide) : WL P n ops Q (⟨some d, .load t x, ty, pos, aft, none⟩ :: rest) σ w := .ofRn (.load hs hx hc) k hd
theorem Rn.loadAgg {M : MS} {a : Addr} {cs : List Value} (hs : aggSize P t = some cs.length) (hx : ev σ x = some (.pointer (some a))) (hc : At w M a cs) : Rn P n σ (⟨some d, .load t x, ty, pos, aft, none⟩ : Oper) w (.agg cs.toArray) := by
  intro b ha
  have hl := run_loadCells_list (P := P) w a cs hc.cell
  unfold aggSize at hs
  cases hu : P.underlying t with
  | none => simp [hu] at hs
  | some ds =>
    cases ds <;> simp only [hu] at hs <;> try (cases hs; done)
    all_goals
      cases hinf : P.info? t with
      | none => simp [hinf] at hs
      | some inf =>
        simp only [hinf, Option.map_some, Option.some.injEq] at hs
        simp [execOp, ha.ev hx, Instr.loadAt, Instr.sureAddr, loadVar, isAgg, run_underlying hu, sizeOf, typeInfo, hinf, hs, hl]
theorem WL.loadAgg {M : MS} {a : Addr} {cs : List Value} (hs : aggSize P t = some cs.length) (hx : ev σ x = some (.pointer (some a))) (hc : At w M a cs) (k : WL P n ops Q rest ((d, .agg cs.toArray) :: σ) w) (hd : d < n := by decide) : WL P n ops Q (⟨some d, .load t x, ty, pos, aft, none⟩ :: rest) σ w := .ofRn (.loadAgg hs hx hc) k hd
/-- A store of one cell into a block of ours. -/
theorem WL.store {g o e : Nat} {cs : List Value} (hs : (tinfo P t).map (·.2.1) = some 1) (hx : ev σ x = some (.pointer (some ⟨g, o, none⟩))) (hy : ev σ y = some v) (h1 : v.oneCell' = true)
    (hb : Bk w g e cs) (ho : o < cs.length) (k : ∀ w', Bk w' g e (cs.set o v) → Stp w w' (fun k => k = g) → WL P n ops Q rest σ w') :
    WL P n ops Q (⟨none, .store t x y, ty, pos, aft, none⟩ :: rest) σ w := by
  have hst := run_storeCells_at P g o e [v] 0 cs.toArray w hb (by simp; omega) (by simpa using h1)
  have hset : cs.take o ++ [v] ++ cs.drop (o + 1) = cs.set o v := by rw [List.set_eq_take_append_cons_drop, if_pos ho]; simp
  obtain ⟨hb', hs'⟩ := hb.setRow (cs.set o v)
  refine .skp (w' := w.setRow g (cs.set o v).toArray) rfl rfl (fun b ha => ?_) (k _ hb' hs')
  cases hinf : P.info? t with
  | none => simp [tinfo, hinf] at hs
  | some inf =>
    have hsz : inf.size = 1 := by simpa [tinfo, hinf] using hs
    simp only [Nat.add_zero, List.length_cons, List.length_nil, Nat.zero_add, hset] at hst
    simp [execOp, ha.ev hx, ha.ev hy, Instr.storeAt, Instr.sureAddr, storeVar, oneCell_cells h1, sizeOf, typeInfo, hinf, hsz, hst]
/-- A store of a struct or an array over a whole block of ours. -/
theorem WL.storeAll {g e : Nat} {cs vs : List Value} (hs : (tinfo P t).map (·.2.1) = some vs.length) (hx : ev σ x = some (.pointer (some ⟨g, 0, none⟩))) (hy : ev σ y = some (.agg vs.toArray)) (h1 : ∀ v ∈ vs, v.oneCell' = true)
    (hb : Bk w g e cs) (ho : vs.length = cs.length) (k : ∀ w', Bk w' g e vs → Stp w w' (fun k => k = g) → WL P n ops Q rest σ w') :
    WL P n ops Q (⟨none, .store t x y, ty, pos, aft, none⟩ :: rest) σ w := by
  have hst := run_storeCells_at P g 0 e vs 0 cs.toArray w hb (by simp; omega) h1
  have hset : cs.take 0 ++ vs ++ cs.drop (0 + vs.length) = vs := by simp [ho]
  obtain ⟨hb', hs'⟩ := hb.setRow vs
  refine .skp (w' := w.setRow g vs.toArray) rfl rfl (fun b ha => ?_) (k _ hb' hs')
  cases hinf : P.info? t with
  | none => simp [tinfo, hinf] at hs
  | some inf =>
    have hsz : vs.length = inf.size := by simpa [tinfo, hinf, eq_comm] using hs
    simp only [Nat.add_zero, hset] at hst
    simp [execOp, ha.ev hx, ha.ev hy, Instr.storeAt, Instr.sureAddr, storeVar, Value.cells, sizeOf, typeInfo, hinf, hsz, hst]
/-- A new variable. -/
theorem WL.alloc {cs : List Value} {z : Value} {sz by_ : Nat} (hz : tinfo P t = some (some z, sz, by_)) (hc : z.cells = cs.toArray)
    (k : ∀ g w', w.heap.size ≤ g → Bk w' g t cs → Ext w w' → WL P n ops Q rest ((d, .pointer (some ⟨g, 0, none⟩)) :: σ) w') (hd : d < n := by decide) :
    WL P n ops Q (⟨some d, .alloc t, ty, pos, aft, none⟩ :: rest) σ w := by
  refine .val rfl rfl hd (w' := w.alloc (.cells cs.toArray t)) (fun b ha => ?_) (k _ _ (Nat.le_refl _) (Bk.alloc w cs t) (Ext.alloc w _))
  cases hinf : P.info? t with
  | none => simp [tinfo, hinf] at hz
  | some inf =>
    have hzz : inf.zero = some z := by simp [tinfo, hinf] at hz; exact hz.1
    simp [execOp, Instr.alloc, zeroValue, typeInfo, hinf, hzz, newVar, newRow, hc]
/-- A new variable, and what is laid into it at once. -/
theorem WL.allocStore {cs : List Value} {z : Value} {sz by_ : Nat} {ty2 : Nat} {pos2 : String} {aft2 : Array Edge} (hz : tinfo P t = some (some z, sz, by_)) (hl : z.cells.size = sz)
    (hy : ev σ y = some v) (hyd : y ≠ .tmp d) (hv : v.cells = cs.toArray) (h1 : ∀ v ∈ cs, v.oneCell' = true) (hn : cs.length = sz)
    (k : ∀ g w', w.heap.size ≤ g → Bk w' g t cs → Ext w w' → WL P n ops Q rest ((d, .pointer (some ⟨g, 0, none⟩)) :: σ) w') (hd : d < n := by decide) :
    WL P n ops Q (⟨some d, .alloc t, ty, pos, aft, none⟩ :: ⟨none, .store t (.tmp d) y, ty2, pos2, aft2, none⟩ :: rest) σ w := by
  refine WL.alloc (cs := z.cells.toList) hz (by simp) (fun g w1 hg hb he => ?_) hd
  have hst := run_storeCells_at P g 0 t cs 0 z.cells.toList.toArray w1 hb (by simp; omega) h1
  have hset : z.cells.toList.take 0 ++ cs ++ z.cells.toList.drop (0 + cs.length) = cs := by
    have : z.cells.toList.drop (0 + cs.length) = [] := List.drop_eq_nil_of_le (by simp; omega)
    rw [this]; simp
  obtain ⟨hb', hs'⟩ := hb.setRow cs
  refine .skp (w' := w1.setRow g cs.toArray) rfl rfl (fun b ha => ?_) (k g _ hg hb' (he.stp hs' fun k hk => by rw [hk]; exact hg))
  have hx2 : b.eval (.tmp d) = .pointer (some ⟨g, 0, none⟩) := ha.ev (look_self _ _ _)
  have hy2 : b.eval y = v := ha.ev (by
    cases y with
    | tmp s => exact (look_ne (fun e => hyd (by rw [e])) _ _).trans hy
    | const c => exact hy
    | global g => exact hy
    | func f => exact hy)
  cases hinf : P.info? t with
  | none => simp [tinfo, hinf] at hz
  | some inf =>
    have hzz : inf.size = sz := by simp [tinfo, hinf] at hz; exact hz.2.1
    simp only [Nat.add_zero, hset] at hst
    simp [execOp, hx2, hy2, Instr.storeAt, Instr.sureAddr, storeVar, hv, sizeOf, typeInfo, hinf, hzz, hn, hst]
end mem

/-! ### append -/
theorem flatten_inv {sz : Nat} (hsz : 0 < sz) : ∀ {css : List (List Value)} (_ : ∀ cs ∈ css, cs.length = sz) {k : Nat} {u : Value}, css.flatten[k]? = some u → ∃ j i cs, css[j]? = some cs ∧ cs[i]? = some u ∧ k = j * sz + i
  | [], _, k, u, h => by simp at h
  | c :: r, hl, k, u, h => by
    have hc : c.length = sz := hl c (by simp)
    simp only [List.flatten_cons] at h
    by_cases hk : k < sz
    · rw [List.getElem?_append_left (by omega)] at h
      exact ⟨0, k, c, rfl, h, by simp⟩
    · rw [List.getElem?_append_right (by omega), hc] at h
      obtain ⟨j, i, cs, h1, h2, h3⟩ := flatten_inv hsz (fun x hx => hl x (by simp [hx])) h
      exact ⟨j + 1, i, cs, by simpa using h1, h2, by rw [Nat.add_mul]; omega⟩
theorem list_of {β : Type} (p : Nat → β → Prop) : ∀ n, (∀ j, j < n → ∃ c, p j c) → ∃ l : List β, l.length = n ∧ ∀ j c, l[j]? = some c → p j c
  | 0, _ => ⟨[], rfl, by simp⟩
  | n + 1, h => by
    obtain ⟨l, h1, h2⟩ := list_of p n (fun j hj => h j (by omega))
    obtain ⟨c, hc⟩ := h n (by omega)
    refine ⟨l ++ [c], by simp [h1], fun j x hx => ?_⟩
    by_cases hj : j < n
    · rw [List.getElem?_append_left (by omega)] at hx
      exact h2 j x hx
    · rw [List.getElem?_append_right (by omega)] at hx
      have : j - l.length = 0 := by
        have := (List.getElem?_eq_some_iff.1 hx).1
        simp at this
        omega
      rw [this] at hx
      simp at hx
      subst hx
      rwa [show j = n by omega]
/-- A slice's cells, all of them. -/
theorem SlD.rows {α : Type} {R : ER α} {sz : Nat} {w : World} {M : MS} {A : Option Addr} {c : Nat} {xs : List α} (h : SlD R sz w M A c xs) :
    ∃ css : List (List Value), css.length = xs.length ∧ (∀ cs ∈ css, cs.length = sz) ∧ (∀ (j : Nat) x cs, xs[j]? = some x → css[j]? = some cs → R w M cs x) ∧
      (xs ≠ [] → ∃ ad, A = some ad ∧ ∀ j cs, css[j]? = some cs → At w M (ad.add (j * sz)) cs) := by
  obtain ⟨css, h1, h2⟩ := list_of (fun j cs => ∃ x ad, xs[j]? = some x ∧ A = some ad ∧ cs.length = sz ∧ At w M (ad.add (j * sz)) cs ∧ R w M cs x) xs.length (fun j hj => by
    obtain ⟨ad, cs, e1, e2, e3, e4⟩ := h.el j xs[j] (List.getElem?_eq_getElem hj)
    exact ⟨cs, xs[j], ad, List.getElem?_eq_getElem hj, e1, e2, e3, e4⟩)
  refine ⟨css, h1, fun cs hcs => ?_, fun j x cs hx hc => ?_, fun hne => ?_⟩
  · obtain ⟨j, hj⟩ := List.mem_iff_getElem?.1 hcs
    obtain ⟨x, ad, _, _, e, _⟩ := h2 j cs hj
    exact e
  · obtain ⟨x', ad, e0, _, _, _, e⟩ := h2 j cs hc
    rw [hx] at e0
    cases e0
    exact e
  · cases xs with
    | nil => exact absurd rfl hne
    | cons x r =>
      obtain ⟨ad, cs, e1, _⟩ := h.el 0 x rfl
      refine ⟨ad, e1, fun j cs hj => ?_⟩
      obtain ⟨x', ad', _, e2, _, e3, _⟩ := h2 j cs hj
      rw [e1] at e2
      cases e2
      exact e3
theorem run_append_none {P : Program} {t e ty : TypeId} (ht : P.underlying t = some (.slice e)) {i : TypeInfo} (hi : P.info? e = some i) (A : Option Addr) (m c cc : Nat) (hmc : m ≤ c) (w : World) :
    (Builtin.append_ #[t, t] ty #[.slice A m c, .slice none 0 cc]).run P w = .ok (.slice A m c) w := by
  cases A <;> simp [Builtin.append_, run_underlying ht, sizeOf, typeInfo, hi, Builtin.lenOf, Builtin.firstCells, hmc, storeCells]

section app
variable {P : Program} {n : Nat} {ops : Array Oper} {Q : Post} {rest : List Oper} {σ : St} {w : World}
variable {ty d t e sz by_ B : Nat} {pos : String} {aft : Array Edge} {s x : Operand} {v vy z : Value} {α : Type} {R : ER α} {M : MS} {xs ys : List α}
/-- What is read at last: of elements apart from M. -/
theorem Sl.atl (h : Sl R sz w M vy ys) : Sl (fun w' _ cs x => R w' M cs x) sz w (fun _ => False) vy ys := by
  obtain ⟨A, c, hv, hd⟩ := h
  exact ⟨A, c, hv, hd.cap, hd.lim, hd.nil, fun j x hx => let ⟨ad, cs, h1, h2, h3, h4⟩ := hd.el j x hx; ⟨ad, cs, h1, h2, ⟨fun hne => ⟨(h3.rd hne).lt, id⟩, h3.cell⟩, h4⟩⟩
theorem Own.atl [Stable R] (h : Own R sz e w M B v xs) : Sl (fun w' _ cs x => R w' M cs x) sz w (fun _ => False) v xs := by
  obtain ⟨css, h1, h2, h3, ho, hl, _⟩ := h
  rcases ho.2 with ⟨rfl, hn⟩ | ⟨g, cap, cur, rfl, hb, hg, hnc, hcm, hcs, htk⟩
  · have : xs = [] := List.eq_nil_of_length_eq_zero hn
    subst this
    exact Sl.nil
  · refine ⟨some ⟨g, 0, none⟩, cap, rfl, hnc, Nat.le_trans hl (Nat.le_of_ble_eq_true rfl), fun h => by simp at h, fun j x hx => ?_⟩
    have hj := (List.getElem?_eq_some_iff.1 hx).1
    obtain ⟨cs, hcs'⟩ : ∃ cs, css[j]? = some cs := ⟨css[j]'(by omega), List.getElem?_eq_getElem (by omega)⟩
    refine ⟨⟨g, 0, none⟩, cs, rfl, h2 cs (List.mem_of_getElem? hcs'), ⟨fun _ => ⟨by rw [Addr.add_block]; exact (Array.getElem?_eq_some_iff.1 hg).1, id⟩, fun i v hv => ?_⟩, h3 j x cs hx hcs'⟩
    rw [Addr.add_add]
    exact ho.cells (g := g) rfl _ _ (flatten_get h2 hcs' hv)
theorem run_append_own2 [Stable R] (ht : P.underlying t = some (.slice e)) (hi : tinfo P e = some (some z, sz, by_)) (hzc : z.cells.size = sz) (hsz : 0 < sz)
    (hO : Own R sz e w M B v xs) (hY : Sl (fun w' _ cs x => R w' M cs x) sz w (fun _ => False) vy ys) (hB : B ≤ w.heap.size) (hm : MB w M) (hby : 0 < by_) (hl : (xs.length + ys.length) * by_ ≤ 140737488355328) :
    ∃ v' w' M', (Builtin.append_ #[t, t] ty #[v, vy]).run P w = .ok v' w' ∧ Own R sz e w' M' B v' (xs ++ ys) ∧ Stp w w' (fun k => v.ownBlock = some k) ∧ Up w M w' M' ∧ (∀ k, M k → M' k) ∧ (∀ k, M' k → M k ∨ v'.ownBlock = some k) ∧ (∀ k, v'.ownBlock = some k → v.ownBlock = some k ∨ w.heap.size ≤ k) := by
  have hlim : xs.length + ys.length ≤ 140737488355328 := Nat.le_trans (Nat.le_mul_of_pos_right _ hby) hl
  obtain ⟨inf, hinf⟩ : ∃ inf, P.info? e = some inf := by
    cases h : P.info? e with
    | none => simp [tinfo, h] at hi
    | some i => exact ⟨i, rfl⟩
  have h3 : inf.zero = some z ∧ inf.size = sz ∧ inf.bytes = by_ := by simpa [tinfo, hinf] using hi
  obtain ⟨A, c, rfl, hD⟩ := hY
  have hO' := hO
  obtain ⟨css, o1, o2, o3, ho, ol, om⟩ := hO
  cases hA : A with
  | none =>
    have hc0 : c = 0 := hD.nil hA
    have hcap := hD.cap
    have hy0 : ys = [] := List.eq_nil_of_length_eq_zero (by omega)
    subst hy0 hc0
    obtain ⟨A2, c2, hv⟩ := hO'.form
    have hmc : xs.length ≤ c2 := by
      rcases ho.2 with ⟨e1, e2⟩ | ⟨g, cap, cur, e1, _, _, e2, _⟩
      · omega
      · rw [hv] at e1; injection e1 with _ _ e3; omega
    refine ⟨v, w, M, ?_, by simpa using hO', Stp.refl _ _, Up.refl hm, fun _ h => h, fun _ h => .inl h, fun _ h => .inl h⟩
    rw [hv]
    exact run_append_none ht hinf A2 _ c2 0 hmc w
  | some a =>
    obtain ⟨cssy, y1, y2, y3, y4⟩ := hD.rows
    have hcell : ∀ j u, cssy.flatten[j]? = some u → w.cell? (a.add j) = some u := fun j u hu => by
      obtain ⟨k, i, cs, c1, c2, rfl⟩ := flatten_inv hsz y2 hu
      have hne : ys ≠ [] := by
        intro e
        subst e
        have : cssy = [] := List.eq_nil_of_length_eq_zero y1
        subst this
        simp at c1
      obtain ⟨ad, e1, e2⟩ := y4 hne
      rw [hA] at e1
      cases e1
      have := (e2 k cs c1).cell i u c2
      rwa [Addr.add_add] at this
    have hone : ∀ u ∈ cssy.flatten, u.oneCell' = true := fun u hu => by
      obtain ⟨cs, hcs, hu2⟩ := List.mem_flatten.1 hu
      obtain ⟨j, hj⟩ := List.mem_iff_getElem?.1 hcs
      have hlt : j < ys.length := by have := (List.getElem?_eq_some_iff.1 hj).1; omega
      exact Stable.one (y3 j _ cs (List.getElem?_eq_getElem hlt) hj) u hu2
    have hfl : cssy.flatten.length = ys.length * sz := by
      have : ∀ l : List (List Value), (∀ cs ∈ l, cs.length = sz) → l.flatten.length = l.length * sz := by
        intro l
        induction l with
        | nil => intro _; simp
        | cons c r ih => intro h; simp only [List.flatten_cons, List.length_append, List.length_cons, ih (fun x hx => h x (by simp [hx])), h c (by simp), Nat.add_mul]; omega
      rw [this _ y2, y1]
    obtain ⟨v', w', hr, q1, q2, _, q3⟩ := run_append_own_at (P := P) w B t ty e inf z sz by_ ht hinf h3.1 h3.2.1 h3.2.2 hzc hsz v xs.length css.flatten ho a ys.length c cssy.flatten hfl hcell hone
      (by simp only [maxLen]; omega) hl hB
    have hu : Up w M w' (fun k => M k ∨ v'.ownBlock = some k) := by
      refine ⟨(Stp.of_grown q2).mono fun k _ hk => om k hk, fun k hk => hk.elim .inl fun hk => ?_, fun k hk => hk.elim (fun hk => Nat.lt_of_lt_of_le (hm k hk) q2.size) fun hk => (q1.lt k hk).2⟩
      rcases q3 with e1 | e1
      · exact .inl (om k (e1 ▸ hk))
      · rw [e1] at hk
        cases hk
        exact .inr (Nat.le_refl _)
    refine ⟨v', w', _, hr, ⟨css ++ cssy, by simp [o1, y1], fun cs hcs => ?_, fun j x cs hx hc => ?_, ?_, by simpa using hlim, fun k hk => .inr hk⟩, Stp.of_grown q2, hu, fun k hk => .inl hk, fun k hk => hk, fun k hk => ?_⟩
    · rcases List.mem_append.1 hcs with h | h
      · exact o2 cs h
      · exact y2 cs h
    · by_cases hj : j < xs.length
      · rw [List.getElem?_append_left hj] at hx
        rw [List.getElem?_append_left (by omega)] at hc
        exact Stable.up (o3 j x cs hx hc) hu
      · rw [List.getElem?_append_right (by omega)] at hx
        rw [List.getElem?_append_right (by omega), o1] at hc
        exact Stable.up (y3 _ x cs hx hc) hu
    · rw [List.flatten_append, List.length_append]
      exact q1
    · rcases q3 with e1 | e1
      · exact .inl (e1 ▸ hk)
      · rw [e1] at hk
        cases hk
        exact .inr (Nat.le_refl _)
theorem WL.append [Stable R] (ht : P.underlying t = some (.slice e)) (hi : tinfo P e = some (some z, sz, by_)) (hzc : z.cells.size = sz) (hsz : 0 < sz)
    (hs : ev σ s = some v) (hx : ev σ x = some vy) (hO : Own R sz e w M B v xs) (hY : Sl R sz w M vy ys) (hB : B ≤ w.heap.size) (hm : MB w M) (hby : 0 < by_) (hl : (xs.length + ys.length) * by_ ≤ 140737488355328)
    (k : ∀ v' w' M', Own R sz e w' M' B v' (xs ++ ys) → Stp w w' (fun k => v.ownBlock = some k) → Up w M w' M' → (∀ k, M k → M' k) → (∀ k, M' k → M k ∨ v'.ownBlock = some k) → WL P n ops Q rest ((d, v') :: σ) w') (hd : d < n := by decide) :
    WL P n ops Q (⟨some d, .call { callee := .builtin .append, args := #[s, x], argTypes := #[t, t] }, ty, pos, aft, none⟩ :: rest) σ w := by
  obtain ⟨v', w', M', hr, h1, h2, h3, h4, h5, _⟩ := run_append_own2 (ty := ty) ht hi hzc hsz hO (Sl.atl hY) hB hm hby hl
  exact .val rfl rfl hd (fun a ha => by simp [execOp, resolve, invoke, builtin, ha.ev hs, ha.ev hx, hr]) (k v' w' M' h1 h2 h3 h4 h5)
theorem WL.appendX [Stable R] (ht : P.underlying t = some (.slice e)) (hi : tinfo P e = some (some z, sz, by_)) (hzc : z.cells.size = sz) (hsz : 0 < sz)
    (hs : ev σ s = some v) (hx : ev σ x = some vy) (hO : Own R sz e w M B v xs) (hY : Sl (fun w' _ cs x => R w' M cs x) sz w (fun _ => False) vy ys) (hB : B ≤ w.heap.size) (hm : MB w M) (hby : 0 < by_) (hl : (xs.length + ys.length) * by_ ≤ 140737488355328)
    (k : ∀ v' w' M', Own R sz e w' M' B v' (xs ++ ys) → Stp w w' (fun k => v.ownBlock = some k) → Up w M w' M' → (∀ k, M k → M' k) → (∀ k, M' k → M k ∨ v'.ownBlock = some k) → WL P n ops Q rest ((d, v') :: σ) w') (hd : d < n := by decide) :
    WL P n ops Q (⟨some d, .call { callee := .builtin .append, args := #[s, x], argTypes := #[t, t] }, ty, pos, aft, none⟩ :: rest) σ w := by
  obtain ⟨v', w', M', hr, h1, h2, h3, h4, h5, _⟩ := run_append_own2 (ty := ty) ht hi hzc hsz hO hY hB hm hby hl
  exact .val rfl rfl hd (fun a ha => by simp [execOp, resolve, invoke, builtin, ha.ev hs, ha.ev hx, hr]) (k v' w' M' h1 h2 h3 h4 h5)
end app

/-! ### Literals, pieces, other operations -/
inductive Prts (σ : St) : Nat → List (Nat × Operand) → List Value → Prop
  | nil {i : Nat} : Prts σ i [] []
  | cons {i : Nat} {x : Operand} {v : Value} {l : List (Nat × Operand)} {vs : List Value} : ev σ x = some v → Prts σ (i + 1) l vs → Prts σ i ((i, x) :: l) (v :: vs)
theorem setAll (pre : List Value) : ∀ (vs mid tail : List Value) (k : Nat), mid.length = vs.length → k = pre.length → 
    (vs.zipIdx).foldl (fun (cs : Array Value) (p : Value × Nat) => cs.setIfInBounds (k + p.2) p.1) (pre ++ mid ++ tail).toArray = (pre ++ vs ++ tail).toArray := by
  suffices h : ∀ (vs done mid tail : List Value) (k : Nat), mid.length = vs.length → k = pre.length →
      (vs.zipIdx done.length).foldl (fun (cs : Array Value) (p : Value × Nat) => cs.setIfInBounds (k + p.2) p.1) (pre ++ done ++ mid ++ tail).toArray = (pre ++ done ++ vs ++ tail).toArray by
    intro vs mid tail k h1 h2
    simpa using h vs [] mid tail k h1 h2
  intro vs
  induction vs with
  | nil =>
    intro done mid tail k h1 _
    have : mid = [] := List.eq_nil_of_length_eq_zero h1
    subst this
    simp
  | cons v r ih =>
    intro done mid tail k h1 h2
    cases mid with
    | nil => simp at h1
    | cons m mr =>
      simp only [List.zipIdx_cons, List.foldl_cons]
      have hs : ((pre ++ done ++ (m :: mr) ++ tail).toArray.setIfInBounds (k + done.length) v) = (pre ++ (done ++ [v]) ++ mr ++ tail).toArray := by
        apply Array.ext'
        simp only [Array.toList_setIfInBounds]
        subst h2
        rw [show pre ++ done ++ m :: mr ++ tail = (pre ++ done) ++ (m :: (mr ++ tail)) by simp, List.set_append_right _ _ (by simp)]
        simp
      rw [hs]
      have := ih (done ++ [v]) mr tail k (by simpa using h1) h2
      simpa using this
theorem fill_full (sz : Nat) : ∀ (vs : List Value) (pre tail : List Value) (i : Nat), (∀ v ∈ vs, v.cells.size = sz) → pre.length = i * sz → tail.length = vs.length * sz →
    Instr.fill (fun i => some (i * sz, sz)) (pre ++ tail).toArray (vs.zipIdx i |>.map fun p => (p.2, p.1)) = some (pre ++ (vs.map (·.cells.toList)).flatten).toArray := by
  intro vs
  induction vs with
  | nil =>
    intro pre tail i _ _ h
    have : tail = [] := List.eq_nil_of_length_eq_zero (by simpa using h)
    subst this
    simp [Instr.fill]
  | cons v r ih =>
    intro pre tail i h1 h2 h3
    have hv : v.cells.size = sz := h1 v (by simp)
    have hsplit : tail = tail.take sz ++ tail.drop sz := (List.take_append_drop _ _).symm
    have h3' : tail.length = r.length * sz + sz := by rw [h3, List.length_cons, Nat.add_mul, Nat.one_mul]
    have htl : (tail.take sz).length = sz := by rw [List.length_take, h3']; omega
    simp only [List.zipIdx_cons, List.map_cons, Instr.fill, hv, ne_eq, not_true_eq_false, false_or]
    rw [if_neg (by simp only [decide_false, Bool.false_or, decide_eq_true_eq, List.size_toArray, List.length_append, h2, h3']; omega)]
    have hset : v.cells.zipIdx.foldl (fun cs (p : Value × Nat) => cs.setIfInBounds (i * sz + p.2) p.1) (pre ++ tail).toArray = (pre ++ v.cells.toList ++ tail.drop sz).toArray := by
      have := setAll pre v.cells.toList (tail.take sz) (tail.drop sz) (i * sz) (by rw [htl]; simp [hv]) h2.symm
      rw [List.append_assoc pre, ← hsplit] at this
      rw [← this, ← Array.foldl_toList]
      simp [Array.toList_zipIdx]
    have e : ∀ (cs : Array Value), (match v, cs with | v, cs => v.cells.zipIdx.foldl (fun cs (x : Value × Nat) => match x with | (c, j) => cs.setIfInBounds (i * sz + j) c) cs) = v.cells.zipIdx.foldl (fun cs (p : Value × Nat) => cs.setIfInBounds (i * sz + p.2) p.1) cs := fun cs => rfl
    have ih' := ih (pre ++ v.cells.toList) (tail.drop sz) (i + 1) (fun x hx => h1 x (by simp [hx])) (by simp [h2, hv, Nat.add_mul]) (by simp [h3, Nat.add_mul])
    rw [show (v.cells.zipIdx.foldl (fun cs (x : Value × Nat) => match x with | (c, j) => cs.setIfInBounds (i * sz + j) c) (pre ++ tail).toArray) = (pre ++ v.cells.toList ++ tail.drop sz).toArray from hset, ih']
    simp

section more
variable {P : Program} {n : Nat} {ops : Array Oper} {Q : Post} {rest : List Oper} {σ : St} {w : World}
variable {ty d t u e sz by_ : Nat} {pos : String} {aft : Array Edge} {x y c : Operand} {v z : Value}
theorem Prts.map {i : Nat} {l : List (Nat × Operand)} {vs : List Value} (h : Prts σ i l vs) {a : Act} (ha : Rep n a σ) : (l.map fun p => (p.1, a.eval p.2)) = (vs.zipIdx i).map fun p => (p.2, p.1) := by
  induction h with
  | nil => rfl
  | cons hx _ ih => simp [ha.ev hx, ih]
theorem Prts.length {i : Nat} {l : List (Nat × Operand)} {vs : List Value} (h : Prts σ i l vs) : l.length = vs.length := by
  induction h with
  | nil => rfl
  | cons _ _ ih => simp [ih]
/-- A slice's literal, all of whose elements are told. -/
theorem WL.bslice {l : List (Nat × Operand)} {vs : List Value} {len : Nat} (ht : P.underlying t = some (.slice e)) (hi : tinfo P e = some (some z, sz, by_)) (hz : z.cells.size = sz) (hsz : 0 < sz) (hlim : len * sz ≤ 16777216)
    (hp : Prts σ 0 l vs) (hlen : vs.length = len) (hv : ∀ v ∈ vs, v.cells.size = sz)
    (k : ∀ g w', w.heap.size ≤ g → Bk w' g e (vs.map (·.cells.toList)).flatten → Ext w w' → WL P n ops Q rest ((d, .slice (some ⟨g, 0, none⟩) len len) :: σ) w') (hd : d < n := by decide) :
    WL P n ops Q (⟨some d, .buildSlice t len l.toArray, ty, pos, aft, none⟩ :: rest) σ w := by
  refine .val rfl rfl hd (w' := w.alloc (.cells (vs.map (·.cells.toList)).flatten.toArray e)) (fun a ha => ?_) (k _ _ (Nat.le_refl _) (Bk.alloc w _ e) (Ext.alloc w _))
  cases hinf : P.info? e with
  | none => simp [tinfo, hinf] at hi
  | some inf =>
    have h3 : inf.zero = some z ∧ inf.size = sz ∧ inf.bytes = by_ := by simpa [tinfo, hinf] using hi
    have hfill : ∀ Z : Array Value, Z.size = len * sz → Instr.fill (fun i => some (i * sz, sz)) Z (l.map fun p => (p.1, a.eval p.2)) = some (vs.map (·.cells.toList)).flatten.toArray := fun Z hZ => by
      rw [hp.map ha]
      have := fill_full sz vs [] Z.toList 0 hv (by simp) (by simp [hZ, hlen])
      simpa using this
    have hm : (l.toArray.map fun (p : Nat × Operand) => match p with | (i, x) => (i, a.eval x)).toList = l.map fun p => (p.1, a.eval p.2) := by simp
    simp only [execOp, Instr.buildSlice, Sem.run_bind, run_underlying ht, Result.andThen_ok, sizeOf, typeInfo, run_program, hinf, Sem.run_pure, h3.2.1]
    rw [if_neg (by omega)]
    by_cases h0 : len * sz = 0
    · simp only [h0, if_true, Sem.run_bind, Sem.run_pure, Result.andThen_ok, hm]
      rw [hfill _ (by simp [h0])]
      simp [newRow]
    · simp only [h0, if_false, Sem.run_bind, zeroValue, typeInfo, run_program, hinf, h3.1, Sem.run_pure, Result.andThen_ok, hm]
      rw [hfill _ (by simp)]
      simp [newRow]
/-- A slice of one element. -/
theorem WL.bslice1 {α : Type} {R : ER α} [Stable R] {M : MS} {y' : α} (ht : P.underlying t = some (.slice e)) (hi : tinfo P e = some (some z, sz, by_)) (hz : z.cells.size = sz) (hsz : 0 < sz) (hlim : sz ≤ 16777216)
    (hx : ev σ x = some v) (hR : R w M v.cells.toList y') (hv : v.cells.size = sz) (hm : MB w M)
    (k : ∀ v' w', Sl R sz w' M v' [y'] → Ext w w' → WL P n ops Q rest ((d, v') :: σ) w') (hd : d < n := by decide) :
    WL P n ops Q (⟨some d, .buildSlice t 1 #[(0, x)], ty, pos, aft, none⟩ :: rest) σ w := by
  refine WL.bslice (l := [(0, x)]) ht hi hz hsz (by omega) (.cons hx .nil) rfl (by simpa using hv) (fun g w' hg hb he => ?_) hd
  have hn : ¬ M g := fun h => by have := hm g h; omega
  refine k _ w' ⟨some ⟨g, 0, none⟩, 1, rfl, by simp, by simp, by simp, fun j x hj => ?_⟩ he
  have hj0 : j = 0 := by have := (List.getElem?_eq_some_iff.1 hj).1; simp at this; omega
  subst hj0
  simp at hj
  subst hj
  refine ⟨⟨g, 0, none⟩, v.cells.toList, rfl, by simpa using hv, ?_, Stable.up hR (he.up hm)⟩
  rw [Nat.zero_mul, Addr.add_zero]
  have : Bk w' g e v.cells.toList := by simpa using hb
  exact this.at_ hn
theorem Rn.build {l : List (Nat × Operand)} {ps : List (Nat × Value)} {cs : Array Value} (hp : ∀ a, Rep n a σ → (l.map fun p => (p.1, a.eval p.2)) = ps) (hb : P.built t ps = some cs)
    : Rn P n σ (⟨some d, .build t l.toArray, ty, pos, aft, none⟩ : Oper) w (.agg cs) := fun a ha => by
    have hm : (l.toArray.map fun (p : Nat × Operand) => match p with | (i, x) => (i, a.eval x)).toList = ps := by rw [← hp a ha]; simp
    have := run_build w t (l.toArray.map fun (p : Nat × Operand) => match p with | (i, x) => (i, a.eval x)) cs (by rw [hm]; exact hb)
    simp only [execOp, Sem.run_bind, this, Result.andThen_ok, Sem.run_pure]
theorem WL.build {l : List (Nat × Operand)} {ps : List (Nat × Value)} {cs : Array Value} (hp : ∀ a, Rep n a σ → (l.map fun p => (p.1, a.eval p.2)) = ps) (hb : P.built t ps = some cs)
    (k : WL P n ops Q rest ((d, .agg cs) :: σ) w) (hd : d < n := by decide) : WL P n ops Q (⟨some d, .build t l.toArray, ty, pos, aft, none⟩ :: rest) σ w := .ofRn (.build hp hb) k hd
/-- Parts of a literal, by their numbers. -/
inductive PA (σ : St) : List (Nat × Operand) → List (Nat × Value) → Prop
  | nil : PA σ [] []
  | cons {i : Nat} {x : Operand} {v : Value} {l : List (Nat × Operand)} {ps : List (Nat × Value)} : ev σ x = some v → PA σ l ps → PA σ ((i, x) :: l) ((i, v) :: ps)
theorem PA.map {l : List (Nat × Operand)} {ps : List (Nat × Value)} (h : PA σ l ps) {a : Act} (ha : Rep n a σ) : (l.map fun p => (p.1, a.eval p.2)) = ps := by
  induction h with
  | nil => rfl
  | cons hx _ ih => simp [ha.ev hx, ih]
theorem WL.buildP {l : List (Nat × Operand)} {ps : List (Nat × Value)} {cs : Array Value} (hp : PA σ l ps) (hb : P.built t ps = some cs)
    (k : WL P n ops Q rest ((d, .agg cs) :: σ) w) (hd : d < n := by decide) : WL P n ops Q (⟨some d, .build t l.toArray, ty, pos, aft, none⟩ :: rest) σ w := .build (fun _ ha => hp.map ha) hb k hd
theorem WL.box {cs : List Value} (hx : ev σ x = some v) (hv : v.cells = cs.toArray) (k : ∀ g w', w.heap.size ≤ g → Bk w' g t cs → Ext w w' → WL P n ops Q rest ((d, .pointer (some ⟨g, 0, none⟩)) :: σ) w') (hd : d < n := by decide) :
    WL P n ops Q (⟨some d, .box t x, ty, pos, aft, none⟩ :: rest) σ w :=
  .val rfl rfl hd (w' := w.alloc (.cells cs.toArray t)) (fun a ha => by simp [execOp, Instr.box, ha.ev hx, newVar, newRow, hv]) (k _ _ (Nat.le_refl _) (Bk.alloc w cs t) (Ext.alloc w _))

/-- xs[lo:hi], xs[:hi], xs[lo:] -/
theorem run_slice_gen {A : Option Addr} {len cp : Nat} (hs : elemSize P t = some sz) (lo hi : Option Value) (l h : Nat) (hl : lo = none ∧ l = 0 ∨ ∃ kd, lo = some (.int kd l)) (hh : hi = none ∧ h = len ∨ ∃ kd, hi = some (.int kd h)) (h1 : l ≤ h) (h2 : h ≤ cp) :
    (Instr.sliceAt t (.slice A len cp) lo hi none).run P w = .ok (.slice (if cp = l then A else A.map (·.add (l * sz))) (h - l) (cp - l)) w := by
  unfold elemSize at hs
  cases hu : P.underlying t with
  | none => simp [hu] at hs
  | some ds =>
    cases ds <;> simp only [hu] at hs <;> try (cases hs; done)
    case slice e =>
      cases hinf : P.info? e with
      | none => simp [hinf] at hs
      | some inf =>
        simp only [hinf, Option.map_some, Option.some.injEq] at hs
        subst hs
        rcases hl with ⟨rfl, rfl⟩ | ⟨kl, rfl⟩ <;> rcases hh with ⟨rfl, rfl⟩ | ⟨kh, rfl⟩ <;>
          simp [Instr.sliceAt, run_underlying hu, Instr.slice, Instr.sliceBounds, Instr.sliceBound, asIntOf, sizeOf, typeInfo, hinf, h1, h2]
theorem Rn.sliceH {A : Option Addr} {len cp h : Nat} {kd : IntKind} (hs : elemSize P t = some sz) (hx : ev σ x = some (.slice A len cp)) (hy : ev σ y = some (.int kd h)) (h2 : h ≤ cp)
    : Rn P n σ (⟨some d, .slice t x none (some y) none, ty, pos, aft, none⟩ : Oper) w (.slice (if cp = 0 then A else A.map (·.add (0 * sz))) (h - 0) (cp - 0)) := fun a ha => by simp only [execOp, ha.ev hx, Option.map, ha.ev hy, Sem.run_bind, run_slice_gen hs none (some (.int kd h)) 0 h (.inl ⟨rfl, rfl⟩) (.inr ⟨kd, rfl⟩) (Nat.zero_le _) h2, Result.andThen_ok, Sem.run_pure]
theorem WL.sliceH {A : Option Addr} {len cp h : Nat} {kd : IntKind} (hs : elemSize P t = some sz) (hx : ev σ x = some (.slice A len cp)) (hy : ev σ y = some (.int kd h)) (h2 : h ≤ cp)
    (k : WL P n ops Q rest ((d, .slice (if cp = 0 then A else A.map (·.add (0 * sz))) (h - 0) (cp - 0)) :: σ) w) (hd : d < n := by decide) : WL P n ops Q (⟨some d, .slice t x none (some y) none, ty, pos, aft, none⟩ :: rest) σ w := .ofRn (.sliceH hs hx hy h2) k hd
theorem Rn.sliceL {A : Option Addr} {len cp l : Nat} {kd : IntKind} (hs : elemSize P t = some sz) (hx : ev σ x = some (.slice A len cp)) (hy : ev σ y = some (.int kd l)) (h1 : l ≤ len) (h2 : len ≤ cp)
    : Rn P n σ (⟨some d, .slice t x (some y) none none, ty, pos, aft, none⟩ : Oper) w (.slice (if cp = l then A else A.map (·.add (l * sz))) (len - l) (cp - l)) := fun a ha => by simp only [execOp, ha.ev hx, Option.map, ha.ev hy, Sem.run_bind, run_slice_gen hs (some (.int kd l)) none l len (.inr ⟨kd, rfl⟩) (.inl ⟨rfl, rfl⟩) h1 h2, Result.andThen_ok, Sem.run_pure]
theorem WL.sliceL {A : Option Addr} {len cp l : Nat} {kd : IntKind} (hs : elemSize P t = some sz) (hx : ev σ x = some (.slice A len cp)) (hy : ev σ y = some (.int kd l)) (h1 : l ≤ len) (h2 : len ≤ cp)
    (k : WL P n ops Q rest ((d, .slice (if cp = l then A else A.map (·.add (l * sz))) (len - l) (cp - l)) :: σ) w) (hd : d < n := by decide) : WL P n ops Q (⟨some d, .slice t x (some y) none none, ty, pos, aft, none⟩ :: rest) σ w := .ofRn (.sliceL hs hx hy h1 h2) k hd
theorem Rn.sliceLH {A : Option Addr} {len cp l h : Nat} {kd kd' : IntKind} (hs : elemSize P t = some sz) (hx : ev σ x = some (.slice A len cp)) (hy : ev σ y = some (.int kd l)) (hc : ev σ c = some (.int kd' h)) (h1 : l ≤ h) (h2 : h ≤ cp)
    : Rn P n σ (⟨some d, .slice t x (some y) (some c) none, ty, pos, aft, none⟩ : Oper) w (.slice (if cp = l then A else A.map (·.add (l * sz))) (h - l) (cp - l)) := fun a ha => by simp only [execOp, ha.ev hx, Option.map, ha.ev hy, ha.ev hc, Sem.run_bind, run_slice_gen hs (some (.int kd l)) (some (.int kd' h)) l h (.inr ⟨kd, rfl⟩) (.inr ⟨kd', rfl⟩) h1 h2, Result.andThen_ok, Sem.run_pure]
theorem WL.sliceLH {A : Option Addr} {len cp l h : Nat} {kd kd' : IntKind} (hs : elemSize P t = some sz) (hx : ev σ x = some (.slice A len cp)) (hy : ev σ y = some (.int kd l)) (hc : ev σ c = some (.int kd' h)) (h1 : l ≤ h) (h2 : h ≤ cp)
    (k : WL P n ops Q rest ((d, .slice (if cp = l then A else A.map (·.add (l * sz))) (h - l) (cp - l)) :: σ) w) (hd : d < n := by decide) : WL P n ops Q (⟨some d, .slice t x (some y) (some c) none, ty, pos, aft, none⟩ :: rest) σ w := .ofRn (.sliceLH hs hx hy hc h1 h2) k hd
variable {i j : Int} {kd : IntKind}
theorem Rn.convert {src dst : Nat} {kd' : IntKind} (hs : (P.underlying src).isSome = true) (hdst : P.underlying dst = some (.int kd')) (hx : ev σ x = some (.int kd i)) (hw : kd'.wrap i = i) : Rn P n σ (⟨some d, .convert src dst x, ty, pos, aft, none⟩ : Oper) w (.int kd' i) := fun a ha => by
    obtain ⟨ds, hds⟩ := Option.isSome_iff_exists.mp hs
    simp [execOp, ha.ev hx, Go.convert, run_underlying hds, run_underlying hdst, Conv.intToInt, hw]
theorem WL.convert {src dst : Nat} {kd' : IntKind} (hs : (P.underlying src).isSome = true) (hdst : P.underlying dst = some (.int kd')) (hx : ev σ x = some (.int kd i)) (hw : kd'.wrap i = i) (k : WL P n ops Q rest ((d, .int kd' i) :: σ) w) (hd : d < n := by decide) : WL P n ops Q (⟨some d, .convert src dst x, ty, pos, aft, none⟩ :: rest) σ w := .ofRn (.convert hs hdst hx hw) k hd
theorem Rn.rem (hx : ev σ x = some (.int kd i)) (hy : ev σ y = some (.int kd j)) (h0 : 0 ≤ i) (h1 : 0 < j) : Rn P n σ (⟨some d, .binOp .rem t x y u, ty, pos, aft, none⟩ : Oper) w (.int kd (i % j)) := .bin hx hy (by simp [binOp_rem, Op.intDiv, show j ≠ 0 by omega, Int.tmod_eq_emod_of_nonneg h0])
theorem WL.rem (hx : ev σ x = some (.int kd i)) (hy : ev σ y = some (.int kd j)) (h0 : 0 ≤ i) (h1 : 0 < j) (k : WL P n ops Q rest ((d, .int kd (i % j)) :: σ) w) (hd : d < n := by decide) : WL P n ops Q (⟨some d, .binOp .rem t x y u, ty, pos, aft, none⟩ :: rest) σ w := .ofRn (.rem hx hy h0 h1) k hd
theorem Rn.quo (hx : ev σ x = some (.int kd i)) (hy : ev σ y = some (.int kd j)) (h0 : 0 ≤ i) (h1 : 0 < j) (hw : kd.wrap (i / j) = i / j) : Rn P n σ (⟨some d, .binOp .quo t x y u, ty, pos, aft, none⟩ : Oper) w (.int kd (i / j)) := .bin hx hy (by simp [binOp_quo, Op.intDiv, show j ≠ 0 by omega, Int.tdiv_eq_ediv_of_nonneg h0, hw])
theorem WL.quo (hx : ev σ x = some (.int kd i)) (hy : ev σ y = some (.int kd j)) (h0 : 0 ≤ i) (h1 : 0 < j) (hw : kd.wrap (i / j) = i / j) (k : WL P n ops Q rest ((d, .int kd (i / j)) :: σ) w) (hd : d < n := by decide) : WL P n ops Q (⟨some d, .binOp .quo t x y u, ty, pos, aft, none⟩ :: rest) σ w := .ofRn (.quo hx hy h0 h1 hw) k hd
theorem Rn.imin {ats : Array TypeId} (hx : ev σ x = some (.int kd i)) (hy : ev σ y = some (.int kd j)) : Rn P n σ (⟨some d, .call { callee := .builtin .min, args := #[x, y], argTypes := ats }, ty, pos, aft, none⟩ : Oper) w (.int kd (min i j)) := fun a ha => by
    have : (if j < i then j else i) = min i j := by rw [Int.min_def]; split <;> split <;> omega
    simp [execOp, resolve, invoke, builtin, ha.ev hx, ha.ev hy, Builtin.min_, Builtin.min2, this]
theorem WL.imin {ats : Array TypeId} (hx : ev σ x = some (.int kd i)) (hy : ev σ y = some (.int kd j)) (k : WL P n ops Q rest ((d, .int kd (min i j)) :: σ) w) (hd : d < n := by decide) : WL P n ops Q (⟨some d, .call { callee := .builtin .min, args := #[x, y], argTypes := ats }, ty, pos, aft, none⟩ :: rest) σ w := .ofRn (.imin hx hy) k hd
theorem Rn.imax {ats : Array TypeId} (hx : ev σ x = some (.int kd i)) (hy : ev σ y = some (.int kd j)) : Rn P n σ (⟨some d, .call { callee := .builtin .max, args := #[x, y], argTypes := ats }, ty, pos, aft, none⟩ : Oper) w (.int kd (max i j)) := fun a ha => by
    have : (if i < j then j else i) = max i j := by rw [Int.max_def]; split <;> split <;> omega
    simp [execOp, resolve, invoke, builtin, ha.ev hx, ha.ev hy, Builtin.max_, Builtin.max2, this]
theorem WL.imax {ats : Array TypeId} (hx : ev σ x = some (.int kd i)) (hy : ev σ y = some (.int kd j)) (k : WL P n ops Q rest ((d, .int kd (max i j)) :: σ) w) (hd : d < n := by decide) : WL P n ops Q (⟨some d, .call { callee := .builtin .max, args := #[x, y], argTypes := ats }, ty, pos, aft, none⟩ :: rest) σ w := .ofRn (.imax hx hy) k hd
theorem Rn.makeFunc {fn : Go.Fn} {l : List Operand} {vs : List Value} (hl : Evs σ l vs) : Rn P n σ (⟨some d, .makeFunc fn #[] l.toArray, ty, pos, aft, none⟩ : Oper) w (.func fn #[] vs.toArray) := fun a ha => by simp [execOp, Instr.makeFunc, hl.map ha]
theorem WL.makeFunc {fn : Go.Fn} {l : List Operand} {vs : List Value} (hl : Evs σ l vs) (k : WL P n ops Q rest ((d, .func fn #[] vs.toArray) :: σ) w) (hd : d < n := by decide) : WL P n ops Q (⟨some d, .makeFunc fn #[] l.toArray, ty, pos, aft, none⟩ :: rest) σ w := .ofRn (.makeFunc hl) k hd
theorem Rn.makeInterface {ds : TypeDesc} (hu : P.underlying t = some ds) (hni : (match ds with | .interface _ => false | _ => true) = true) (hx : ev σ x = some v) : Rn P n σ (⟨some d, .makeInterface t x, ty, pos, aft, none⟩ : Oper) w (.iface t v) := fun a ha => by cases ds <;> simp at hni <;> simp [execOp, Instr.makeInterface, run_underlying hu, ha.ev hx]
theorem WL.makeInterface {ds : TypeDesc} (hu : P.underlying t = some ds) (hni : (match ds with | .interface _ => false | _ => true) = true) (hx : ev σ x = some v) (k : WL P n ops Q rest ((d, .iface t v) :: σ) w) (hd : d < n := by decide) : WL P n ops Q (⟨some d, .makeInterface t x, ty, pos, aft, none⟩ :: rest) σ w := .ofRn (.makeInterface hu hni hx) k hd
/-- A call of a function's value. -/
theorem WL.callv {fv : Operand} {f : FuncId} {fn : Func} {args : List Operand} {ats : Array TypeId} {vs : List Value} {caps : Array Value} {R : Value → World → Prop} (hfv : ev σ fv = some (.func (.func f) #[] caps))
    (hf : P.funcs[f]? = some fn) (hn : (fn.name == "runtime.NumGoroutine") = false) (hb : fn.body.isNone = false)
    (hx : Evs σ args vs) (h : Fc P f (vs.toArray ++ caps) w R) (k : ∀ v w', R v w' → WL P n ops Q rest ((d, v) :: σ) w') (hd : d < n := by decide) :
    WL P n ops Q (⟨some d, .call { callee := .value fv, args := args.toArray, argTypes := ats }, ty, pos, aft, none⟩ :: rest) σ w :=
  ⟨fun a ha => wpList_plain rfl fun K hK => by
    have hcf : (callFunc f (vs.toArray ++ caps)).run P w = .ok (.enter f (vs.toArray ++ caps)) w := by simp only [callFunc, Sem.run_bind, run_program, Result.andThen_ok, hf, hn, hb, Bool.false_eq_true, if_false, Sem.run_pure]
    have hrun : (execOp a.eval ⟨some d, .call { callee := .value fv, args := args.toArray, argTypes := ats }, ty, pos, aft, none⟩).run P w = .ok (.enter f (vs.toArray ++ caps)) w := by
      simp [execOp, resolve, Deferred.ofValue, ha.ev hfv, invoke, hx.map ha, hcf]
    unfold Oper.wp
    rw [hrun, Oper.upon_enter]
    refine h.run.mono fun e w' ⟨v, he, hR⟩ => ?_
    subst he
    exact hK _ _ ((k v w' hR).run _ (ha.put hd v))⟩

/-! Guards -/
theorem WL.gtake {o : Op} {dst : Option Tmp} {gj : Nat} {want b : Bool} {gt : Nat} (hj : (ops[gj]?).bind (·.dst) = some gt) (ht : look σ gt = some (.bool b)) (hb : b = want)
    (k : WL P n ops Q (⟨dst, o, ty, pos, aft, none⟩ :: rest) σ w) : WL P n ops Q (⟨dst, o, ty, pos, aft, some (gj, want)⟩ :: rest) σ w :=
  ⟨fun a ha => by
    have hy : yielded ops a.tmps gj = some b := by simp [yielded, hj, ha.slot gt _ ht]
    have hw : Region.wanted ⟨dst, o, ty, pos, aft, some (gj, want)⟩ (yielded ops a.tmps) = true := by simp [Region.wanted, hy, hb]
    have hk := k.run a ha
    unfold wpList at hk ⊢
    rw [if_pos (by simp [Region.wanted])] at hk
    rw [if_pos hw]
    exact hk⟩
theorem WL.gskip {o : Op} {gj : Nat} {want b : Bool} {gt : Nat} (hj : (ops[gj]?).bind (·.dst) = some gt) (ht : look σ gt = some (.bool b)) (hb : b = !want)
    (k : WL P n ops Q rest ((d, undef) :: σ) w) (hd : d < n := by decide) : WL P n ops Q (⟨some d, o, ty, pos, aft, some (gj, want)⟩ :: rest) σ w :=
  ⟨fun a ha => by
    have hy : yielded ops a.tmps gj = some b := by simp [yielded, hj, ha.slot gt _ ht]
    have hw : ¬ Region.wanted ⟨some d, o, ty, pos, aft, some (gj, want)⟩ (yielded ops a.tmps) = true := by simp [Region.wanted, hy, hb]
    unfold wpList
    rw [if_neg hw]
    exact k.run _ (ha.put hd _)⟩
/-- What it is guarded by was itself passed over. -/
theorem WL.uskip {o : Op} {gj : Nat} {want : Bool} {gt : Nat} (hj : (ops[gj]?).bind (·.dst) = some gt) (ht : look σ gt = some undef)
    (k : WL P n ops Q rest ((d, undef) :: σ) w) (hd : d < n := by decide) : WL P n ops Q (⟨some d, o, ty, pos, aft, some (gj, want)⟩ :: rest) σ w :=
  ⟨fun a ha => by
    have hy : yielded ops a.tmps gj = none := by simp [yielded, hj, ha.slot gt _ ht, undef]
    have hw : ¬ Region.wanted ⟨some d, o, ty, pos, aft, some (gj, want)⟩ (yielded ops a.tmps) = true := by simp [Region.wanted, hy]
    unfold wpList
    rw [if_neg hw]
    exact k.run _ (ha.put hd _)⟩
end more

/-! ### Regions that draw their order -/
theorem Rn.g {P : Program} {n : Nat} {σ : St} {w : World} {ds : Option Tmp} {o : Op} {ty : Nat} {pos : String} {aft : Array Edge} {v : Value} {gd : Option (Nat × Bool)} (h : Rn P n σ ⟨ds, o, ty, pos, aft, none⟩ w v) : Rn P n σ ⟨ds, o, ty, pos, aft, gd⟩ w v := h
/-- Whatever order is picked: as long as no late operation has come up, the world is of the class. -/
def AnyC (P : Program) (ops : Array Oper) (Q : Exit → Act → World → Prop) (late : Nat → Bool) (C : World → Prop) : Nat → Array Bool → Act → World → Prop
  | 0, listed, a, w => ((∀ j, late j = true → listed.getD j false = false) → C w) ∧ Region.ready .any ops listed = [] ∧ Q .normal a w
  | f + 1, listed, a, w => ((∀ j, late j = true → listed.getD j false = false) → C w) ∧ (Region.ready .any ops listed = [] → Q .normal a w) ∧
      ∀ i ∈ Region.ready .any ops listed, wpOp P ops Q i (AnyC P ops Q late C f (listed.setIfInBounds i true)) a w
section anyc
variable {P : Program} {ops : Array Oper} {Q : Exit → Act → World → Prop} {late : Nat → Bool} {C : World → Prop}
theorem AnyC.any : ∀ (f : Nat) (listed : Array Bool) (a : Act) (w : World), AnyC P ops Q late C f listed a w → wpAny P .any ops Q f listed a w
  | 0, _, _, _, h => ⟨h.2.1, h.2.2⟩
  | f + 1, _, _, _, h => ⟨h.2.1, fun i hi => wpOp_mono (fun a w => AnyC.any f _ a w) (h.2.2 i hi)⟩
theorem AnyC.world {f : Nat} {listed : Array Bool} {a : Act} {w : World} (h : AnyC P ops Q late C f listed a w) : (∀ j, late j = true → listed.getD j false = false) → C w := by
  cases f with
  | zero => exact h.1
  | succ f => exact h.1
/-- In every world of the class the operation leaves v. -/
def Tells (P : Program) (ops : Array Oper) (C : World → Prop) (o : Oper) (v : Value) (a : Act) : Prop :=
  (Region.wanted o (yielded ops a.tmps) = true ∧ ∀ w, C w → (execOp a.eval o).run P w = .ok (.value v) w) ∨ (Region.wanted o (yielded ops a.tmps) = false ∧ v = undef)
theorem Tells.op {i : Nat} {o : Oper} {v : Value} {a : Act} (hi : ops[i]? = some o) (h : Tells P ops C o v a) {K : Act → World → Prop} {w : World} (hC : C w) (hK : K (a.put o.dst v) w) : wpOp P ops Q i K a w := by
  simp only [wpOp, hi]
  rcases h with ⟨h1, h2⟩ | ⟨h1, rfl⟩
  · rw [if_pos h1]
    left
    unfold Oper.wp
    rw [h2 w hC]
    exact hK
  · rw [if_neg (by simp [h1])]
    exact hK
theorem Tells.same {o : Oper} {v : Value} {a b : Act} (h : Tells P ops C o v a) (he : execOp b.eval o = execOp a.eval o) (hw : Region.wanted o (yielded ops b.tmps) = Region.wanted o (yielded ops a.tmps)) : Tells P ops C o v b := by
  unfold Tells
  rw [he, hw]
  exact h
/-- An operation that is apart does not see whether v was left already. -/
theorem Tells.swap {j : Nat} {oi oj : Oper} {v : Value} (hj : ops[j]? = some oj) (hap : oi.apart ops oj = true) (hsi : ∀ cs b, oi.op ≠ .select cs b) (hsj : ∀ cs b, oj.op ≠ .select cs b)
    (hQ : ∀ c a w, ¬ Q (.panic c) a w) {K : Act → World → Prop} {a : Act} {w : World} (ht : Tells P ops C oi v a) (h : wpOp P ops Q j K (a.put oi.dst v) w) :
    wpOp P ops Q j (fun b w' => Tells P ops C oi v b ∧ K (b.put oi.dst v) w') a w := by
  obtain ⟨p1, p2, p3⟩ := Oper.apart_spec hap
  have kp : ∀ b : Act, Tells P ops C oi v b → ∀ x, Tells P ops C oi v (b.put oj.dst x) := fun b hb x => hb.same (execOp_put oi hsi b oj.dst x p3) (wanted_put oi b oj.dst x p3)
  simp only [wpOp, hj] at h ⊢
  rw [wanted_put oj a oi.dst v p1] at h
  by_cases hw : Region.wanted oj (yielded ops a.tmps) = true
  · rw [if_pos hw] at h ⊢
    rcases h with h | ⟨h1, h2⟩
    · left
      unfold Oper.wp at h ⊢
      rw [execOp_put oj hsj a oi.dst v p1] at h
      revert h
      cases (execOp a.eval oj).run P w with
      | halt x w' =>
        intro h
        cases x <;> first | exact h.elim | exact absurd h (hQ _ _ _)
      | ok nx w' =>
        intro h
        cases nx <;> try exact h.elim
        case value x => exact ⟨kp a ht x, by rw [← Act.put_comm a v x p2]; exact h⟩
        case skip => exact ⟨kp a ht undef, by rw [← Act.put_comm a v undef p2]; exact h⟩
        case defer x => exact ⟨kp { a with defers := x :: a.defers } (ht.same rfl rfl) undef, by rw [← Act.put_comm _ v undef p2, ← Act.put_defers]; exact h⟩
        case enter f args =>
          refine Calls.mono h fun e w2 he => ?_
          cases e with
          | returned x => exact ⟨kp a ht x, by rw [← Act.put_comm a v x p2]; exact he⟩
          | panicked c => exact absurd he (hQ _ _ _)
          | outgrown => exact he
        case row r args => exact Rows.mono h fun x w2 he => ⟨kp a ht x, by rw [← Act.put_comm a v x p2]; exact he⟩
    · right
      refine ⟨?_, h2⟩
      unfold Oper.asks at h1 ⊢
      rw [execOp_put oj hsj a oi.dst v p1] at h1
      exact h1
  · rw [if_neg hw] at h ⊢
    exact ⟨kp a ht undef, by rw [← Act.put_comm a v undef p2]; exact h⟩
theorem AnyC.first {i : Nat} {oi : Oper} {v : Value} (hi : ops[i]? = some oi) (hsel : ∀ (j : Nat) (o : Oper) cs b, ops[j]? = some o → o.op ≠ .select cs b) (hQ : ∀ c a w, ¬ Q (.panic c) a w)
    (hlate : late i = false) (hwait : ∀ j oj, ops[j]? = some oj → late j = true → ∃ e ∈ oj.after, Region.binds .any e = true ∧ e.on = i) :
    ∀ (f : Nat) (listed : Array Bool) (a : Act) (w : World), (∀ j, late j = true → listed.getD j false = false) →
      (∀ j oj, ops[j]? = some oj → j ≠ i → listed.getD j true = false → (∀ e ∈ oj.after, Region.binds .any e = true → e.on ≠ i) → oi.apart ops oj = true) →
      i ∈ Region.ready .any ops listed → Tells P ops C oi v a → AnyC P ops Q late C f (listed.setIfInBounds i true) (a.put oi.dst v) w → AnyC P ops Q late C (f + 1) listed a w := by
  have hset : ∀ (listed : Array Bool), (∀ j, late j = true → listed.getD j false = false) → ∀ j, late j = true → (listed.setIfInBounds i true).getD j false = false := fun listed hl j hj => by
    by_cases e : i = j
    · subst e; rw [hlate] at hj; cases hj
    · rw [getD_set_ne false e]; exact hl j hj
  intro f
  induction f with
  | zero =>
    intro listed a w hl hfree hr ht H
    refine ⟨fun _ => H.1 (hset listed hl), fun h0 => (by rw [h0] at hr; cases hr), fun j hj => ?_⟩
    by_cases e : j = i
    · subst e; exact ht.op hi (H.1 (hset listed hl)) H
    · have := ready_mono hj e
      rw [H.2.1] at this
      cases this
  | succ f ih =>
    intro listed a w hl hfree hr ht H
    refine ⟨fun _ => H.1 (hset listed hl), fun h0 => (by rw [h0] at hr; cases hr), fun j hj => ?_⟩
    by_cases e : j = i
    · subst e; exact ht.op hi (H.1 (hset listed hl)) H
    · have H' := H.2.2 j (ready_mono hj e)
      obtain ⟨hju, oj, hoj, hall⟩ := mem_ready.1 hj
      have hin : i < listed.size → listed.getD i false = false := fun hlt => by
        have := (mem_ready.1 hr).1
        simp only [Array.getD_eq_getD_getElem?, Array.getElem?_eq_getElem hlt, Option.getD_some] at this ⊢
        exact this
      have hidx : listed.getD i false = true → False := fun hx => by
        rcases Nat.lt_or_ge i listed.size with h' | h'
        · rw [hin h'] at hx; cases hx
        · simp [Array.getElem?_eq_none h'] at hx
      have hno : ∀ e ∈ oj.after, Region.binds .any e = true → e.on ≠ i := fun e he hb heq => hidx (by rw [← heq]; exact hall e he hb)
      have hjl : late j = false := by
        cases hjl : late j with
        | false => rfl
        | true =>
          obtain ⟨e, he, hb, hon⟩ := hwait j oj hoj hjl
          exact absurd hon (hno e he hb)
      have hl' : ∀ k, late k = true → (listed.setIfInBounds j true).getD k false = false := fun k hk => by
        by_cases e : j = k
        · subst e; rw [hjl] at hk; cases hk
        · rw [getD_set_ne false e]; exact hl k hk
      have H2 := Tells.swap hoj (hfree j oj hoj e hju hno) (fun cs b => hsel i oi cs b hi) (fun cs b => hsel j oj cs b hoj) hQ ht H'
      refine wpOp_mono (fun b w' ⟨h1, h2⟩ => ih (listed.setIfInBounds j true) b w' hl' (fun k ok hk hki hun hn => ?_) (ready_mono hr (Ne.symm e)) h1 ?_) H2
      · refine hfree k ok hk hki ?_ hn
        by_cases e : j = k
        · subst e; exact hju
        · rw [getD_set_ne true e] at hun; exact hun
      · rw [Array.setIfInBounds_comm _ _ e]; exact h2
end anyc

/-- A drawn region, part of whose operations have come up. -/
structure DW (P : Program) (n : Nat) (ops : Array Oper) (Q : Post) (late : Nat → Bool) (C : World → Prop) (f : Nat) (listed : Array Bool) (σ : St) (w : World) : Prop where
  run : ∀ a, Rep n a σ → AnyC P ops (Lf n Q) late C f listed a w
def lateB (late : List Nat) (j : Nat) : Bool := late.contains j
def waitsB (ops : Array Oper) (late : List Nat) (i : Nat) : Bool :=
  late.all fun j => match ops[j]? with
    | some oj => oj.after.any fun e => Region.binds .any e && e.on == i
    | none => true
def freshB (late : List Nat) (listed : Array Bool) : Bool := late.all fun j => !listed.getD j false
/-- All that 'take' asks of the order, as one Bool. -/
def takeB (ops : Array Oper) (late : List Nat) (listed : Array Bool) (i : Nat) : Bool :=
  Region.noSelect ops && !late.contains i && waitsB ops late i && freshB late listed && Region.free .any ops listed i && (Region.ready .any ops listed).contains i
section dw
variable {P : Program} {n : Nat} {ops : Array Oper} {Q : Post} {late : List Nat} {C : World → Prop} {f : Nat} {listed : Array Bool} {σ : St} {w : World}
theorem CW.draw {id : Nat} {l : List Oper} (late : List Nat) (C : World → Prop) (hm : P.follows .mixedOrders = true) (h : DW P n l.toArray Q (lateB late) C l.length (Array.replicate l.length false) σ w.drew) : CW P n (.region id l.toArray true) Q σ w :=
  ⟨fun a ha => wp_region_any hm (by have := AnyC.any _ _ _ _ (h.run a ha); simpa using this)⟩
theorem DW.sub {τ : St} (hs : Sub τ σ) (h : DW P n ops Q (lateB late) C f listed τ w) : DW P n ops Q (lateB late) C f listed σ w := ⟨fun a ha => h.run a (ha.sub hs)⟩
/-- Is the operation's guard, if it has one, of this outcome? -/
def Want (ops : Array Oper) (σ : St) (o : Oper) (b : Bool) : Prop :=
  match o.guard with
  | none => b = true
  | some (j, want) => (∃ t x, (ops[j]?).bind (·.dst) = some t ∧ look σ t = some (.bool x) ∧ (x == want) = b) ∨ (∃ t, (ops[j]?).bind (·.dst) = some t ∧ look σ t = some undef ∧ b = false)
theorem Want.at_ {o : Oper} {b : Bool} (h : Want ops σ o b) {a : Act} (ha : Rep n a σ) : Region.wanted o (yielded ops a.tmps) = b := by
  unfold Want at h
  unfold Region.wanted
  cases hg : o.guard with
  | none => rw [hg] at h; exact h.symm
  | some p =>
    obtain ⟨j, want⟩ := p
    rw [hg] at h
    rcases h with ⟨t, x, h1, h2, h3⟩ | ⟨t, h1, h2, rfl⟩
    rotate_left
    · have hy : yielded ops a.tmps j = none := by simp [yielded, h1, ha.slot t _ h2, undef]
      simp [hy]
    have hy : yielded ops a.tmps j = some x := by simp [yielded, h1, ha.slot t _ h2]
    simp only [hy]
    rw [← h3]
    cases x <;> cases want <;> rfl
theorem DW.take {o : Oper} {d : Nat} {v : Value} (i : Nat) (hi : ops[i]? = some o) (hB : takeB ops late listed i = true) (hd : o.dst = some d) (hQ : ∀ c σ w, ¬ Q (.panic c) σ w)
    (hw : Want ops σ o true) (h : ∀ w', C w' → ∀ a, Rep n a σ → (execOp a.eval o).run P w' = .ok (.value v) w')
    (k : DW P n ops Q (lateB late) C f (listed.setIfInBounds i true) ((d, v) :: σ) w) (hdn : d < n := by decide) : DW P n ops Q (lateB late) C (f + 1) listed σ w := by
  simp only [takeB, Bool.and_eq_true] at hB
  obtain ⟨⟨⟨⟨⟨b1, b2⟩, b3⟩, b4⟩, b5⟩, b6⟩ := hB
  refine ⟨fun a ha => AnyC.first hi (Region.noSelect_spec b1) (fun c a w ⟨σ', _, hq⟩ => hQ c σ' w hq) (by simpa [lateB] using b2) ?_ f listed a w ?_ (Region.free_spec hi b5) (by simpa using b6) (.inl ⟨hw.at_ ha, fun w' hC => h w' hC a ha⟩) ?_⟩
  · intro j oj hj hl
    have := List.all_eq_true.1 b3 j (by simpa [lateB] using hl)
    simp only [hj] at this
    obtain ⟨e, he, hb⟩ := Array.any_eq_true'.1 this
    simp only [Bool.and_eq_true, beq_iff_eq] at hb
    exact ⟨e, he, hb.1, hb.2⟩
  · intro j hj
    have := List.all_eq_true.1 b4 j (by simpa [lateB] using hj)
    simpa using this
  · rw [hd]
    exact k.run _ (ha.put hdn v)
theorem DW.skip {o : Oper} {d : Nat} (i : Nat) (hi : ops[i]? = some o) (hB : takeB ops late listed i = true) (hd : o.dst = some d) (hQ : ∀ c σ w, ¬ Q (.panic c) σ w)
    (hw : Want ops σ o false) (k : DW P n ops Q (lateB late) C f (listed.setIfInBounds i true) ((d, undef) :: σ) w) (hdn : d < n := by decide) : DW P n ops Q (lateB late) C (f + 1) listed σ w := by
  simp only [takeB, Bool.and_eq_true] at hB
  obtain ⟨⟨⟨⟨⟨b1, b2⟩, b3⟩, b4⟩, b5⟩, b6⟩ := hB
  refine ⟨fun a ha => AnyC.first hi (Region.noSelect_spec b1) (fun c a w ⟨σ', _, hq⟩ => hQ c σ' w hq) (by simpa [lateB] using b2) ?_ f listed a w ?_ (Region.free_spec hi b5) (by simpa using b6) (.inr ⟨hw.at_ ha, rfl⟩) ?_⟩
  · intro j oj hj hl
    have := List.all_eq_true.1 b3 j (by simpa [lateB] using hl)
    simp only [hj] at this
    obtain ⟨e, he, hb⟩ := Array.any_eq_true'.1 this
    simp only [Bool.and_eq_true, beq_iff_eq] at hb
    exact ⟨e, he, hb.1, hb.2⟩
  · intro j hj
    have := List.all_eq_true.1 b4 j (by simpa [lateB] using hj)
    simpa using this
  · rw [hd]
    exact k.run _ (ha.put hdn _)
/-- One operation of a drawn region, as the text's walk has it. -/
theorem DW.op {o : Oper} (i : Nat) (hi : ops[i]? = some o)
    (h : WL P n ops (Then (fun σ' w' => DW P n ops Q (lateB late) C f (listed.setIfInBounds i true) σ' w') Q) [o] σ w) {a : Act} (ha : Rep n a σ) :
    wpOp P ops (Lf n Q) i (AnyC P ops (Lf n Q) (lateB late) C f (listed.setIfInBounds i true)) a w := by
  have hrun := h.run a ha
  simp only [wpOp, hi]
  unfold wpList at hrun
  have hmono : ∀ (e : Exit) (a' : Act) (w' : World), e ≠ .normal → Lf n (Then (fun σ' w' => DW P n ops Q (lateB late) C f (listed.setIfInBounds i true) σ' w') Q) e a' w' → Lf n Q e a' w' := by
    intro e a' w' hne ⟨σ', hr', hq⟩
    cases e <;> first | exact absurd rfl hne | exact ⟨σ', hr', hq⟩
  have hnil : ∀ a' w', wpList P ops (Lf n (Then (fun σ' w' => DW P n ops Q (lateB late) C f (listed.setIfInBounds i true) σ' w') Q)) [] a' w' → AnyC P ops (Lf n Q) (lateB late) C f (listed.setIfInBounds i true) a' w' :=
    fun a' w' ⟨σ', hr', hq⟩ => DW.run hq a' hr'
  by_cases hw : Region.wanted o (yielded ops a.tmps) = true
  · rw [if_pos hw] at hrun ⊢
    rcases hrun with hx | ⟨h1, a0, w0, h2⟩
    · left
      unfold Oper.wp at hx ⊢
      revert hx
      cases (execOp a.eval o).run P w with
      | halt x w' => intro hx; cases x <;> first | exact hx.elim | exact hmono _ _ _ (by simp) hx
      | ok nx w' =>
        intro hx
        cases nx <;> try exact hx.elim
        case value x => exact hnil _ _ hx
        case skip => exact hnil _ _ hx
        case defer x => exact hnil _ _ hx
        case enter g args =>
          refine Calls.mono hx fun e w2 he => ?_
          cases e with
          | returned x => exact hnil _ _ he
          | panicked c => exact hmono _ _ _ (by simp) he
          | outgrown => obtain ⟨a1, w1, h3⟩ := he; exact ⟨a1, w1, hmono _ _ _ (by simp) h3⟩
        case row r args => exact Rows.mono hx fun x w2 he => hnil _ _ he
    · exact .inr ⟨h1, a0, w0, hmono _ _ _ (by simp) h2⟩
  · rw [if_neg hw] at hrun ⊢
    exact hnil _ _ hrun
/-- The one operation that may come up now. -/
theorem DW.only {o : Oper} (i : Nat) (hr : Region.ready .any ops listed = [i]) (hi : ops[i]? = some o) (hC : freshB late listed = true → C w)
    (h : WL P n ops (Then (fun σ' w' => DW P n ops Q (lateB late) C f (listed.setIfInBounds i true) σ' w') Q) [o] σ w) : DW P n ops Q (lateB late) C (f + 1) listed σ w := by
  refine ⟨fun a ha => ⟨fun hl => hC (List.all_eq_true.2 fun j hj => by have := hl j (by simpa [lateB] using hj); simpa using this), fun h0 => (by rw [h0] at hr; cases hr), fun j hj => ?_⟩⟩
  rw [hr] at hj
  have : j = i := by simpa using hj
  subst this
  exact DW.op j hi h ha
/-- Two operations, either of which may come up now. -/
theorem DW.two {o o' : Oper} (i i' : Nat) (hr : Region.ready .any ops listed = [i, i']) (hi : ops[i]? = some o) (hi' : ops[i']? = some o') (hC : freshB late listed = true → C w)
    (h : WL P n ops (Then (fun σ' w' => DW P n ops Q (lateB late) C f (listed.setIfInBounds i true) σ' w') Q) [o] σ w)
    (h' : WL P n ops (Then (fun σ' w' => DW P n ops Q (lateB late) C f (listed.setIfInBounds i' true) σ' w') Q) [o'] σ w) : DW P n ops Q (lateB late) C (f + 1) listed σ w := by
  refine ⟨fun a ha => ⟨fun hl => hC (List.all_eq_true.2 fun j hj => by have := hl j (by simpa [lateB] using hj); simpa using this), fun h0 => (by rw [h0] at hr; cases hr), fun j hj => ?_⟩⟩
  rw [hr] at hj
  have : j = i ∨ j = i' := by simpa using hj
  rcases this with rfl | rfl
  · exact DW.op j hi h ha
  · exact DW.op j hi' h' ha
theorem DW.done (hr : Region.ready .any ops listed = []) (hC : freshB late listed = true → C w) (h : Q .normal σ w) : DW P n ops Q (lateB late) C 0 listed σ w :=
  ⟨fun a ha => ⟨fun hl => hC (List.all_eq_true.2 fun j hj => by have := hl j (by simpa [lateB] using hj); simpa using this), hr, σ, ha, h⟩⟩
end dw

section dw2
variable {P : Program} {n : Nat} {ops : Array Oper} {Q : Post} {late : List Nat} {C : World → Prop} {f : Nat} {listed : Array Bool} {σ : St} {w : World}
variable {d ty : Nat} {o : Op} {pos : String} {aft : Array Edge} {v : Value} {gj gt : Nat} {want b : Bool}
/-- A reader without a guard. -/
theorem DW.t (i : Nat) (hi : ops[i]? = some ⟨some d, o, ty, pos, aft, none⟩) (hB : takeB ops late listed i = true) (hQ : ∀ c σ w, ¬ Q (.panic c) σ w)
    (h : ∀ w', C w' → Rn P n σ ⟨some d, o, ty, pos, aft, none⟩ w' v)
    (k : DW P n ops Q (lateB late) C f (listed.setIfInBounds i true) ((d, v) :: σ) w) (hdn : d < n := by decide) : DW P n ops Q (lateB late) C (f + 1) listed σ w :=
  .take i hi hB rfl hQ rfl h k hdn
/-- A reader whose guard lets it. -/
theorem DW.tg (i : Nat) (hi : ops[i]? = some ⟨some d, o, ty, pos, aft, some (gj, want)⟩) (hB : takeB ops late listed i = true) (hQ : ∀ c σ w, ¬ Q (.panic c) σ w)
    (hj : (ops[gj]?).bind (·.dst) = some gt) (ht : look σ gt = some (.bool b)) (hb : b = want) (h : ∀ w', C w' → Rn P n σ ⟨some d, o, ty, pos, aft, none⟩ w' v)
    (k : DW P n ops Q (lateB late) C f (listed.setIfInBounds i true) ((d, v) :: σ) w) (hdn : d < n := by decide) : DW P n ops Q (lateB late) C (f + 1) listed σ w :=
  .take i hi hB rfl hQ (.inl ⟨gt, b, hj, ht, by rw [hb]; cases want <;> rfl⟩) (fun w' hC => (h w' hC).g) k hdn
/-- An operation whose guard does not let it. -/
theorem DW.sg (i : Nat) (hi : ops[i]? = some ⟨some d, o, ty, pos, aft, some (gj, want)⟩) (hB : takeB ops late listed i = true) (hQ : ∀ c σ w, ¬ Q (.panic c) σ w)
    (hj : (ops[gj]?).bind (·.dst) = some gt) (ht : look σ gt = some (.bool b)) (hb : b = !want)
    (k : DW P n ops Q (lateB late) C f (listed.setIfInBounds i true) ((d, undef) :: σ) w) (hdn : d < n := by decide) : DW P n ops Q (lateB late) C (f + 1) listed σ w :=
  .skip i hi hB rfl hQ (.inl ⟨gt, b, hj, ht, by rw [hb]; cases want <;> rfl⟩) k hdn
theorem DW.us (i : Nat) (hi : ops[i]? = some ⟨some d, o, ty, pos, aft, some (gj, want)⟩) (hB : takeB ops late listed i = true) (hQ : ∀ c σ w, ¬ Q (.panic c) σ w)
    (hj : (ops[gj]?).bind (·.dst) = some gt) (ht : look σ gt = some undef)
    (k : DW P n ops Q (lateB late) C f (listed.setIfInBounds i true) ((d, undef) :: σ) w) (hdn : d < n := by decide) : DW P n ops Q (lateB late) C (f + 1) listed σ w :=
  .skip i hi hB rfl hQ (.inr ⟨gt, hj, ht, rfl⟩) k hdn
/-- The region, from whatever world the draw leads to. -/
theorem CW.drawn {id : Nat} {l : List Oper} (late : List Nat) (C : World → World → Prop) (hm : P.follows .mixedOrders = true) (h : ∀ w1, Ext w w1 → w1.heap = w.heap → DW P n l.toArray Q (lateB late) (C w1) l.length (Array.replicate l.length false) σ w1) : CW P n (.region id l.toArray true) Q σ w :=
  .draw late (C w.drew) hm (h w.drew (Ext.drew w) rfl)
end dw2

/-- A loop's round has ended: on to the next. -/
theorem Loop.again {I : Nat → St → World → Prop} {m : Nat} {Q : Post} {σ : St} {w : World} (m' : Nat) (σ'' : St) (hlt : m' < m) (hs : Sub σ'' σ) (h : I m' σ'' w) : Then (fun σ' w' => ∃ m' σ'', m' < m ∧ Sub σ'' σ' ∧ I m' σ'' w') Q .normal σ w := ⟨m', σ'', hlt, hs, h⟩
theorem SlD.get {α : Type} {R : ER α} {sz : Nat} {w : World} {M : MS} {A : Option Addr} {c : Nat} {xs : List α} (h : SlD R sz w M A c xs) {i : Nat} {x : α} (hx : xs[i]? = some x) : ∃ ad cs, A = some ad ∧ cs.length = sz ∧ At w M (ad.add (i * sz)) cs ∧ R w M cs x := h.el i x hx
/-- An int of a slice. -/
theorem SlD.int {w : World} {M : MS} {A : Option Addr} {c : Nat} {xs : List Int} (h : SlD IntR 1 w M A c xs) {i : Nat} (hi : i < xs.length) : ∃ ad, A = some ad ∧ w.cell? (ad.add (i * 1)) = some (.int .i64 xs[i]) ∧ I64 xs[i] := by
  obtain ⟨ad, cs, h1, _, h3, h4, h5⟩ := h.el i xs[i] (List.getElem?_eq_getElem hi)
  refine ⟨ad, h1, ?_, h5⟩
  have := h3.cell 0 (.int .i64 xs[i]) (by rw [h4]; rfl)
  rwa [Addr.add_zero] at this
theorem SlD.byte {w : World} {M : MS} {A : Option Addr} {c : Nat} {xs : List Int} (h : SlD ByteR 1 w M A c xs) {i : Nat} (hi : i < xs.length) : ∃ ad, A = some ad ∧ w.cell? (ad.add (i * 1)) = some (.int .u8 xs[i]) ∧ 0 ≤ xs[i] ∧ xs[i] ≤ 255 := by
  obtain ⟨ad, cs, h1, _, h3, h4, h5⟩ := h.el i xs[i] (List.getElem?_eq_getElem hi)
  refine ⟨ad, h1, ?_, h5⟩
  have := h3.cell 0 (.int .u8 xs[i]) (by rw [h4]; rfl)
  rwa [Addr.add_zero] at this
theorem cell?_heap {w w' : World} (h : w'.heap = w.heap) (a : Addr) : w'.cell? a = w.cell? a := by simp [World.cell?, h]
/-- A block that holds rows, one behind the other. -/
theorem Bk.sl {α : Type} {R : ER α} {sz : Nat} {w : World} {M : MS} {g e : Nat} {ys : List α} (cells : α → List Value) (hb : Bk w g e (ys.map cells).flatten) (hR : ∀ x ∈ ys, (cells x).length = sz ∧ R w M (cells x) x) (hn : ¬ M g) (hl : ys.length ≤ 9223372036854775807) :
    SlD R sz w M (some ⟨g, 0, none⟩) ys.length ys := by
  refine ⟨Nat.le_refl _, hl, fun h => by simp at h, fun j x hx => ?_⟩
  have hmem := List.mem_of_getElem? hx
  obtain ⟨h1, h2⟩ := hR x hmem
  refine ⟨⟨g, 0, none⟩, cells x, rfl, h1, ⟨fun _ => ⟨by rw [Addr.add_block]; exact hb.lt, by rw [Addr.add_block]; exact hn⟩, fun i u hu => ?_⟩, h2⟩
  rw [Addr.add_add, Addr.add_lit, Nat.zero_add]
  refine hb.cell (flatten_get (sz := sz) (fun cs hcs => ?_) (cs := cells x) ?_ hu)
  · obtain ⟨y, hy, rfl⟩ := List.mem_map.1 hcs
    exact (hR y hy).1
  · rw [List.getElem?_map, hx]; rfl

/-! ### Results that lie in memory -/
section cellret
variable {P : Program} {n : Nat} {fn : Func} {R : Value → World → Prop} {σ : St} {w : World}
theorem run_loadVar_at {M : MS} {t : TypeId} {a : Addr} {cs : List Value} (hs : aggSize P t = some cs.length) (hc : At w M a cs) : (loadVar t a).run P w = .ok (.agg cs.toArray) w := by
  have hl := run_loadCells_list (P := P) w a cs hc.cell
  unfold aggSize at hs
  cases hu : P.underlying t with
  | none => simp [hu] at hs
  | some ds =>
    cases ds <;> simp only [hu] at hs <;> try (cases hs; done)
    all_goals
      cases hinf : P.info? t with
      | none => simp [hinf] at hs
      | some inf =>
        simp only [hinf, Option.map_some, Option.some.injEq] at hs
        simp [loadVar, isAgg, run_underlying hu, sizeOf, typeInfo, hinf, hs, hl]
theorem Ret.cell1 {p ty g e : Nat} {cs : List Value} (hr : fn.results = #[.cell p ty]) (hp : look σ p = some (.pointer (some ⟨g, 0, none⟩))) (hs : aggSize P ty = some cs.length) (hb : Bk w g e cs) (h : R (.agg cs.toArray) w) : RetAt P n fn R σ w :=
  ⟨⟨_, fun a ha => by
    have hl := run_loadVar_at (M := fun _ => False) hs (hb.at_ id)
    have h2 : (asAddr (a.tmps.getD p undef)).run P w = .ok ⟨g, 0, none⟩ w := by rw [ha.getD hp]; rfl
    simp only [Array.getD_eq_getD_getElem?] at h2
    simp [results, hr, h2, hl], h⟩⟩
theorem Ret.cell2 {p ty g e t : Nat} {x : Value} {cs : List Value} (hr : fn.results = #[.cell p ty, .tmp t]) (hp : look σ p = some (.pointer (some ⟨g, 0, none⟩))) (hs : aggSize P ty = some cs.length) (hb : Bk w g e cs) (ht : look σ t = some x) (h : R (.tuple #[.agg cs.toArray, x]) w) : RetAt P n fn R σ w :=
  ⟨⟨_, fun a ha => by
    have hl := run_loadVar_at (M := fun _ => False) hs (hb.at_ id)
    have h2 : (asAddr (a.tmps.getD p undef)).run P w = .ok ⟨g, 0, none⟩ w := by rw [ha.getD hp]; rfl
    have h3 := ha.getD ht
    simp only [Array.getD_eq_getD_getElem?] at h2 h3
    simp [results, hr, h2, hl, h3], h⟩⟩
theorem Ret.cell3 {p ty g e t u : Nat} {x y : Value} {cs : List Value} (hr : fn.results = #[.cell p ty, .tmp t, .tmp u]) (hp : look σ p = some (.pointer (some ⟨g, 0, none⟩))) (hs : aggSize P ty = some cs.length) (hb : Bk w g e cs) (ht : look σ t = some x) (hu : look σ u = some y) (h : R (.tuple #[.agg cs.toArray, x, y]) w) : RetAt P n fn R σ w :=
  ⟨⟨_, fun a ha => by
    have hl := run_loadVar_at (M := fun _ => False) hs (hb.at_ id)
    have h2 : (asAddr (a.tmps.getD p undef)).run P w = .ok ⟨g, 0, none⟩ w := by rw [ha.getD hp]; rfl
    have h3 := ha.getD ht
    have h4 := ha.getD hu
    simp only [Array.getD_eq_getD_getElem?] at h2 h3 h4
    simp [results, hr, h2, hl, h3, h4], h⟩⟩
end cellret

theorem At.drop {w : World} {M : MS} {a : Addr} {cs : List Value} (h : At w M a cs) (k : Nat) : At w M (a.add k) (cs.drop k) :=
  ⟨fun hne => by rw [Addr.add_block]; exact h.rd (fun e => hne (by rw [e]; simp)), fun i u hu => by rw [Addr.add_add]; exact h.cell (k + i) u (by rw [List.getElem?_drop] at hu; exact hu)⟩
theorem At.take {w : World} {M : MS} {a : Addr} {cs : List Value} (h : At w M a cs) (k : Nat) : At w M a (cs.take k) :=
  ⟨fun hne => h.rd (fun e => hne (by rw [e]; simp)), fun i u hu => h.cell i u (by rw [List.getElem?_take] at hu; split at hu <;> first | exact hu | cases hu)⟩

/-! ### Arrays by value; floats and complex numbers -/
def elemSizeA (P : Program) (t : TypeId) : Option (Nat × Nat) :=
  match P.underlying t with
  | some (.array n e) => if scalar P e then (P.info? e).map (fun i => (n, i.size)) else none
  | _ => none
/-- The two floats are equal, as Go asks. -/
def fe (x y : Nat) : Bool := FloatKind.f64.format.order x y == some .eq
/-- The float of an int. -/
def fb (i : Int) : Nat := FloatKind.f64.nearest i
/-- A sum of floats: what there is, or any that is equal to none. -/
def FAdd (x y r : Nat) : Prop := FloatKind.f64.format.add x y = some r ∨ (FloatKind.f64.format.add x y = none ∧ ∀ z, fe z r = false ∧ fe r z = false)
section floats
variable {P : Program} {n : Nat} {ops : Array Oper} {Q : Post} {rest : List Oper} {σ : St} {w : World}
variable {ty d t u : Nat} {pos : String} {aft : Array Edge} {x y : Operand} {v : Value} {a b c e : Nat} {i : Int}
theorem Rn.indexA {cs : Array Value} {kd : IntKind} {m : Nat} (hs : elemSizeA P t = some (m, 1)) (hx : ev σ x = some (.agg cs)) (hy : ev σ y = some (.int kd i)) (h0 : 0 ≤ i) (h1 : i < m) (hv : cs[i.toNat]? = some v) : Rn P n σ (⟨some d, .index t x y, ty, pos, aft, none⟩ : Oper) w v := by
  intro b ha
  unfold elemSizeA at hs
  cases hu : P.underlying t with
  | none => simp [hu] at hs
  | some ds =>
    cases ds <;> simp only [hu] at hs <;> try (cases hs; done)
    case array l e =>
      cases hinf : P.info? e with
      | none => simp [hinf] at hs
      | some inf =>
        cases hsc : scalar P e with
        | false => simp [hsc] at hs
        | true =>
          simp [hsc, hinf] at hs
          obtain ⟨rfl, hsz⟩ := hs
          have hagg : (isAgg e).run P w = .ok false w := by
            unfold scalar at hsc
            cases hue : P.underlying e with
            | none => simp [hue] at hsc
            | some de => cases de <;> simp [hue] at hsc <;> simp [isAgg, run_underlying hue]
          simp [execOp, ha.ev hx, ha.ev hy, Instr.index, run_underlying hu, asIntOf, h0, h1, sizeOf, typeInfo, hinf, hsz, part, hagg, hv]
theorem WL.indexA {cs : Array Value} {kd : IntKind} {m : Nat} (hs : elemSizeA P t = some (m, 1)) (hx : ev σ x = some (.agg cs)) (hy : ev σ y = some (.int kd i)) (h0 : 0 ≤ i) (h1 : i < m) (hv : cs[i.toNat]? = some v) (k : WL P n ops Q rest ((d, v) :: σ) w) (hd : d < n := by decide) : WL P n ops Q (⟨some d, .index t x y, ty, pos, aft, none⟩ :: rest) σ w := .ofRn (.indexA hs hx hy h0 h1 hv) k hd
theorem Rn.convF {src dst : Nat} {kd : IntKind} (hs : (P.underlying src).isSome = true) (hdst : P.underlying dst = some (.float .f64)) (hx : ev σ x = some (.int kd i)) : Rn P n σ (⟨some d, .convert src dst x, ty, pos, aft, none⟩ : Oper) w (.float .f64 (fb i)) := fun a ha => by
  obtain ⟨ds, hds⟩ := Option.isSome_iff_exists.mp hs
  simp [execOp, ha.ev hx, Go.convert, run_underlying hds, run_underlying hdst, Conv.intToFloat, fb]
theorem WL.convF {src dst : Nat} {kd : IntKind} (hs : (P.underlying src).isSome = true) (hdst : P.underlying dst = some (.float .f64)) (hx : ev σ x = some (.int kd i)) (k : WL P n ops Q rest ((d, .float .f64 (fb i)) :: σ) w) (hd : d < n := by decide) : WL P n ops Q (⟨some d, .convert src dst x, ty, pos, aft, none⟩ :: rest) σ w := .ofRn (.convF hs hdst hx) k hd
theorem Rn.cplx {ats : Array TypeId} (hx : ev σ x = some (.float .f64 a)) (hy : ev σ y = some (.float .f64 b)) : Rn P n σ (⟨some d, .call { callee := .builtin .complex, args := #[x, y], argTypes := ats }, ty, pos, aft, none⟩ : Oper) w (.complex .f64 a b) := fun q ha => by
  have hb : Builtin.complex_ ats ty #[.float .f64 a, .float .f64 b] = pure (.complex .f64 a b) := rfl
  simp [execOp, resolve, invoke, builtin, ha.ev hx, ha.ev hy, hb]
theorem WL.cplx {ats : Array TypeId} (hx : ev σ x = some (.float .f64 a)) (hy : ev σ y = some (.float .f64 b)) (k : WL P n ops Q rest ((d, .complex .f64 a b) :: σ) w) (hd : d < n := by decide) : WL P n ops Q (⟨some d, .call { callee := .builtin .complex, args := #[x, y], argTypes := ats }, ty, pos, aft, none⟩ :: rest) σ w := .ofRn (.cplx hx hy) k hd
theorem Rn.real {ats : Array TypeId} (hx : ev σ x = some (.complex .f64 a b)) : Rn P n σ (⟨some d, .call { callee := .builtin .real, args := #[x], argTypes := ats }, ty, pos, aft, none⟩ : Oper) w (.float .f64 a) := fun q ha => by
  have hb : Builtin.real_ ats ty #[.complex .f64 a b] = pure (.float .f64 a) := rfl
  simp [execOp, resolve, invoke, builtin, ha.ev hx, hb]
theorem WL.real {ats : Array TypeId} (hx : ev σ x = some (.complex .f64 a b)) (k : WL P n ops Q rest ((d, .float .f64 a) :: σ) w) (hd : d < n := by decide) : WL P n ops Q (⟨some d, .call { callee := .builtin .real, args := #[x], argTypes := ats }, ty, pos, aft, none⟩ :: rest) σ w := .ofRn (.real hx) k hd
theorem Rn.imag {ats : Array TypeId} (hx : ev σ x = some (.complex .f64 a b)) : Rn P n σ (⟨some d, .call { callee := .builtin .imag, args := #[x], argTypes := ats }, ty, pos, aft, none⟩ : Oper) w (.float .f64 b) := fun q ha => by
  have hb : Builtin.imag_ ats ty #[.complex .f64 a b] = pure (.float .f64 b) := rfl
  simp [execOp, resolve, invoke, builtin, ha.ev hx, hb]
theorem WL.imag {ats : Array TypeId} (hx : ev σ x = some (.complex .f64 a b)) (k : WL P n ops Q rest ((d, .float .f64 b) :: σ) w) (hd : d < n := by decide) : WL P n ops Q (⟨some d, .call { callee := .builtin .imag, args := #[x], argTypes := ats }, ty, pos, aft, none⟩ :: rest) σ w := .ofRn (.imag hx) k hd
theorem Rn.feq (hx : ev σ x = some (.float .f64 a)) (hy : ev σ y = some (.float .f64 b)) : Rn P n σ (⟨some d, .binOp .eql t x y u, ty, pos, aft, none⟩ : Oper) w (.bool (fe a b)) := fun q ha => by
  simp [execOp, ha.ev hx, ha.ev hy, eqGuard_at_float, binOp, Op.floatCmp, fe]
theorem WL.feq (hx : ev σ x = some (.float .f64 a)) (hy : ev σ y = some (.float .f64 b)) (k : WL P n ops Q rest ((d, .bool (fe a b)) :: σ) w) (hd : d < n := by decide) : WL P n ops Q (⟨some d, .binOp .eql t x y u, ty, pos, aft, none⟩ :: rest) σ w := .ofRn (.feq hx hy) k hd
theorem Rn.fne (hx : ev σ x = some (.float .f64 a)) (hy : ev σ y = some (.float .f64 b)) : Rn P n σ (⟨some d, .binOp .neq t x y u, ty, pos, aft, none⟩ : Oper) w (.bool (!fe a b)) := fun q ha => by
  simp [execOp, ha.ev hx, ha.ev hy, eqGuard_at_float, binOp, Op.floatCmp, fe, bne]
theorem WL.fne (hx : ev σ x = some (.float .f64 a)) (hy : ev σ y = some (.float .f64 b)) (k : WL P n ops Q rest ((d, .bool (!fe a b)) :: σ) w) (hd : d < n := by decide) : WL P n ops Q (⟨some d, .binOp .neq t x y u, ty, pos, aft, none⟩ :: rest) σ w := .ofRn (.fne hx hy) k hd
theorem run_floatCmp_eq (w : World) : (Op.Complex.cmp .eql .f64 a b).run P w = .ok (fe a b) w := by simp [Op.Complex.cmp, Op.floatCmp, asBool, fe]
theorem Rn.ceq (hx : ev σ x = some (.complex .f64 a b)) (hy : ev σ y = some (.complex .f64 c e)) : Rn P n σ (⟨some d, .binOp .eql t x y u, ty, pos, aft, none⟩ : Oper) w (.bool (fe a c && fe b e)) := fun q ha => by
  simp [execOp, ha.ev hx, ha.ev hy, eqGuard_at_complex, binOp, Op.complexOp, run_floatCmp_eq]
theorem WL.ceq (hx : ev σ x = some (.complex .f64 a b)) (hy : ev σ y = some (.complex .f64 c e)) (k : WL P n ops Q rest ((d, .bool (fe a c && fe b e)) :: σ) w) (hd : d < n := by decide) : WL P n ops Q (⟨some d, .binOp .eql t x y u, ty, pos, aft, none⟩ :: rest) σ w := .ofRn (.ceq hx hy) k hd
theorem Rn.cne (hx : ev σ x = some (.complex .f64 a b)) (hy : ev σ y = some (.complex .f64 c e)) : Rn P n σ (⟨some d, .binOp .neq t x y u, ty, pos, aft, none⟩ : Oper) w (.bool (!(fe a c && fe b e))) := fun q ha => by
  simp [execOp, ha.ev hx, ha.ev hy, eqGuard_at_complex, binOp, Op.complexOp, run_floatCmp_eq]
theorem WL.cne (hx : ev σ x = some (.complex .f64 a b)) (hy : ev σ y = some (.complex .f64 c e)) (k : WL P n ops Q rest ((d, .bool (!(fe a c && fe b e))) :: σ) w) (hd : d < n := by decide) : WL P n ops Q (⟨some d, .binOp .neq t x y u, ty, pos, aft, none⟩ :: rest) σ w := .ofRn (.cne hx hy) k hd
theorem nan_none (k : Nat) (hk : 0x7ff0000000000000 < k % 0x8000000000000000) : ∀ z, fe z k = false ∧ fe k z = false := by
  intro z
  have hr : ∃ s t, FloatKind.f64.format.read k = .nan s t := by
    have e1 : FloatKind.f64.format.signWeight = 0x8000000000000000 := by decide
    have e2 : FloatKind.f64.format.binade = 0x10000000000000 := by decide
    have e3 : FloatKind.f64.format.infRung = 0x7ff0000000000000 := by decide
    unfold Ieee.Format.read
    rw [e1, e2, e3]
    simp only []
    rw [if_neg (by omega), if_neg (by omega), if_neg (by omega)]
    exact ⟨_, _, rfl⟩
  obtain ⟨s, t, hr⟩ := hr
  unfold fe Ieee.Format.order
  rw [hr]
  cases FloatKind.f64.format.read z <;> exact ⟨rfl, rfl⟩
theorem fe_self {c s : Nat} (h : fe c s = true) : fe s s = true := by
  unfold fe Ieee.Format.order at *
  revert h
  cases FloatKind.f64.format.read s with
  | nan a b => cases FloatKind.f64.format.read c <;> intro h <;> simp [Ieee.Datum.order] at h
  | infinity a => intro _; simp [Ieee.Datum.order]
  | number a m i => intro _; simp [Ieee.Datum.order]
theorem run_arith_add (x y : Nat) (w : World) : ∃ r w', (Op.Complex.arith .add .f64 x y).run P w = .ok r w' ∧ FAdd x y r ∧ Ext w w' := by
  cases h : FloatKind.f64.format.add x y with
  | some r => exact ⟨r, w, by simp [Op.Complex.arith, Op.floatArith, h], .inl h, Stp.refl _ _⟩
  | none =>
    refine ⟨_, w.drew, by simp [Op.Complex.arith, Op.floatArith, h, choose, Sem.run, Question.forced]; rfl, .inr ⟨h, nan_none _ ?_⟩, Ext.drew w⟩
    simp only [Question.cut]
    generalize w.tape w.drawn (Question.nanBits FloatKind.f64 x y) = t
    have h1 : t / 2 % (2 ^ 52 - 1) < 2 ^ 52 - 1 := Nat.mod_lt _ (by decide)
    have h2 : t % 2 < 2 := Nat.mod_lt _ (by decide)
    generalize t / 2 % (2 ^ 52 - 1) = f at *
    generalize t % 2 = s at *
    have h3 : s = 0 ∨ s = 1 := by omega
    rcases h3 with rfl | rfl
    · omega
    · omega
theorem WL.cadd (hx : ev σ x = some (.complex .f64 a b)) (hy : ev σ y = some (.complex .f64 c e)) (k : ∀ r s w', FAdd a c r → FAdd b e s → Ext w w' → WL P n ops Q rest ((d, .complex .f64 r s) :: σ) w') (hd : d < n := by decide) : WL P n ops Q (⟨some d, .binOp .add t x y u, ty, pos, aft, none⟩ :: rest) σ w := by
  obtain ⟨r, w1, h1, h2, h3⟩ := run_arith_add (P := P) a c w
  obtain ⟨s, w2, h4, h5, h6⟩ := run_arith_add (P := P) b e w1
  refine .val rfl rfl hd (w' := w2) (fun q ha => ?_) (k r s w2 h2 h5 (h3.trans h6))
  simp [execOp, ha.ev hx, ha.ev hy, eqGuard_at_complex, binOp, Op.complexOp, h1, h4]
end floats

/-! ### More readers -/
section more
variable {P : Program} {n : Nat} {ops : Array Oper} {Q : Post} {rest : List Oper} {σ : St} {w : World}
variable {ty d t u : Nat} {pos : String} {aft : Array Edge} {x y : Operand} {v : Value} {i j : Int} {kd : IntKind} {b c : Bool}
theorem Rn.rn {o : Oper} (h : Rn P n σ o w v) : Rn P n σ o w v := h
theorem WL.rn {o : Op} (h : Rn P n σ ⟨some d, o, ty, pos, aft, none⟩ w v) (k : WL P n ops Q rest ((d, v) :: σ) w) (hd : d < n := by decide) : WL P n ops Q (⟨some d, o, ty, pos, aft, none⟩ :: rest) σ w := .ofRn h k hd
theorem wrapU8 {i : Int} (h0 : 0 ≤ i) (h1 : i ≤ 255) : IntKind.u8.wrap i = i := IntWalk.u8_in _ ⟨h0, h1⟩
theorem Rn.addk (hx : ev σ x = some (.int kd i)) (hy : ev σ y = some (.int kd j)) (hw : kd.wrap (i + j) = i + j) : Rn P n σ (⟨some d, .binOp .add t x y u, ty, pos, aft, none⟩ : Oper) w (.int kd (i + j)) := .bin hx hy (by simp [binOp_add, Op.intArith, hw])
theorem WL.addk (hx : ev σ x = some (.int kd i)) (hy : ev σ y = some (.int kd j)) (hw : kd.wrap (i + j) = i + j) (k : WL P n ops Q rest ((d, .int kd (i + j)) :: σ) w) (hd : d < n := by decide) : WL P n ops Q (⟨some d, .binOp .add t x y u, ty, pos, aft, none⟩ :: rest) σ w := .ofRn (.addk hx hy hw) k hd
theorem Rn.beq (hx : ev σ x = some (.bool b)) (hy : ev σ y = some (.bool c)) (ht : P.underlying t = some .bool := by rfl) : Rn P n σ (⟨some d, .binOp .eql t x y u, ty, pos, aft, none⟩ : Oper) w (.bool (b == c)) := fun a ha => by
  simp [execOp, ha.ev hx, ha.ev hy, eqGuard_at_bool, binOp, Op.equal, Op.maxDepth, run_equalIn_bool' _ _ _ _ _ ht]
theorem Rn.bne (hx : ev σ x = some (.bool b)) (hy : ev σ y = some (.bool c)) (ht : P.underlying t = some .bool := by rfl) : Rn P n σ (⟨some d, .binOp .neq t x y u, ty, pos, aft, none⟩ : Oper) w (.bool (b != c)) := fun a ha => by
  simp [execOp, ha.ev hx, ha.ev hy, eqGuard_at_bool, binOp, Op.equal, Op.maxDepth, run_equalIn_bool' _ _ _ _ _ ht, bne]
  cases b <;> cases c <;> rfl
theorem WL.beq (hx : ev σ x = some (.bool b)) (hy : ev σ y = some (.bool c)) (ht : P.underlying t = some .bool) (k : WL P n ops Q rest ((d, .bool (b == c)) :: σ) w) (hd : d < n := by decide) : WL P n ops Q (⟨some d, .binOp .eql t x y u, ty, pos, aft, none⟩ :: rest) σ w := .ofRn (.beq hx hy ht) k hd
theorem WL.bne (hx : ev σ x = some (.bool b)) (hy : ev σ y = some (.bool c)) (ht : P.underlying t = some .bool) (k : WL P n ops Q rest ((d, .bool (b != c)) :: σ) w) (hd : d < n := by decide) : WL P n ops Q (⟨some d, .binOp .neq t x y u, ty, pos, aft, none⟩ :: rest) σ w := .ofRn (.bne hx hy ht) k hd
end more
/-! ### Searches -/
theorem find_hit {α : Type} {p : α → Bool} : ∀ {l : List α} {i : Nat} (hi : i < l.length), (l.take i).find? p = none → p l[i] = true → l.find? p = some l[i]
  | [], _, hi, _, _ => by simp at hi
  | a :: l, 0, _, _, hp => by simp at hp; simp [hp]
  | a :: l, i + 1, hi, hn, hp => by
    simp only [List.take_succ_cons, List.find?_cons] at hn ⊢
    cases h : p a with
    | true => simp [h] at hn
    | false =>
      simp only [h] at hn ⊢
      have := find_hit (l := l) (i := i) (by simpa using hi) hn (by simpa using hp)
      simpa using this
theorem find_next {α : Type} {p : α → Bool} {l : List α} {i : Nat} (hi : i < l.length) (hn : (l.take i).find? p = none) (hp : p l[i] = false) : (l.take (i + 1)).find? p = none := by
  rw [List.take_succ_eq_append_getElem hi, List.find?_append, hn]
  simp [hp]
theorem find_end {α : Type} {p : α → Bool} {l : List α} {i : Nat} (hi : l.length ≤ i) (hn : (l.take i).find? p = none) : l.find? p = none := by
  rwa [List.take_of_length_le hi] at hn
/-! ### Slices told by way of more -/
theorem SlD.map {α β : Type} {R : ER α} {f : β → α} {sz : Nat} {w : World} {M : MS} {A : Option Addr} {c : Nat} {xs : List β} (h : SlD R sz w M A c (xs.map f)) : SlD (fun w M cs x => R w M cs (f x)) sz w M A c xs :=
  ⟨by simpa using h.cap, by simpa using h.lim, h.nil, fun j x hx => h.el j (f x) (by rw [List.getElem?_map, hx]; rfl)⟩
theorem Sl.map {α β : Type} {R : ER α} {f : β → α} {sz : Nat} {w : World} {M : MS} {v : Value} {xs : List β} (h : Sl R sz w M v (xs.map f)) : Sl (fun w M cs x => R w M cs (f x)) sz w M v xs := by
  obtain ⟨A, c, hv, hd⟩ := h
  exact ⟨A, c, by simpa using hv, hd.map⟩
instance {α β : Type} {R : ER α} [Stable R] {f : β → α} : Stable (fun w M cs (x : β) => R w M cs (f x)) := ⟨fun h u => Stable.up (R := R) h u, fun h => Stable.one (R := R) h⟩
/-- Two lists, told element by element. -/
inductive A2 {α β : Type} (r : α → β → Prop) : List α → List β → Prop
  | nil : A2 r [] []
  | cons {a : α} {b : β} {l : List α} {m : List β} : r a b → A2 r l m → A2 r (a :: l) (b :: m)
theorem A2.get {α β : Type} {r : α → β → Prop} {l : List α} {m : List β} (h : A2 r l m) : ∀ {j : Nat} {b : β}, m[j]? = some b → ∃ a, l[j]? = some a ∧ r a b := by
  induction h with
  | nil => intro j b hb; simp at hb
  | cons h0 _ ih =>
    intro j b hb
    cases j with
    | zero => simp at hb; subst hb; exact ⟨_, rfl, h0⟩
    | succ j => simpa using ih (by simpa using hb)
theorem A2.mem {α β : Type} {r : α → β → Prop} {l : List α} {m : List β} (h : A2 r l m) : ∀ {a : α}, a ∈ l → ∃ b, r a b := by
  induction h with
  | nil => intro a ha; simp at ha
  | cons h0 _ ih =>
    intro a ha
    rcases List.mem_cons.1 ha with rfl | ha
    · exact ⟨_, h0⟩
    · exact ih ha
theorem Bk.sl2 {α : Type} {R : ER α} {sz : Nat} {w : World} {M : MS} {g e : Nat} {css : List (List Value)} {ys : List α} (hb : Bk w g e css.flatten) (hR : A2 (fun cs y => cs.length = sz ∧ R w M cs y) css ys) (hn : ¬ M g) (hl : ys.length ≤ 9223372036854775807) :
    SlD R sz w M (some ⟨g, 0, none⟩) ys.length ys := by
  refine ⟨Nat.le_refl _, hl, fun h => by simp at h, fun j x hx => ?_⟩
  obtain ⟨cs, hcs, hsz, hr⟩ := hR.get hx
  refine ⟨⟨g, 0, none⟩, cs, rfl, hsz, ⟨fun _ => ⟨by rw [Addr.add_block]; exact hb.lt, by rw [Addr.add_block]; exact hn⟩, fun i u hu => ?_⟩, hr⟩
  rw [Addr.add_add, Addr.add_lit, Nat.zero_add]
  exact hb.cell (flatten_get (sz := sz) (fun cs hcs => (hR.mem hcs).elim fun _ h => h.1) hcs hu)
theorem Bk.ints {w : World} {M : MS} {g e : Nat} {xs : List Int} (hb : Bk w g e (xs.map (Value.int .i64))) (hr : ∀ x ∈ xs, I64 x) (hn : ¬ M g) (hl : xs.length ≤ 9223372036854775807) : SlD IntR 1 w M (some ⟨g, 0, none⟩) xs.length xs :=
  Bk.sl (R := IntR) (sz := 1) (fun x => [Value.int .i64 x]) (by rwa [List.flatten_eq_flatMap, List.flatMap_map, show (xs.flatMap fun x => id [Value.int .i64 x]) = xs.map (Value.int .i64) from List.map_eq_flatMap.symm]) (fun x hx => ⟨rfl, rfl, hr x hx⟩) hn hl
theorem Bk.bytes {w : World} {M : MS} {g e : Nat} {xs : List Int} (hb : Bk w g e (xs.map (Value.int .u8))) (hr : ∀ x ∈ xs, 0 ≤ x ∧ x ≤ 255) (hn : ¬ M g) (hl : xs.length ≤ 9223372036854775807) : SlD ByteR 1 w M (some ⟨g, 0, none⟩) xs.length xs :=
  Bk.sl (R := ByteR) (sz := 1) (fun x => [Value.int .u8 x]) (by rwa [List.flatten_eq_flatMap, List.flatMap_map, show (xs.flatMap fun x => id [Value.int .u8 x]) = xs.map (Value.int .u8) from List.map_eq_flatMap.symm]) (fun x hx => ⟨rfl, rfl, hr x hx⟩) hn hl
/-! ### Pieces of slices -/
section cut
variable {α : Type} {R : ER α} {sz : Nat} {w : World} {M : MS} {A : Option Addr} {c : Nat} {xs : List α}
/-- xs[:i], and the rule that makes it. -/
theorem SlD.cutH (h : SlD R sz w M A c xs) {i : Int} (h0 : 0 ≤ i) (h1 : i ≤ xs.length) : ∃ A' c',
    (∀ {P : Program} {n : Nat} {σ : St} {d t ty : Nat} {pos : String} {aft : Array Edge} {x y : Operand} {w' : World} {kd : IntKind}, elemSize P t = some sz → ev σ x = some (.slice A xs.length c) → ev σ y = some (.int kd i) →
      Rn P n σ ⟨some d, .slice t x none (some y) none, ty, pos, aft, none⟩ w' (.slice A' (xs.take i.toNat).length c')) ∧ SlD R sz w M A' c' (xs.take i.toNat) ∧ ((xs.take i.toNat).length : Int) = i := by
  obtain ⟨k, rfl⟩ : ∃ k : Nat, i = k := ⟨i.toNat, by omega⟩
  have hc := h.cap
  have hl : (xs.take k).length = k := by simp; omega
  have hs := h.slice (lo := 0) (hi := k) (Nat.zero_le _) (by omega)
  simp only [List.drop_zero, Nat.sub_zero] at hs
  refine ⟨_, _, @fun P n σ d t ty pos aft x y w' kd h2 hx hy => ?_, hs, by simp; omega⟩
  have := Rn.sliceH (P := P) (n := n) (σ := σ) (d := d) (ty := ty) (pos := pos) (aft := aft) (w := w') h2 hx hy (by omega)
  simpa [hl, Int.toNat_natCast] using this
/-- xs[i:] -/
theorem SlD.cutL (h : SlD R sz w M A c xs) {i : Int} (h0 : 0 ≤ i) (h1 : i ≤ xs.length) : ∃ A' c',
    (∀ {P : Program} {n : Nat} {σ : St} {d t ty : Nat} {pos : String} {aft : Array Edge} {x y : Operand} {w' : World} {kd : IntKind}, elemSize P t = some sz → ev σ x = some (.slice A xs.length c) → ev σ y = some (.int kd i) →
      Rn P n σ ⟨some d, .slice t x (some y) none none, ty, pos, aft, none⟩ w' (.slice A' (xs.drop i.toNat).length c')) ∧ SlD R sz w M A' c' (xs.drop i.toNat) ∧ ((xs.drop i.toNat).length : Int) = xs.length - i := by
  obtain ⟨k, rfl⟩ : ∃ k : Nat, i = k := ⟨i.toNat, by omega⟩
  have hc := h.cap
  have hs := h.slice (lo := k) (hi := xs.length) (by omega) (by omega)
  rw [List.take_of_length_le (by simp)] at hs
  refine ⟨_, _, @fun P n σ d t ty pos aft x y w' kd h2 hx hy => ?_, hs, by simp; omega⟩
  have := Rn.sliceL (P := P) (n := n) (σ := σ) (d := d) (ty := ty) (pos := pos) (aft := aft) (w := w') h2 hx hy (by omega) hc
  simpa [Int.toNat_natCast] using this
/-- xs[i:j] -/
theorem SlD.cutLH (h : SlD R sz w M A c xs) {i j : Int} (h0 : 0 ≤ i) (h1 : i ≤ j) (h2 : j ≤ xs.length) : ∃ A' c',
    (∀ {P : Program} {n : Nat} {σ : St} {d t ty : Nat} {pos : String} {aft : Array Edge} {x y z : Operand} {w' : World} {kd kd' : IntKind}, elemSize P t = some sz → ev σ x = some (.slice A xs.length c) → ev σ y = some (.int kd i) → ev σ z = some (.int kd' j) →
      Rn P n σ ⟨some d, .slice t x (some y) (some z) none, ty, pos, aft, none⟩ w' (.slice A' ((xs.drop i.toNat).take (j.toNat - i.toNat)).length c')) ∧ SlD R sz w M A' c' ((xs.drop i.toNat).take (j.toNat - i.toNat)) ∧ (((xs.drop i.toNat).take (j.toNat - i.toNat)).length : Int) = j - i := by
  obtain ⟨k, rfl⟩ : ∃ k : Nat, i = k := ⟨i.toNat, by omega⟩
  obtain ⟨l, rfl⟩ : ∃ l : Nat, j = l := ⟨j.toNat, by omega⟩
  have hc := h.cap
  have hl : ((xs.drop k).take (l - k)).length = l - k := by simp; omega
  have hs := h.slice (lo := k) (hi := l) (by omega) (by omega)
  refine ⟨_, _, @fun P n σ d t ty pos aft x y z w' kd kd' h2 hx hy hz => ?_, by simpa using hs, by simp only [Int.toNat_natCast]; omega⟩
  have := Rn.sliceLH (P := P) (n := n) (σ := σ) (d := d) (ty := ty) (pos := pos) (aft := aft) (w := w') h2 hx hy hz (by omega) (by omega)
  simpa [hl, Int.toNat_natCast] using this
end cut
theorem map_take_succ {α β : Type} (f : α → β) {l : List α} {k : Nat} (h : k < l.length) : (l.take (k + 1)).map f = (l.take k).map f ++ [f l[k]] := by
  rw [List.take_succ_eq_append_getElem h, List.map_append]; rfl
/-! ### Variables of ours, that are written -/
theorem Ext.addVar {w w1 : World} {M : MS} {g e : Nat} {cs : List Value} (he : Ext w w1) (hm : MB w M) (hg : w.heap.size ≤ g) (hb : Bk w1 g e cs) : ∃ M1 : MS, Up w M w1 M1 ∧ M1 g ∧ (∀ k, M k → M1 k) ∧ (∀ k, M1 k → M k ∨ k = g) :=
  ⟨fun k => M k ∨ k = g, ⟨Stp.mono he fun _ _ hk => hk.elim, fun k hk => hk.elim .inl fun h => .inr (by rw [h]; exact hg), fun k hk => hk.elim (hm.stp he k) fun h => by rw [h]; exact hb.lt⟩, .inr rfl, fun _ h => .inl h, fun _ h => h⟩
theorem Stp.var {w w1 : World} {M : MS} {g : Nat} (hs : Stp w w1 fun k => k = g) (hm : MB w M) (hg : M g) : Up w M w1 M := Stp.up hs hm fun k _ hk => by rw [hk]; exact hg
theorem Own.apartBk {α : Type} {R : ER α} {sz e B : Nat} {w : World} {M : MS} {v : Value} {xs : List α} {g e' : Nat} {cs : List Value} (h : Own R sz e w M B v xs) (hb : Bk w g e' cs) (hne : e ≠ e') : ¬ v.ownBlock = some g := by
  intro hk
  obtain ⟨_, _, _, _, ho, _, _⟩ := h
  rcases ho.2 with ⟨rfl, _⟩ | ⟨g', cap, cur, rfl, _, hg, _⟩
  · simp [Value.ownBlock] at hk
  · simp only [Value.ownBlock, Option.some.injEq] at hk
    subst hk
    unfold Bk at hb
    rw [hb] at hg
    injection hg with hg
    injection hg with _ ht
    exact hne ht.symm
theorem Own.read00 {α : Type} {R : ER α} [Stable R] {sz e B n c : Nat} {A : Option Addr} {w : World} {M : MS} {xs : List α} (h : Own R sz e w M B (.slice A n c) xs) (hm : MB w M) : SlD R sz w (fun _ => False) A c xs := by
  obtain ⟨A', c', hv, hD⟩ := Own.read (M' := fun _ => False) h hm (fun _ h => h.elim) (fun _ _ h => h)
  cases hv
  exact hD
theorem SlD.none {α : Type} {R : ER α} [Stable R] {sz c : Nat} {A : Option Addr} {w : World} {M : MS} {xs : List α} (h : SlD R sz w M A c xs) (hm : MB w M) : SlD R sz w (fun _ => False) A c xs := h.up (Up.here hm fun _ h => h.elim)
theorem foldl_take_succ {α β : Type} (f : β → α → β) (a : β) {l : List α} {k : Nat} (h : k < l.length) : (l.take (k + 1)).foldl f a = f ((l.take k).foldl f a) l[k] := by
  rw [List.take_succ_eq_append_getElem h, List.foldl_append]; rfl
theorem Bk.own {α : Type} {R : ER α} {sz e B g : Nat} {w : World} {M : MS} {css : List (List Value)} {ys : List α} (hb : Bk w g e css.flatten) (hR : A2 (fun cs y => cs.length = sz ∧ R w M cs y) css ys) (hB : B ≤ g) (hM : M g) (hl : ys.length ≤ 140737488355328) :
    Own R sz e w M B (.slice (some ⟨g, 0, none⟩) ys.length ys.length) ys := by
  have hlen : css.length = ys.length := by
    clear hb hl
    induction hR with
    | nil => rfl
    | cons _ _ ih => simp [ih]
  have hsz : ∀ cs ∈ css, cs.length = sz := fun cs hcs => (hR.mem hcs).elim fun _ h => h.1
  have hfl : ∀ l : List (List Value), (∀ cs ∈ l, cs.length = sz) → l.flatten.length = l.length * sz := by
    intro l
    induction l with
    | nil => intro _; simp
    | cons c r ih => intro h; simp only [List.flatten_cons, List.length_append, List.length_cons, ih (fun x hx => h x (by simp [hx])), h c (by simp), Nat.add_mul]; omega
  refine ⟨css, hlen, hsz, fun j x cs hx hc => ?_, ⟨by rw [hfl css hsz, hlen], .inr ⟨g, ys.length, css.flatten.toArray, rfl, hB, hb, Nat.le_refl _, Nat.le_trans hl (Nat.le_of_ble_eq_true rfl), by simp only [List.size_toArray]; rw [hfl css hsz, hlen], ?_⟩⟩, hl, fun k hk => ?_⟩
  · obtain ⟨cs', h1, h2⟩ := hR.get hx
    rw [hc] at h1
    cases h1
    exact h2.2
  · have := hfl css hsz
    rw [hlen] at this
    exact List.take_of_length_le (by simp only [List.toList_toArray] at *; omega)
  · simp only [Value.ownBlock, Option.some.injEq] at hk
    rw [← hk]; exact hM
section snil
variable {P : Program} {n : Nat} {σ : St} {w : World} {ty d t u e : Nat} {pos : String} {aft : Array Edge} {x : Operand} {A : Option Addr} {m c : Nat}
theorem Rn.snil (ht : P.underlying t = some (.slice e)) (hx : ev σ x = some (.slice A m c)) : Rn P n σ (⟨some d, .binOp .eql t x (.const (.slice none 0 0)) u, ty, pos, aft, none⟩ : Oper) w (.bool A.isNone) := fun a ha => by
  have hc : a.eval (.const (.slice none 0 0)) = .slice none 0 0 := rfl
  simp [execOp, ha.ev hx, hc, eqGuard_at_slice, Lib.run_eql_slice_nil w t e A m c 0 0 ht]
end snil
/-! ### A store into an element of a slice of ours -/
theorem flatten_set {α : Type} {sz : Nat} (u : α) : ∀ {css : List (List α)} (_ : ∀ cs ∈ css, cs.length = sz) {i off : Nat} {cs : List α}, css[i]? = some cs → off < sz → (css.set i (cs.set off u)).flatten = css.flatten.set (i * sz + off) u
  | [], _, i, off, cs, h, _ => by simp at h
  | c :: r, hl, 0, off, cs, h, ho => by
    have : c = cs := by simpa using h
    subst this
    have hc := hl c (by simp)
    simp only [List.set_cons_zero, List.flatten_cons, Nat.zero_mul, Nat.zero_add]
    rw [List.set_append_left _ _ (by omega)]
  | c :: r, hl, i + 1, off, cs, h, ho => by
    have hc := hl c (by simp)
    have ih := flatten_set (sz := sz) u (css := r) (fun x hx => hl x (by simp [hx])) (i := i) (off := off) (cs := cs) (by simpa using h) ho
    simp only [List.set_cons_succ, List.flatten_cons]
    rw [ih, List.set_append_right _ _ (by rw [hc, Nat.add_mul]; omega), hc, Nat.add_mul]
    congr 2
    omega
/-- A store over one cell of an element of a slice of ours. -/
theorem WL.storeOwn {α : Type} {R : ER α} [Stable R] {P : Program} {n : Nat} {ops : Array Oper} {Q : Post} {rest : List Oper} {σ : St} {w : World} {ty t : Nat} {pos : String} {aft : Array Edge} {x y : Operand}
    {sz e B len c i off : Nat} {A : Option Addr} {ad : Addr} {M : MS} {xs : List α} {u : Value} {x' : α}
    (hO : Own R sz e w M B (.slice A len c) xs) (hA : A = some ad) (hm : MB w M) (hi : i < xs.length) (ho : off < sz)
    (hs : (tinfo P t).map (·.2.1) = some 1) (hx : ev σ x = some (.pointer (some ((ad.add (i * sz)).add off)))) (hy : ev σ y = some u) (h1 : u.oneCell' = true)
    (hR : ∀ w' cs, R w' M cs xs[i] → R w' M (cs.set off u) x')
    (k : ∀ w', Own R sz e w' M B (.slice A len c) (xs.set i x') → Stp w w' (fun k => (Value.slice A len c).ownBlock = some k) → Up w M w' M → WL P n ops Q rest σ w') :
    WL P n ops Q (⟨none, .store t x y, ty, pos, aft, none⟩ :: rest) σ w := by
  subst hA
  obtain ⟨css, o1, o2, o3, ⟨o4, o5⟩, o6, o7⟩ := hO
  rcases o5 with ⟨h, _⟩ | ⟨g, cap, cur, hv, hB, hg, hnc, hcm, hcs, htk⟩
  · cases h
  · cases hv
    have hb : Bk w g e cur.toList := hg
    have hlt : i * sz + off < css.flatten.length := by
      rw [o4]
      have : (i + 1) * sz ≤ xs.length * sz := Nat.mul_le_mul_right _ hi
      rw [Nat.add_mul] at this
      omega
    have hcur : i * sz + off < cur.toList.length := by
      have := congrArg List.length htk
      rw [List.length_take] at this
      omega
    have hx' : ev σ x = some (.pointer (some ⟨g, i * sz + off, none⟩)) := by
      rw [hx, Addr.add_add, Addr.add_lit, Nat.zero_add]
    refine WL.store (o := i * sz + off) hs hx' hy h1 hb hcur (fun w' hb' hst => ?_)
    have hi' : i < css.length := by omega
    have hu : Up w M w' M := Stp.up hst hm fun k _ hk => by rw [hk]; exact o7 g rfl
    refine k w' ⟨css.set i (css[i].set off u), by simp [o1], fun cs hcs' => ?_, fun j y' cs hy' hc => ?_, ⟨?_, .inr ⟨g, c, (cur.toList.set (i * sz + off) u).toArray, by simp, hB, hb', by simpa using hnc, hcm, by simpa using hcs, ?_⟩⟩, by simpa using o6, o7⟩ (hst.mono fun k _ hk => by rw [hk]; rfl) hu
    · rcases List.mem_or_eq_of_mem_set hcs' with h | h
      · exact o2 cs h
      · rw [h]; simpa using o2 _ (List.getElem_mem hi')
    · by_cases hj : i = j
      · subst hj
        rw [List.getElem?_set_self hi] at hy'
        rw [List.getElem?_set_self hi'] at hc
        cases hy'; cases hc
        exact hR w' _ (Stable.up (o3 i xs[i] css[i] (List.getElem?_eq_getElem hi) (List.getElem?_eq_getElem hi')) hu)
      · rw [List.getElem?_set_ne hj] at hy' hc
        exact Stable.up (o3 j y' cs hy' hc) hu
    · rw [flatten_set u o2 (List.getElem?_eq_getElem hi') ho]; simp [o4]
    · rw [flatten_set u o2 (List.getElem?_eq_getElem hi') ho]
      simp only [List.length_set]
      rw [← htk]
      exact List.take_set ..
end Go.Proofs.Ytgbajkdomcmblaa.Vc
