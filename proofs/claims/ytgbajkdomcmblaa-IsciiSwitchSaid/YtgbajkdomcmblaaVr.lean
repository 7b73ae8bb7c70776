/- Resources: what may be written, each by its own blocks; steps that write one of them; calls of methods behind interfaces. -/
import Derived.Test.YtgbajkdomcmblaaVc
import Derived.WideLaws
set_option linter.unusedVariables false
set_option linter.unusedSimpArgs false
namespace Go.Proofs.Ytgbajkdomcmblaa.Vc
open Go Go.RowKit
/-- The block of a slice of ours. -/
abbrev ob (v : Value) : MS := fun k => v.ownBlock = some k
/-- The block of a variable of ours. -/
abbrev vb (g : Nat) : MS := fun k => k = g
abbrev NoM : MS := fun _ => False
abbrev Dj (S T : MS) : Prop := ∀ k, S k → ¬ T k
abbrev Ms (S M : MS) : Prop := ∀ k, S k → M k
/-- The blocks are of X or, from n on, new. -/
abbrev Wr (n : Nat) (X S : MS) : Prop := ∀ k, S k → X k ∨ n ≤ k
section sets
variable {S S' T X M M' : MS} {w w' w0 : World} {n : Nat}
theorem Dj.symm (h : Dj S T) : Dj T S := fun k ht hs => h k hs ht
theorem Dj.no (T : MS) : Dj NoM T := fun _ h => h.elim
theorem Ms.no (M : MS) : Ms NoM M := fun _ h => h.elim
theorem Dj.grow (hd : Dj S T) (hn : Wr w.heap.size S S') (ht : Ms T M) (hm : MB w M) : Dj S' T := fun k hk hT => (hn k hk).elim (fun h => hd k h hT) fun h => by have := hm k (ht k hT); omega
theorem Dj.fresh (hS : ∀ k, S k → w.heap.size ≤ k) (ht : Ms T M) (hm : MB w M) : Dj S T := fun k hk hT => by have := hm k (ht k hT); have := hS k hk; omega
theorem Wr.grow (h : Wr n X S) (hn : Wr w.heap.size S S') (hs : n ≤ w.heap.size) : Wr n X S' := fun k hk => (hn k hk).elim (h k) fun hle => .inr (Nat.le_trans hs hle)
theorem Wr.fresh (X : MS) (hS : ∀ k, S k → w.heap.size ≤ k) (hs : n ≤ w.heap.size) : Wr n X S := fun k hk => .inr (Nat.le_trans hs (hS k hk))
theorem Ge.grow {S S' : MS} {n : Nat} (h : ∀ k, S k → n ≤ k) (hn : Wr w.heap.size S S') (hs : n ≤ w.heap.size) : ∀ k, S' k → n ≤ k := fun k hk => (hn k hk).elim (h k) fun hle => Nat.le_trans hs hle
theorem Ge.le {S : MS} {m n : Nat} (h : ∀ k, S k → n ≤ k) (hs : m ≤ n) : ∀ k, S k → m ≤ k := fun k hk => Nat.le_trans hs (h k hk)
theorem Wr.ofFr {S : MS} {n : Nat} (X : MS) (h : ∀ k, S k → n ≤ k) : Wr n X S := fun k hk => .inr (h k hk)
theorem Fr.nil (n : Nat) : ∀ k, ob (.slice none 0 0) k → n ≤ k := fun k h => by have h : (none : Option Nat) = some k := h; cases h
theorem Dj.or {S T U : MS} (h : Dj S T) (h' : Dj S U) : Dj S (fun k => T k ∨ U k) := fun k hk h2 => h2.elim (h k hk) (h' k hk)
theorem Wr.or {n : Nat} {X S T : MS} (h : Wr n X S) (h' : Wr n X T) : Wr n X (fun k => S k ∨ T k) := fun k hk => hk.elim (h k) (h' k)
theorem Ms.or {S T M : MS} (h : Ms S M) (h' : Ms T M) : Ms (fun k => S k ∨ T k) M := fun k hk => hk.elim (h k) (h' k)
theorem Dj.orL {S T U : MS} (h : Dj S U) (h' : Dj T U) : Dj (fun k => S k ∨ T k) U := fun k hk => hk.elim (h k) (h' k)
theorem Fr.or {n : Nat} {S T : MS} (h : ∀ k, S k → n ≤ k) (h' : ∀ k, T k → n ≤ k) : ∀ k, (S k ∨ T k) → n ≤ k := fun k hk => hk.elim (h k) (h' k)
theorem Wr.self (n : Nat) (X : MS) : Wr n X X := fun _ h => .inl h
theorem Wr.nil (n : Nat) (X : MS) : Wr n X (ob (.slice none 0 0)) := fun k h => by have h : (none : Option Nat) = some k := h; cases h
theorem Dj.nil (T : MS) : Dj (ob (.slice none 0 0)) T := fun k h => by have h : (none : Option Nat) = some k := h; cases h
theorem Ms.nil (M : MS) : Ms (ob (.slice none 0 0)) M := fun k h => by have h : (none : Option Nat) = some k := h; cases h
theorem Ms.one {g : Nat} (h : M g) : Ms (vb g) M := fun k hk => by rw [hk]; exact h
theorem Wr.fr (h : Wr n NoM S) : ∀ k, S k → n ≤ k := fun k hk => (h k hk).elim (fun h => h.elim) id
theorem Stp.ext (h : Stp w0 w X) (he : Ext w w') : Stp w0 w' X := Stp.trans h he fun _ hk => hk.elim
theorem Stp.wr (h : Stp w0 w X) (hs : Stp w w' S) (hw : Wr w0.heap.size X S) : Stp w0 w' X := Stp.trans h hs hw
theorem Stp.upM (hs : Stp w w' S) (hm : MB w M) (hx : Ms S M) : Up w M w' M := Stp.up hs hm fun k _ hk => hx k hk
theorem Stp.to (hs : Stp w w' S) (h : Ms S T) : Stp w w' T := hs.mono fun k _ hk => h k hk
theorem Stp.ofNo (hs : Stp w w' NoM) : Ext w w' := hs
/-- One set of blocks less. -/
def less (M S : MS) : MS := fun k => M k ∧ ¬ S k
theorem less_ms (M S : MS) : Ms (less M S) M := fun _ h => h.1
theorem less_no (M S : MS) : Dj S (less M S) := fun _ h h2 => h2.2 h
theorem Ms.less (h : Ms T M) (hd : Dj T S) : Ms T (less M S) := fun k hk => ⟨h k hk, hd k hk⟩
theorem Up.freeze (hm : MB w M) (S : MS) : Up w M w (Vc.less M S) := Up.here hm (less_ms M S)
end sets
section own
variable {α : Type} {R : ER α} {sz e B : Nat} {w w' : World} {M M' S : MS} {xs : List α} {v : Value}
theorem Own.weak (h : Own R sz e w M B v xs) : Own R sz e w M 0 v xs := by
  obtain ⟨css, h1, h2, h3, ho, hl, hm⟩ := h
  refine ⟨css, h1, h2, h3, ⟨ho.1, ?_⟩, hl, hm⟩
  rcases ho.2 with h | ⟨g, cap, cur, hv, hb, r⟩
  · exact .inl h
  · exact .inr ⟨g, cap, cur, hv, Nat.zero_le _, r⟩
theorem Own.ms (h : Own R sz e w M B v xs) : Ms (ob v) M := h.mem
theorem Own.fresh (h : Own R sz e w' M w.heap.size v xs) : ∀ k, ob v k → w.heap.size ≤ k := fun k hk => (h.base k hk).1
theorem Own.n {A : Option Addr} {m c : Nat} (h : Own R sz e w M B (.slice A m c) xs) : m = xs.length := by
  obtain ⟨A', c', h'⟩ := h.form
  cases h'; rfl
theorem Own.to [Stable R] (h : Own R sz e w M B v xs) (u : Up w M w M') (hm : Ms (ob v) M') : Own R sz e w M' B v xs := by
  obtain ⟨css, h1, h2, h3, ho, hl, _⟩ := h
  exact ⟨css, h1, h2, fun j x cs hx hc => Stable.up (h3 j x cs hx hc) u, ho, hl, hm⟩
/-- It is read from now on, apart from the others. -/
theorem Own.freeze [Stable R] {A : Option Addr} {m c : Nat} (h : Own R sz e w M B (.slice A m c) xs) (hm : MB w M) : SlD R sz w (less M (ob (.slice A m c))) A c xs := by
  obtain ⟨A', c', hv, hD⟩ := Own.read h hm (less_ms M _) (less_no M _)
  cases hv
  exact hD
/-- Its parts, read at once. -/
theorem Own.piece [Stable R] {A : Option Addr} {m c : Nat} (h : Own R sz e w M B (.slice A m c) xs) : SlD (fun w' _ cs x => R w' M cs x) sz w (fun _ => False) A c xs := by
  obtain ⟨A', c', hv, hD⟩ := Own.atl h
  cases hv
  exact hD
/-- An element of a slice of ours. -/
theorem Own.get {A : Option Addr} {m c : Nat} (h : Own R sz e w M B (.slice A m c) xs) {i : Nat} (hi : i < xs.length) :
    ∃ ad cs, A = some ad ∧ cs.length = sz ∧ At w (fun _ => False) (ad.add (i * sz)) cs ∧ R w M cs xs[i] := by
  obtain ⟨css, h1, h2, h3, ho, hl, hmm⟩ := h
  have hcs : css[i]? = some css[i] := List.getElem?_eq_getElem (by omega)
  rcases ho.2 with ⟨hv, hn⟩ | ⟨g, cap, cur, hv, hb, hg, hnc, hcm, hcs2, htk⟩
  · omega
  · cases hv
    refine ⟨⟨g, 0, none⟩, css[i], rfl, h2 _ (List.getElem_mem _), ⟨fun _ => ⟨by rw [Addr.add_block]; exact (Array.getElem?_eq_some_iff.1 hg).1, id⟩, fun j u hu => ?_⟩, h3 i _ _ (List.getElem?_eq_getElem hi) hcs⟩
    rw [Addr.add_add]
    exact ho.cells (g := g) rfl _ _ (flatten_get h2 hcs hu)
end own
/-- A call that writes nothing old leaves a slice of its own. -/
structure NewR {α : Type} (R : ER α) (sz e : Nat) (w : World) (M : MS) (w' : World) (M' : MS) (v : Value) (xs : List α) : Prop where
  own : Own R sz e w' M' 0 v xs
  new : ∀ k, ob v k → w.heap.size ≤ k
  up : Up w M w' M'
  ms : Ms M M'
  ext : Ext w w'
theorem NewR.sl {α : Type} {R : ER α} [Stable R] {sz e : Nat} {w w' : World} {M M' : MS} {v : Value} {xs : List α} (h : NewR R sz e w M w' M' v xs) (hm : MB w M) : Sl R sz w' M v xs :=
  h.own.read h.up.mb h.ms fun k hk hM => by have := h.new k hk; have := hm k hM; omega
theorem Bk.fz {w : World} {M : MS} {g e : Nat} {cs : List Value} (hb : Bk w g e cs) (hm : MB w M) : At w (less M (vb g)) ⟨g, 0, none⟩ cs := hb.at_ (fun h => h.2 rfl)
theorem SlD.i64 {w : World} {M : MS} {A : Option Addr} {c : Nat} {xs : List Int} (h : SlD IntR 1 w M A c xs) {i : Nat} (hi : i < xs.length) : I64 xs[i] := let ⟨_, _, _, h⟩ := h.int hi; h
/-- A function without results. -/
theorem Ret.zero {P : Program} {n : Nat} {fn : Func} {R : Value → World → Prop} {σ : St} {w : World} (hr : fn.results = #[]) (h : R (.tuple #[]) w) : RetAt P n fn R σ w := ⟨⟨_, fun a ha => by simp [results, hr], h⟩⟩
/-! ### append -/
section app
variable {P : Program} {n : Nat} {ops : Array Oper} {Q : Post} {rest : List Oper} {σ : St} {w : World}
variable {ty d t e sz by_ : Nat} {pos : String} {aft : Array Edge} {s x : Operand} {v vy z : Value} {α : Type} {R : ER α} {M : MS} {xs ys : List α}
theorem WL.appendR [Stable R] (ht : P.underlying t = some (.slice e)) (hi : tinfo P e = some (some z, sz, by_)) (hzc : z.cells.size = sz) (hsz : 0 < sz)
    (hs : ev σ s = some v) (hx : ev σ x = some vy) (hO : Own R sz e w M 0 v xs) (hY : Sl (fun w' _ cs x => R w' M cs x) sz w (fun _ => False) vy ys) (hm : MB w M) (hby : 0 < by_) (hl : (xs.length + ys.length) * by_ ≤ 140737488355328)
    (k : ∀ A c w' M', Own R sz e w' M' 0 (.slice A (xs ++ ys).length c) (xs ++ ys) → Stp w w' (ob v) → Up w M w' M' → Ms M M' → Wr w.heap.size (ob v) (ob (.slice A (xs ++ ys).length c)) → WL P n ops Q rest ((d, .slice A (xs ++ ys).length c) :: σ) w') (hd : d < n := by decide) :
    WL P n ops Q (⟨some d, .call { callee := .builtin .append, args := #[s, x], argTypes := #[t, t] }, ty, pos, aft, none⟩ :: rest) σ w := by
  obtain ⟨v', w', M', hr, h1, h2, h3, h4, h5, h6⟩ := run_append_own2 (ty := ty) ht hi hzc hsz hO hY (Nat.zero_le _) hm hby hl
  obtain ⟨A, c, rfl⟩ := h1.form
  exact .val rfl rfl hd (fun a ha => by simp [execOp, resolve, invoke, builtin, ha.ev hs, ha.ev hx, hr]) (k A c w' M' h1 h2 h3 h4 h6)
end app
/-! ### Nil? -/
section nil_
variable {P : Program} {n : Nat} {σ : St} {w : World} {ty d t u e : Nat} {pos : String} {aft : Array Edge} {x : Operand} {p : Option Addr} {v : Value}
theorem Rn.pnil (ht : P.underlying t = some (.pointer e)) (hx : ev σ x = some (.pointer p)) : Rn P n σ (⟨some d, .binOp .eql t x (.const (.pointer none)) u, ty, pos, aft, none⟩ : Oper) w (.bool p.isNone) := fun a ha => by
  have hc : a.eval (.const (.pointer none)) = .pointer none := rfl
  have h := run_equal_pointer_nil w t p (show P.underlying t = some (.pointer (P.pointee t)) by rw [ht]; simp [Program.pointee, ht])
  simp [execOp, ha.ev hx, hc, eqGuard_at_pointer, binOp, h]
theorem Rn.inil {ms : Array (String × TypeId)} (ht : P.underlying t = some (.interface ms)) (hx : ev σ x = some (.iface e v)) : Rn P n σ (⟨some d, .binOp .eql t x (.const .nilIface) u, ty, pos, aft, none⟩ : Oper) w (.bool false) := fun a ha => by
  have hc : a.eval (.const .nilIface) = .nilIface := rfl
  have h := run_equal_held_nil w t e v (show P.underlying t = some (.interface (P.methodsAt t)) by rw [ht]; simp [Program.methodsAt, ht])
  simp [execOp, ha.ev hx, hc, eqGuard_at_iface, binOp, h]
end nil_
/-! ### Sums that may wrap -/
section wrap
variable {P : Program} {n : Nat} {σ : St} {w : World} {ty d t u : Nat} {pos : String} {aft : Array Edge} {x y : Operand} {i j : Int}
theorem Rn.addw (hx : ev σ x = some (.int .i64 i)) (hy : ev σ y = some (.int .i64 j)) : Rn P n σ (⟨some d, .binOp .add t x y u, ty, pos, aft, none⟩ : Oper) w (.int .i64 (IntKind.i64.wrap (i + j))) := .bin hx hy (by simp [binOp_add, Op.intArith])
end wrap
/-! ### A store over a whole element of a slice of ours -/
def splice {α : Type} (l : List α) (o : Nat) (us : List α) : List α := l.take o ++ us ++ l.drop (o + us.length)
theorem splice_len {α : Type} {l us : List α} {o : Nat} (h : o + us.length ≤ l.length) : (splice l o us).length = l.length := by simp [splice]; omega
theorem splice_get {α : Type} {l us : List α} {o : Nat} (h : o + us.length ≤ l.length) (j : Nat) : (splice l o us)[j]? = if j < o then l[j]? else if j < o + us.length then us[j - o]? else l[j]? := by
  have h1 : (l.take o).length = o := by simp; omega
  unfold splice
  by_cases hj : j < o
  · rw [if_pos hj, List.append_assoc, List.getElem?_append_left (by omega), List.getElem?_take, if_pos hj]
  · rw [if_neg hj]
    by_cases hj2 : j < o + us.length
    · rw [if_pos hj2, List.append_assoc, List.getElem?_append_right (by omega), h1, List.getElem?_append_left (by omega)]
    · rw [if_neg hj2, List.getElem?_append_right (by simp; omega), List.getElem?_drop]
      congr 1
      simp
      omega
theorem splice_take {α : Type} {l us : List α} {o n : Nat} (h : o + us.length ≤ n) (hn : n ≤ l.length) : (splice l o us).take n = splice (l.take n) o us := by
  apply List.ext_getElem?
  intro j
  have hl : (l.take n).length = n := by simp; omega
  rw [List.getElem?_take, splice_get (by omega), splice_get (by omega), List.getElem?_take]
  by_cases hj : j < n
  · simp [hj]
  · rw [if_neg hj, if_neg (by omega), if_neg (by omega), if_neg hj]
theorem flatten_splice {α : Type} {sz : Nat} {us : List α} (hu : us.length = sz) : ∀ {css : List (List α)} (_ : ∀ cs ∈ css, cs.length = sz) {i : Nat}, i < css.length → (css.set i us).flatten = splice css.flatten (i * sz) us
  | [], _, i, h => by simp at h
  | c :: r, hl, 0, _ => by
    have hc := hl c (by simp)
    simp only [List.set_cons_zero, List.flatten_cons, splice, Nat.zero_mul, Nat.zero_add, List.take_zero, List.nil_append]
    rw [List.drop_append_of_le_length (by omega), List.drop_of_length_le (by omega)]
    simp
  | c :: r, hl, i + 1, h => by
    have hc := hl c (by simp)
    have ih := flatten_splice (sz := sz) hu (css := r) (fun x hx => hl x (by simp [hx])) (i := i) (by simpa using h)
    simp only [List.set_cons_succ, List.flatten_cons, ih, splice]
    rw [show (i + 1) * sz = c.length + i * sz by rw [hc, Nat.add_mul]; omega, List.take_append, List.drop_append]
    rw [List.take_of_length_le (show c.length ≤ c.length + i * sz by omega), List.drop_of_length_le (show c.length ≤ c.length + i * sz + us.length by omega)]
    simp only [Nat.add_sub_cancel_left, List.nil_append, List.append_assoc]
    rw [show c.length + i * sz + us.length - c.length = i * sz + us.length by omega]
theorem WL.storeOwnAll {α : Type} {R : ER α} [Stable R] {P : Program} {n : Nat} {ops : Array Oper} {Q : Post} {rest : List Oper} {σ : St} {w : World} {ty t : Nat} {pos : String} {aft : Array Edge} {x y : Operand}
    {sz e B len c i : Nat} {A : Option Addr} {ad : Addr} {M : MS} {xs : List α} {us : List Value} {x' : α}
    (hO : Own R sz e w M B (.slice A len c) xs) (hA : A = some ad) (hm : MB w M) (hi : i < xs.length) (hl : us.length = sz) (hsz : 0 < sz)
    (hs : (tinfo P t).map (·.2.1) = some us.length) (hx : ev σ x = some (.pointer (some (ad.add (i * sz))))) (hy : ev σ y = some (.agg us.toArray)) (h1 : ∀ v ∈ us, v.oneCell' = true)
    (hR : R w M us x')
    (k : ∀ w', Own R sz e w' M B (.slice A len c) (xs.set i x') → Stp w w' (ob (.slice A len c)) → Up w M w' M → WL P n ops Q rest σ w') :
    WL P n ops Q (⟨none, .store t x y, ty, pos, aft, none⟩ :: rest) σ w := by
  subst hA
  obtain ⟨css, o1, o2, o3, ⟨o4, o5⟩, o6, o7⟩ := hO
  rcases o5 with ⟨h, _⟩ | ⟨g, cap, cur, hv, hB, hg, hnc, hcm, hcs, htk⟩
  · cases h
  · cases hv
    have hb : Bk w g e cur.toList := hg
    have hlt : i * sz + sz ≤ css.flatten.length := by
      rw [o4]
      have : (i + 1) * sz ≤ xs.length * sz := Nat.mul_le_mul_right _ hi
      rw [Nat.add_mul] at this
      omega
    have hcur : css.flatten.length ≤ cur.toList.length := by
      have := congrArg List.length htk
      rw [List.length_take] at this
      omega
    have hsp : i * sz + us.length ≤ cur.toList.length := by rw [hl]; omega
    have hsp2 : i * sz + us.length ≤ css.flatten.length := by rw [hl]; omega
    have hst := run_storeCells_at P g (i * sz) e us 0 cur.toList.toArray w hb (by simpa using hsp) h1
    obtain ⟨hb', hs'⟩ := hb.setRow (splice cur.toList (i * sz) us)
    have hx' : ev σ x = some (.pointer (some ⟨g, i * sz, none⟩)) := by rw [hx, Addr.add_lit, Nat.zero_add]
    have hu : Up w M (w.setRow g (splice cur.toList (i * sz) us).toArray) M := Stp.up hs' hm fun k _ hk => by rw [hk]; exact o7 g rfl
    have hi' : i < css.length := by omega
    have hOwn : Own R sz e (w.setRow g (splice cur.toList (i * sz) us).toArray) M B (.slice (some ⟨g, 0, none⟩) xs.length c) (xs.set i x') := by
      refine ⟨css.set i us, by simp [o1], fun cs hcs' => ?_, fun j y' cs hy' hc => ?_, ⟨?_, .inr ⟨g, c, (splice cur.toList (i * sz) us).toArray, by simp, hB, hb', by simpa using hnc, hcm, by simp only [List.size_toArray]; rw [splice_len hsp]; simpa using hcs, ?_⟩⟩, by simpa using o6, o7⟩
      · rcases List.mem_or_eq_of_mem_set hcs' with h | h
        · exact o2 cs h
        · rw [h]; exact hl
      · by_cases hj : i = j
        · subst hj
          rw [List.getElem?_set_self hi] at hy'
          rw [List.getElem?_set_self hi'] at hc
          cases hy'; cases hc
          exact Stable.up hR hu
        · rw [List.getElem?_set_ne hj] at hy' hc
          exact Stable.up (o3 j y' cs hy' hc) hu
      · rw [flatten_splice hl o2 hi', splice_len hsp2, o4]; simp
      · rw [flatten_splice hl o2 hi']
        simp only [List.length_set]
        rw [splice_take (by rw [← o4]; exact hsp2) (by rw [← o4]; exact hcur), htk]
    refine .skp (w' := w.setRow g (splice cur.toList (i * sz) us).toArray) rfl rfl (fun b ha => ?_) (k _ hOwn (hs'.mono fun k _ hk => by rw [hk]; rfl) hu)
    cases hinf : P.info? t with
    | none => simp [tinfo, hinf] at hs
    | some inf =>
      have hszi : us.length = inf.size := by simpa [tinfo, hinf, eq_comm] using hs
      simp only [Nat.add_zero] at hst
      have hst2 : (storeCells ⟨g, i * sz, none⟩ us).run P w = .ok () (w.setRow g (splice cur.toList (i * sz) us).toArray) := hst
      simp [execOp, ha.ev hx', ha.ev hy, Instr.storeAt, Instr.sureAddr, storeVar, Value.cells, sizeOf, typeInfo, hinf, hszi, hst2]
theorem Then.ex {K : St → World → Prop} {Q : Post} {i : Nat} {σ : St} {w : World} (h : Q (.exit i) σ w) : Then K Q (.exit i) σ w := h
theorem Blk.nrm {id : Nat} {Q : Post} {σ : St} {w : World} (h : Q .normal σ w) : Blk id Q .normal σ w := h
theorem Blk.ext {id : Nat} {Q : Post} {σ : St} {w : World} (h : Q .normal σ w) : Blk id Q (.exit id) σ w := by
  have : Nat.beq id id = true := by simp
  simp only [Blk, this, cond_true]; exact h
theorem Blk.pass {id i : Nat} {Q : Post} {σ : St} {w : World} (hi : Nat.beq i id = false) (h : Q (.exit i) σ w) : Blk id Q (.exit i) σ w := by
  simp only [Blk, hi, cond_false]; exact h
/-! ### Calls of methods behind interfaces -/
/-- The method's function, and what it takes for its receiver. -/
def MethAt (P : Program) (w : World) (t : TypeId) (v : Value) (name : String) (f : FuncId) (r : Value) : Prop := (method (P.types.size + Made.depth) t v name).run P w = .ok (f, r) w
/-- A type's method: its path, its function. -/
def methRow (P : Program) (t : TypeId) (name : String) : Option (List FieldStep × Option (FuncId × Bool)) := (P.info? t).bind fun i => (i.methods.find? (·.name == name)).map fun m => (m.path.toList, m.func)
theorem MethAt.self {P : Program} {w : World} {t e : TypeId} {v : Value} {name : String} {f : FuncId} (h : methRow P t name = some ([], some (f, true))) (hu : P.underlying t = some (.pointer e)) : MethAt P w t v name f v := by
  unfold methRow at h
  cases hi : P.info? t with
  | none => simp [hi] at h
  | some i =>
    cases hm : i.methods.find? (·.name == name) with
    | none => simp [hi, hm] at h
    | some m =>
      simp only [hi, hm, Option.bind_some, Option.map_some, Option.some.injEq, Prod.mk.injEq] at h
      unfold MethAt
      rw [show P.types.size + Made.depth = (P.types.size + 99) + 1 from rfl, method]
      simp [typeInfo, hi, hm, h.1, h.2, follow, receiverAt, run_underlying hu, Place.get]
/-- A method of what the first field points to. -/
theorem MethAt.field {P : Program} {w : World} {t s e : TypeId} {g : Nat} {p : Option Addr} {name : String} {f : FuncId} {fl : Field} {fs : Array Field} (h : methRow P t name = some ([⟨s, 0, true⟩], some (f, true))) (hs : P.underlying s = some (.struct fs))
    (hf : fs[0]? = some fl) (ho : fl.offset = 0) (hsz0 : (tinfo P fl.type).map (·.2.1) = some 1) (hu : P.underlying fl.type = some (.pointer e)) (hut : P.underlying t = some (.pointer s)) (hc : w.cell? ⟨g, 0, none⟩ = some (.pointer p)) : MethAt P w t (.pointer (some ⟨g, 0, none⟩)) name f (.pointer p) := by
  obtain ⟨inf, hi2, hsz⟩ : ∃ inf, P.info? fl.type = some inf ∧ inf.size = 1 := by
    cases hq : P.info? fl.type with
    | none => simp [tinfo, hq] at hsz0
    | some q => exact ⟨q, rfl, by simpa [tinfo, hq] using hsz0⟩
  unfold methRow at h
  cases hi : P.info? t with
  | none => simp [hi] at h
  | some i =>
    cases hm : i.methods.find? (·.name == name) with
    | none => simp [hi, hm] at h
    | some m =>
      simp only [hi, hm, Option.bind_some, Option.map_some, Option.some.injEq, Prod.mk.injEq] at h
      have hl : (loadVar fl.type ⟨g, 0, none⟩).run P w = .ok (.pointer p) w := by simp [loadVar, isAgg, run_underlying hu, hc]
      unfold MethAt
      rw [show P.types.size + Made.depth = (P.types.size + 99) + 1 from rfl, method]
      simp [typeInfo, hi, hm, h.1, h.2, follow, receiverAt, run_underlying hs, run_underlying hu, Place.get, hf, asAddr, fieldPlace, sizeOf, hi2, hsz, ho, hl, Addr.add_zero]
theorem WL.invoke {P : Program} {n : Nat} {ops : Array Oper} {Q : Post} {rest : List Oper} {σ : St} {w : World} {d ty : Nat} {pos : String} {aft : Array Edge} {rv : Operand} {name : String} {t : TypeId} {v r : Value} {f : FuncId} {fn : Func} {args : List Operand} {ats : Array TypeId} {vs : List Value} {R : Value → World → Prop}
    (hrv : ev σ rv = some (.iface t v)) (hm : MethAt P w t v name f r) (hf : P.funcs[f]? = some fn) (hn : (fn.name == "runtime.NumGoroutine") = false) (hb : fn.body.isNone = false) (hl : Evs σ args vs) (h : Fc P f (r :: vs).toArray w R)
    (k : ∀ v w', R v w' → WL P n ops Q rest ((d, v) :: σ) w') (hd : d < n := by decide) :
    WL P n ops Q (⟨some d, .call { callee := .invoke rv name, args := args.toArray, argTypes := ats }, ty, pos, aft, none⟩ :: rest) σ w :=
  ⟨fun a ha => wpList_plain rfl fun K hK => by
    have hcf : (callFunc f (r :: vs).toArray).run P w = .ok (.enter f (r :: vs).toArray) w := by simp only [callFunc, Sem.run_bind, run_program, Result.andThen_ok, hf, hn, hb, Bool.false_eq_true, if_false, Sem.run_pure]
    have e1 : (execOp a.eval ⟨some d, .call { callee := .invoke rv name, args := args.toArray, argTypes := ats }, ty, pos, aft, none⟩).run P w = .ok (.enter f (r :: vs).toArray) w := by
      simp [execOp, resolve, Go.invoke, callMethod, ha.ev hrv, show (method (P.types.size + Made.depth) t v name).run P w = .ok (f, r) w from hm, hl.map ha, hcf]
    unfold Oper.wp
    rw [e1, Oper.upon_enter]
    refine h.run.mono fun e w' ⟨v, he, hR⟩ => ?_
    subst he
    exact hK _ _ ((k v w' hR).run _ (ha.put hd v))⟩
/-! ### Drawn regions: free readers; what waits by way of others -/
section anyc
variable {P : Program} {ops : Array Oper} {Q : Exit → Act → World → Prop} {late : Nat → Bool} {C : World → Prop}
theorem AnyC.firstF {i : Nat} {oi : Oper} {v : Value} (hi : ops[i]? = some oi) (hsel : ∀ (j : Nat) (o : Oper) cs b, ops[j]? = some o → o.op ≠ .select cs b) (hQ : ∀ c a w, ¬ Q (.panic c) a w)
    (hlate : late i = false) :
    ∀ (f : Nat) (listed : Array Bool) (a : Act) (w : World),
      (∀ j oj, ops[j]? = some oj → j ≠ i → listed.getD j true = false → (∀ e ∈ oj.after, Region.binds .any e = true → e.on ≠ i) → oi.apart ops oj = true) →
      i ∈ Region.ready .any ops listed → Tells P ops (fun _ => True) oi v a → AnyC P ops Q late C f (listed.setIfInBounds i true) (a.put oi.dst v) w → AnyC P ops Q late C (f + 1) listed a w := by
  have hset : ∀ (listed : Array Bool), (∀ j, late j = true → listed.getD j false = false) → ∀ j, late j = true → (listed.setIfInBounds i true).getD j false = false := fun listed hl j hj => by
    by_cases e : i = j
    · subst e; rw [hlate] at hj; cases hj
    · rw [getD_set_ne false e]; exact hl j hj
  intro f
  induction f with
  | zero =>
    intro listed a w hfree hr ht H
    refine ⟨fun hl => H.1 (hset listed hl), fun h0 => (by rw [h0] at hr; cases hr), fun j hj => ?_⟩
    by_cases e : j = i
    · subst e; exact ht.op hi trivial H
    · have := ready_mono hj e
      rw [H.2.1] at this
      cases this
  | succ f ih =>
    intro listed a w hfree hr ht H
    refine ⟨fun hl => H.1 (hset listed hl), fun h0 => (by rw [h0] at hr; cases hr), fun j hj => ?_⟩
    by_cases e : j = i
    · subst e; exact ht.op hi trivial H
    · have H' := H.2.2 j (ready_mono hj e)
      obtain ⟨hju, oj, hoj, hall⟩ := mem_ready.1 hj
      have hin : i < listed.size → listed.getD i false = false := fun hlt => by
        have := (mem_ready.1 hr).1
        simp only [Array.getD_eq_getD_getElem?, Array.getElem?_eq_getElem hlt, Option.getD_some] at this ⊢
        exact this
      have hidx : listed.getD i false = true → False := fun hx => by
        rcases Nat.lt_or_ge i listed.size with h' | h'
        · rw [hin h'] at hx; cases hx
        · simp [Array.getElem?_eq_none h'] at hx
      have hno : ∀ e ∈ oj.after, Region.binds .any e = true → e.on ≠ i := fun e he hb heq => hidx (by rw [← heq]; exact hall e he hb)
      have H2 := Tells.swap hoj (hfree j oj hoj e hju hno) (fun cs b => hsel i oi cs b hi) (fun cs b => hsel j oj cs b hoj) hQ ht H'
      refine wpOp_mono (fun b w' ⟨h1, h2⟩ => ih (listed.setIfInBounds j true) b w' (fun k ok hk hki hun hn => ?_) (ready_mono hr (Ne.symm e)) h1 ?_) H2
      · refine hfree k ok hk hki ?_ hn
        by_cases e : j = k
        · subst e; exact hju
        · rw [getD_set_ne true e] at hun; exact hun
      · rw [Array.setIfInBounds_comm _ _ e]; exact h2
/-- j comes behind i, by way of others too. -/
def needsB (ops : Array Oper) : Nat → Nat → Nat → Bool
  | 0, _, _ => false
  | f + 1, j, i => match ops[j]? with
    | some oj => oj.after.any fun e => Region.binds .any e && (e.on == i || needsB ops f e.on i)
    | none => false
/-- What is listed has all that it waits for listed. -/
def Closed (ops : Array Oper) (listed : Array Bool) : Prop := ∀ x ox, ops[x]? = some ox → listed.getD x false = true → ∀ e ∈ ox.after, Region.binds .any e = true → listed.getD e.on false = true
theorem needs_listed {listed : Array Bool} (hc : Closed ops listed) {i : Nat} : ∀ (f j : Nat) {oj : Oper}, ops[j]? = some oj → (∀ e ∈ oj.after, Region.binds .any e = true → listed.getD e.on false = true) → needsB ops f j i = true → listed.getD i false = true
  | 0, _, _, _, _, h => by simp [needsB] at h
  | f + 1, j, oj, hj, hd, h => by
    simp only [needsB, hj] at h
    obtain ⟨e, he, hb⟩ := Array.any_eq_true'.1 h
    simp only [Bool.and_eq_true, Bool.or_eq_true, beq_iff_eq] at hb
    have hl := hd e he hb.1
    rcases hb.2 with h1 | h1
    · rw [← h1]; exact hl
    · cases f with
      | zero => simp [needsB] at h1
      | succ f =>
        have h1' := h1
        simp only [needsB] at h1'
        cases ho : ops[e.on]? with
        | none => rw [ho] at h1'; cases h1'
        | some o => exact needs_listed hc (f + 1) e.on ho (hc e.on o ho hl) h1
theorem getD_set_mono {l : Array Bool} {j k : Nat} (h : l.getD k false = true) : (l.setIfInBounds j true).getD k false = true := by
  by_cases e : j = k
  · subst e
    by_cases hlt : j < l.size
    · simp [hlt]
    · rw [Array.setIfInBounds_eq_of_size_le (by omega)]; exact h
  · rw [getD_set_ne false e]; exact h
theorem Closed.set {listed : Array Bool} (hc : Closed ops listed) {j : Nat} {oj : Oper} (hj : ops[j]? = some oj) (hd : ∀ e ∈ oj.after, Region.binds .any e = true → listed.getD e.on false = true) : Closed ops (listed.setIfInBounds j true) := by
  intro x ox hx hl e he hb
  refine getD_set_mono ?_
  by_cases ex : x = j
  · subst ex
    rw [hj] at hx
    cases hx
    exact hd e he hb
  · rw [getD_set_ne false (Ne.symm ex)] at hl
    exact hc x ox hx hl e he hb
theorem AnyC.firstT {i : Nat} {oi : Oper} {v : Value} (hi : ops[i]? = some oi) (hsel : ∀ (j : Nat) (o : Oper) cs b, ops[j]? = some o → o.op ≠ .select cs b) (hQ : ∀ c a w, ¬ Q (.panic c) a w)
    (hlate : late i = false) {fu : Nat} (hwait : ∀ j oj, ops[j]? = some oj → late j = true → needsB ops fu j i = true) :
    ∀ (f : Nat) (listed : Array Bool) (a : Act) (w : World), Closed ops listed → (∀ j, late j = true → listed.getD j false = false) →
      (∀ j oj, ops[j]? = some oj → j ≠ i → listed.getD j true = false → (∀ e ∈ oj.after, Region.binds .any e = true → e.on ≠ i) → oi.apart ops oj = true) →
      i ∈ Region.ready .any ops listed → Tells P ops C oi v a → AnyC P ops Q late C f (listed.setIfInBounds i true) (a.put oi.dst v) w → AnyC P ops Q late C (f + 1) listed a w := by
  have hset : ∀ (listed : Array Bool), (∀ j, late j = true → listed.getD j false = false) → ∀ j, late j = true → (listed.setIfInBounds i true).getD j false = false := fun listed hl j hj => by
    by_cases e : i = j
    · subst e; rw [hlate] at hj; cases hj
    · rw [getD_set_ne false e]; exact hl j hj
  intro f
  induction f with
  | zero =>
    intro listed a w hcl hl hfree hr ht H
    refine ⟨fun _ => H.1 (hset listed hl), fun h0 => (by rw [h0] at hr; cases hr), fun j hj => ?_⟩
    by_cases e : j = i
    · subst e; exact ht.op hi (H.1 (hset listed hl)) H
    · have := ready_mono hj e
      rw [H.2.1] at this
      cases this
  | succ f ih =>
    intro listed a w hcl hl hfree hr ht H
    refine ⟨fun _ => H.1 (hset listed hl), fun h0 => (by rw [h0] at hr; cases hr), fun j hj => ?_⟩
    by_cases e : j = i
    · subst e; exact ht.op hi (H.1 (hset listed hl)) H
    · have H' := H.2.2 j (ready_mono hj e)
      obtain ⟨hju, oj, hoj, hall⟩ := mem_ready.1 hj
      have hin : i < listed.size → listed.getD i false = false := fun hlt => by
        have := (mem_ready.1 hr).1
        simp only [Array.getD_eq_getD_getElem?, Array.getElem?_eq_getElem hlt, Option.getD_some] at this ⊢
        exact this
      have hidx : listed.getD i false = true → False := fun hx => by
        rcases Nat.lt_or_ge i listed.size with h' | h'
        · rw [hin h'] at hx; cases hx
        · simp [Array.getElem?_eq_none h'] at hx
      have hno : ∀ e ∈ oj.after, Region.binds .any e = true → e.on ≠ i := fun e he hb heq => hidx (by rw [← heq]; exact hall e he hb)
      have hjl : late j = false := by
        cases hjl : late j with
        | false => rfl
        | true => exact (hidx (needs_listed hcl fu j hoj hall (hwait j oj hoj hjl))).elim
      have hl' : ∀ k, late k = true → (listed.setIfInBounds j true).getD k false = false := fun k hk => by
        by_cases e : j = k
        · subst e; rw [hjl] at hk; cases hk
        · rw [getD_set_ne false e]; exact hl k hk
      have H2 := Tells.swap hoj (hfree j oj hoj e hju hno) (fun cs b => hsel i oi cs b hi) (fun cs b => hsel j oj cs b hoj) hQ ht H'
      refine wpOp_mono (fun b w' ⟨h1, h2⟩ => ih (listed.setIfInBounds j true) b w' (hcl.set hoj hall) hl' (fun k ok hk hki hun hn => ?_) (ready_mono hr (Ne.symm e)) h1 ?_) H2
      · refine hfree k ok hk hki ?_ hn
        by_cases e : j = k
        · subst e; exact hju
        · rw [getD_set_ne true e] at hun; exact hun
      · rw [Array.setIfInBounds_comm _ _ e]; exact h2
end anyc
def closedB (ops : Array Oper) (listed : Array Bool) : Bool := (List.range ops.size).all fun x => !listed.getD x false || (match ops[x]? with
  | some ox => ox.after.all fun e => !Region.binds .any e || listed.getD e.on false
  | none => true)
theorem closedB_spec {ops : Array Oper} {listed : Array Bool} (h : closedB ops listed = true) : Closed ops listed := by
  intro x ox hx hl e he hb
  have hlt := (Array.getElem?_eq_some_iff.1 hx).1
  have := List.all_eq_true.1 h x (List.mem_range.2 hlt)
  simp only [hl, hx, Bool.not_true, Bool.false_or] at this
  have := Array.all_eq_true'.1 this e he
  simpa [hb] using this
def takeTB (ops : Array Oper) (late : List Nat) (listed : Array Bool) (i : Nat) : Bool :=
  Region.noSelect ops && !late.contains i && late.all (fun j => needsB ops (ops.size + 1) j i) && freshB late listed && closedB ops listed && Region.free .any ops listed i && (Region.ready .any ops listed).contains i
def takeFB (ops : Array Oper) (late : List Nat) (listed : Array Bool) (i : Nat) : Bool :=
  Region.noSelect ops && !late.contains i && Region.free .any ops listed i && (Region.ready .any ops listed).contains i
section dw
variable {P : Program} {n : Nat} {ops : Array Oper} {Q : Post} {late : List Nat} {C : World → Prop} {f : Nat} {listed : Array Bool} {σ : St} {w : World}
theorem notFresh (h : freshB late listed = false) : freshB late listed = true → C w := fun h2 => by rw [h] at h2; cases h2
theorem DW.takeT {o : Oper} {d : Nat} {v : Value} (i : Nat) (hi : ops[i]? = some o) (hB : takeTB ops late listed i = true) (hd : o.dst = some d) (hQ : ∀ c σ w, ¬ Q (.panic c) σ w)
    (hw : Want ops σ o true) (h : ∀ w', C w' → ∀ a, Rep n a σ → (execOp a.eval o).run P w' = .ok (.value v) w')
    (k : DW P n ops Q (lateB late) C f (listed.setIfInBounds i true) ((d, v) :: σ) w) (hdn : d < n := by decide) : DW P n ops Q (lateB late) C (f + 1) listed σ w := by
  simp only [takeTB, Bool.and_eq_true] at hB
  obtain ⟨⟨⟨⟨⟨⟨b1, b2⟩, b3⟩, b4⟩, b7⟩, b5⟩, b6⟩ := hB
  refine ⟨fun a ha => AnyC.firstT hi (Region.noSelect_spec b1) (fun c a w ⟨σ', _, hq⟩ => hQ c σ' w hq) (by simpa [lateB] using b2) (fu := ops.size + 1) (fun j oj _ hl => List.all_eq_true.1 b3 j (by simpa [lateB] using hl)) f listed a w (closedB_spec b7) ?_ (Region.free_spec hi b5) (by simpa using b6) (.inl ⟨hw.at_ ha, fun w' hC => h w' hC a ha⟩) ?_⟩
  · intro j hj
    have := List.all_eq_true.1 b4 j (by simpa [lateB] using hj)
    simpa using this
  · rw [hd]
    exact k.run _ (ha.put hdn v)
theorem DW.takeF {o : Oper} {d : Nat} {v : Value} (i : Nat) (hi : ops[i]? = some o) (hB : takeFB ops late listed i = true) (hd : o.dst = some d) (hQ : ∀ c σ w, ¬ Q (.panic c) σ w)
    (hw : Want ops σ o true) (h : ∀ w', ∀ a, Rep n a σ → (execOp a.eval o).run P w' = .ok (.value v) w')
    (k : DW P n ops Q (lateB late) C f (listed.setIfInBounds i true) ((d, v) :: σ) w) (hdn : d < n := by decide) : DW P n ops Q (lateB late) C (f + 1) listed σ w := by
  simp only [takeFB, Bool.and_eq_true] at hB
  obtain ⟨⟨⟨b1, b2⟩, b5⟩, b6⟩ := hB
  refine ⟨fun a ha => AnyC.firstF hi (Region.noSelect_spec b1) (fun c a w ⟨σ', _, hq⟩ => hQ c σ' w hq) (by simpa [lateB] using b2) f listed a w (Region.free_spec hi b5) (by simpa using b6) (.inl ⟨hw.at_ ha, fun w' _ => h w' a ha⟩) ?_⟩
  rw [hd]
  exact k.run _ (ha.put hdn v)
theorem DW.skipF {o : Oper} {d : Nat} (i : Nat) (hi : ops[i]? = some o) (hB : takeFB ops late listed i = true) (hd : o.dst = some d) (hQ : ∀ c σ w, ¬ Q (.panic c) σ w)
    (hw : Want ops σ o false) (k : DW P n ops Q (lateB late) C f (listed.setIfInBounds i true) ((d, undef) :: σ) w) (hdn : d < n := by decide) : DW P n ops Q (lateB late) C (f + 1) listed σ w := by
  simp only [takeFB, Bool.and_eq_true] at hB
  obtain ⟨⟨⟨b1, b2⟩, b5⟩, b6⟩ := hB
  refine ⟨fun a ha => AnyC.firstF hi (Region.noSelect_spec b1) (fun c a w ⟨σ', _, hq⟩ => hQ c σ' w hq) (by simpa [lateB] using b2) f listed a w (Region.free_spec hi b5) (by simpa using b6) (.inr ⟨hw.at_ ha, rfl⟩) ?_⟩
  rw [hd]
  exact k.run _ (ha.put hdn _)
variable {d ty : Nat} {o : Op} {pos : String} {aft : Array Edge} {v : Value} {gj gt : Nat} {want b : Bool}
theorem DW.rT (i : Nat) (hi : ops[i]? = some ⟨some d, o, ty, pos, aft, none⟩) (hB : takeTB ops late listed i = true) (hQ : ∀ c σ w, ¬ Q (.panic c) σ w)
    (h : ∀ w', C w' → Rn P n σ ⟨some d, o, ty, pos, aft, none⟩ w' v)
    (k : DW P n ops Q (lateB late) C f (listed.setIfInBounds i true) ((d, v) :: σ) w) (hdn : d < n := by decide) : DW P n ops Q (lateB late) C (f + 1) listed σ w :=
  .takeT i hi hB rfl hQ rfl h k hdn
theorem DW.rF (i : Nat) (hi : ops[i]? = some ⟨some d, o, ty, pos, aft, none⟩) (hB : takeFB ops late listed i = true) (hQ : ∀ c σ w, ¬ Q (.panic c) σ w)
    (h : ∀ w', Rn P n σ ⟨some d, o, ty, pos, aft, none⟩ w' v)
    (k : DW P n ops Q (lateB late) C f (listed.setIfInBounds i true) ((d, v) :: σ) w) (hdn : d < n := by decide) : DW P n ops Q (lateB late) C (f + 1) listed σ w :=
  .takeF i hi hB rfl hQ rfl h k hdn
theorem DW.gT (i : Nat) (hi : ops[i]? = some ⟨some d, o, ty, pos, aft, some (gj, want)⟩) (hB : takeTB ops late listed i = true) (hQ : ∀ c σ w, ¬ Q (.panic c) σ w)
    (hj : (ops[gj]?).bind (·.dst) = some gt) (ht : look σ gt = some (.bool b)) (hb : b = want) (h : ∀ w', C w' → Rn P n σ ⟨some d, o, ty, pos, aft, none⟩ w' v)
    (k : DW P n ops Q (lateB late) C f (listed.setIfInBounds i true) ((d, v) :: σ) w) (hdn : d < n := by decide) : DW P n ops Q (lateB late) C (f + 1) listed σ w :=
  .takeT i hi hB rfl hQ (.inl ⟨gt, b, hj, ht, by rw [hb]; cases want <;> rfl⟩) (fun w' hC => (h w' hC).g) k hdn
theorem DW.gF (i : Nat) (hi : ops[i]? = some ⟨some d, o, ty, pos, aft, some (gj, want)⟩) (hB : takeFB ops late listed i = true) (hQ : ∀ c σ w, ¬ Q (.panic c) σ w)
    (hj : (ops[gj]?).bind (·.dst) = some gt) (ht : look σ gt = some (.bool b)) (hb : b = want) (h : ∀ w', Rn P n σ ⟨some d, o, ty, pos, aft, none⟩ w' v)
    (k : DW P n ops Q (lateB late) C f (listed.setIfInBounds i true) ((d, v) :: σ) w) (hdn : d < n := by decide) : DW P n ops Q (lateB late) C (f + 1) listed σ w :=
  .takeF i hi hB rfl hQ (.inl ⟨gt, b, hj, ht, by rw [hb]; cases want <;> rfl⟩) (fun w' => (h w').g) k hdn
theorem DW.sF (i : Nat) (hi : ops[i]? = some ⟨some d, o, ty, pos, aft, some (gj, want)⟩) (hB : takeFB ops late listed i = true) (hQ : ∀ c σ w, ¬ Q (.panic c) σ w)
    (hj : (ops[gj]?).bind (·.dst) = some gt) (ht : look σ gt = some (.bool b)) (hb : b = !want)
    (k : DW P n ops Q (lateB late) C f (listed.setIfInBounds i true) ((d, undef) :: σ) w) (hdn : d < n := by decide) : DW P n ops Q (lateB late) C (f + 1) listed σ w :=
  .skipF i hi hB rfl hQ (.inl ⟨gt, b, hj, ht, by rw [hb]; cases want <;> rfl⟩) k hdn
theorem DW.uF (i : Nat) (hi : ops[i]? = some ⟨some d, o, ty, pos, aft, some (gj, want)⟩) (hB : takeFB ops late listed i = true) (hQ : ∀ c σ w, ¬ Q (.panic c) σ w)
    (hj : (ops[gj]?).bind (·.dst) = some gt) (ht : look σ gt = some undef)
    (k : DW P n ops Q (lateB late) C f (listed.setIfInBounds i true) ((d, undef) :: σ) w) (hdn : d < n := by decide) : DW P n ops Q (lateB late) C (f + 1) listed σ w :=
  .skipF i hi hB rfl hQ (.inr ⟨gt, hj, ht, rfl⟩) k hdn
end dw
end Go.Proofs.Ytgbajkdomcmblaa.Vc
