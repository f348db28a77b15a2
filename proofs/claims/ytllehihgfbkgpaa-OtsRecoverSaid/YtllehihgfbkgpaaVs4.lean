/-
  VALUE SEMANTICS, 4: the operations without memory do on the model's values what they do on abstract ones.
  Conditions: none; over any program.
-/
import Derived.Test.YtllehihgfbkgpaaVs3
set_option linter.unusedSimpArgs false
set_option linter.unusedVariables false
namespace Go.VS

def OpOk (c : Ctx) (k : KV) (w : World) (ro : Nat → Prop) (ρ : Rho) (v : Value) (w' : World) : Prop :=
  ∃ r rows' ro' ρ', k r rows' ∧ Good c rows' w' ro' ρ' ∧ Rd w' ro' ρ' v r ∧ Ext w ro ρ w' ro' ρ'

def Runs (P : Program) (s : Sem Value) (c : Ctx) (k : KV) (w : World) (ro : Nat → Prop) (ρ : Rho) : Prop :=
  ∃ v w', s.run P w = .ok v w' ∧ OpOk c k w ro ρ v w'

section
variable {P : Program} {c : Ctx} {rows : List Row} {w : World} {ro : Nat → Prop} {ρ : Rho} {k : KV}

theorem Runs.same {s : Sem Value} {v : Value} {r : V} (g : Good c rows w ro ρ) (hr : s.run P w = .ok v w) (hv : Rd w ro ρ v r) (hk : k r rows) : Runs P s c k w ro ρ :=
  ⟨v, w, hr, r, rows, ro, ρ, hk, g, hv, Ext.refl _ _ _⟩

theorem rd_int {u : Value} {kd : IntKind} {n : Int} (h : Rd w ro ρ u (.int kd n)) : u = .int kd n := by cases h; rfl
theorem rd_bool {u : Value} {b : Bool} (h : Rd w ro ρ u (.bool b)) : u = .bool b := by cases h; rfl
theorem rd_str {u : Value} {s : List UInt8} (h : Rd w ro ρ u (.str s)) : u = .string ⟨s.toArray⟩ := by cases h; rfl
theorem rd_nils {u : Value} (h : Rd w ro ρ u .nils) : u = .slice none 0 0 := by cases h; rfl
theorem rd_nilp {u : Value} (h : Rd w ro ρ u .nilp) : u = .pointer none := by cases h; rfl
theorem rd_agg {u : Value} {cs : List V} (h : Rd w ro ρ u (.agg cs)) : ∃ us : Array Value, u = .agg us ∧ Rds w ro ρ us.toList cs := by
  cases h with
  | agg h1 h2 => exact ⟨_, rfl, by simpa using h1, fun i u x hu hx => h2 i u x (by simpa using hu) hx⟩
theorem rd_tup {u : Value} {cs : List V} (h : Rd w ro ρ u (.tup cs)) : ∃ us : Array Value, u = .tuple us ∧ Rds w ro ρ us.toList cs := by
  cases h with
  | tup h1 h2 => exact ⟨_, rfl, by simpa using h1, fun i u x hu hx => h2 i u x (by simpa using hu) hx⟩
theorem Rds.agg {us : Array Value} {cs : List V} (h : Rds w ro ρ us.toList cs) : Rd w ro ρ (.agg us) (.agg cs) :=
  .agg (by simpa using h.1) fun i u x hu hx => h.2 i u x (by simpa using hu) hx
theorem Rds.tup {us : Array Value} {cs : List V} (h : Rds w ro ρ us.toList cs) : Rd w ro ρ (.tuple us) (.tup cs) :=
  .tup (by simpa using h.1) fun i u x hu hx => h.2 i u x (by simpa using hu) hx

theorem Rds.get {us : List Value} {xs : List V} (h : Rds w ro ρ us xs) {i : Nat} {x : V} (hx : xs[i]? = some x) : ∃ u, us[i]? = some u ∧ Rd w ro ρ u x := by
  have hlt : i < us.length := by rw [h.1]; exact (List.getElem?_eq_some_iff.1 hx).1
  exact ⟨us[i], by simp [hlt], h.2 i _ x (by simp [hlt]) hx⟩

theorem Rds.drop {us : List Value} {xs : List V} (h : Rds w ro ρ us xs) (n : Nat) : Rds w ro ρ (us.drop n) (xs.drop n) :=
  ⟨by simp [h.1], fun i u x hu hx => h.2 (n + i) u x (by rwa [List.getElem?_drop] at hu) (by rwa [List.getElem?_drop] at hx)⟩
theorem Rds.take {us : List Value} {xs : List V} (h : Rds w ro ρ us xs) (n : Nat) : Rds w ro ρ (us.take n) (xs.take n) :=
  ⟨by simp [h.1], fun i u x hu hx => by
    rw [List.getElem?_take] at hu hx
    split at hu <;> simp_all
    exact h.2 i u x hu hx⟩

/-! ### Integers, strings -/

theorem runs_aint {op : BinOp} {kd kd' : IntKind} {a b : Int} {xt : TypeId} {ox oy : Operand} (g : Good c rows w ro ρ)
    (h : aint op kd a kd' b fun v => k v rows) : Runs P (do eqGuard op xt ox oy (.int kd a) (.int kd' b); binOp op xt (.int kd a) (.int kd' b)) c k w ro ρ := by
  have hp : ∀ n : Nat, (0 : Int) ≤ 2 ^ n := fun n => Int.pow_nonneg (by decide)
  cases op <;> simp only [aint] at h
  case add => obtain ⟨rfl, h⟩ := h; exact .same g (by simp [eqGuard, binOp, Op.intArith]) .int h
  case sub => obtain ⟨rfl, h⟩ := h; exact .same g (by simp [eqGuard, binOp, Op.intArith]) .int h
  case mul => obtain ⟨rfl, h⟩ := h; exact .same g (by simp [eqGuard, binOp, Op.intArith]) .int h
  case quo => obtain ⟨rfl, hb, h⟩ := h; exact .same g (by simp [eqGuard, binOp, Op.intDiv, hb]) .int h
  case rem => obtain ⟨rfl, hb, h⟩ := h; exact .same g (by simp [eqGuard, binOp, Op.intDiv, hb]) .int h
  case and => obtain ⟨rfl, h⟩ := h; exact .same g (by simp [eqGuard, binOp, Op.intBits, bits]) .int h
  case or => obtain ⟨rfl, h⟩ := h; exact .same g (by simp [eqGuard, binOp, Op.intBits, bits]) .int h
  case xor => obtain ⟨rfl, h⟩ := h; exact .same g (by simp [eqGuard, binOp, Op.intBits, bits]) .int h
  case andNot => obtain ⟨rfl, h⟩ := h; exact .same g (by simp [eqGuard, binOp, Op.intBits, bits]) .int h
  case shl => obtain ⟨hb, h⟩ := h; exact .same g (by simp [eqGuard, binOp, Op.shift, Int.not_lt.2 hb]) .int h
  case shr => obtain ⟨hb, h⟩ := h; exact .same g (by simp [eqGuard, binOp, Op.shift, Int.not_lt.2 hb, Int.fdiv_eq_ediv_of_nonneg _ (hp _)]) .int h
  case eql => obtain ⟨rfl, h⟩ := h; exact .same g (by simp [eqGuard, binOp, Op.intCmp]) .bool h
  case neq => obtain ⟨rfl, h⟩ := h; exact .same g (by simp [eqGuard, binOp, Op.intCmp]) .bool h
  case lss => obtain ⟨rfl, h⟩ := h; exact .same g (by simp [eqGuard, binOp, Op.intCmp]) .bool h
  case leq => obtain ⟨rfl, h⟩ := h; exact .same g (by simp [eqGuard, binOp, Op.intCmp]) .bool h
  case gtr => obtain ⟨rfl, h⟩ := h; exact .same g (by simp [eqGuard, binOp, Op.intCmp]) .bool h
  case geq => obtain ⟨rfl, h⟩ := h; exact .same g (by simp [eqGuard, binOp, Op.intCmp]) .bool h

theorem str_append (a b : List UInt8) : (⟨a.toArray⟩ : ByteArray) ++ ⟨b.toArray⟩ = ⟨(a ++ b).toArray⟩ := by
  apply ByteArray.ext
  simp
theorem str_toList (a : List UInt8) : (⟨a.toArray⟩ : ByteArray).toList = a := by simp
theorem str_size (a : List UInt8) : (⟨a.toArray⟩ : ByteArray).size = a.length := by simp [ByteArray.size]

theorem runs_astr {op : BinOp} {a b : List UInt8} {xt : TypeId} {ox oy : Operand} (g : Good c rows w ro ρ)
    (h : astr op a b fun v => k v rows) : Runs P (do eqGuard op xt ox oy (.string ⟨a.toArray⟩) (.string ⟨b.toArray⟩); binOp op xt (.string ⟨a.toArray⟩) (.string ⟨b.toArray⟩)) c k w ro ρ := by
  cases op <;> simp only [astr] at h
  case add =>
    obtain ⟨hb, h⟩ := h
    exact .same g (by simp [eqGuard, binOp, Op.stringOp, str_size, str_append]; omega) .str h
  case eql => exact .same g (by simp [eqGuard, binOp, Op.stringOp]) .bool h
  case neq => exact .same g (by simp [eqGuard, binOp, Op.stringOp]) .bool h
  case lss => exact .same g (by simp [eqGuard, binOp, Op.stringOp]) .bool h
  case leq => exact .same g (by simp [eqGuard, binOp, Op.stringOp]) .bool h
  case gtr => exact .same g (by simp [eqGuard, binOp, Op.stringOp]) .bool h
  case geq => exact .same g (by simp [eqGuard, binOp, Op.stringOp]) .bool h

theorem runs_aun {op : UnOp} {x : V} {u : Value} (g : Good c rows w ro ρ) (hx : Rd w ro ρ u x) (h : aun op x fun v => k v rows) : Runs P (Op.unary op u) c k w ro ρ := by
  unfold aun at h
  split at h
  · obtain rfl := rd_int hx; exact .same g (by simp [Op.unary, Op.intArith]) .int h
  · obtain rfl := rd_int hx; exact .same g (by simp [Op.unary, Op.intBits, bits]) .int h
  · obtain rfl := rd_bool hx; exact .same g (by simp [Op.unary]) .bool h
  · exact h.elim

/-! ### Aggregates -/

theorem run_isAgg' {t : TypeId} {b : Bool} (h : uagg P t = some b) : (isAgg t).run P w = .ok b w := by
  unfold uagg at h
  split at h
  · rename_i hu; simp at h; subst h; simp [isAgg, run_underlying hu]
  · rename_i hu; simp at h; subst h; simp [isAgg, run_underlying hu]
  · rename_i d h1 h2 hu
    simp at h; subst h
    simp only [isAgg, Sem.run_bind, run_underlying hu, Result.andThen_ok]
    first | rfl | (split <;> simp_all)
  · simp at h

theorem usz_info {t : TypeId} {n : Nat} (h : usz P t = some n) : ∃ i, P.info? t = some i ∧ i.size = n := by
  simpa [usz] using h

theorem run_size {t : TypeId} {n : Nat} (h : usz P t = some n) : (sizeOf t).run P w = .ok n w := by
  obtain ⟨i, hi, rfl⟩ := usz_info h
  simp [sizeOf, typeInfo, hi]

theorem run_part {t : TypeId} {cs : List V} {us : Array Value} {off : Nat} {r : V} (hr : Rds w ro ρ us.toList cs) (h : opart P t cs off = some r) :
    ∃ v, (part t us off).run P w = .ok v w ∧ Rd w ro ρ v r := by
  unfold opart at h
  split at h
  · rename_i ha
    cases hn : usz P t with
    | none => simp [hn] at h
    | some n =>
      simp [hn] at h
      subst h
      refine ⟨.agg (us.extract off (off + n)), by simp [part, run_isAgg' ha, run_size hn], ?_⟩
      refine Rds.agg ?_
      have : (us.extract off (off + n)).toList = (us.toList.drop off).take n := by simp
      rw [this]
      exact (hr.drop off).take n
  · rename_i ha
    obtain ⟨u, hu, hrd⟩ := hr.get h
    have hu' : us[off]? = some u := by simpa using hu
    exact ⟨u, by simp [part, run_isAgg' ha, hu'], hrd⟩
  · simp at h

theorem apart_opart {t : TypeId} {cs : List V} {off : Nat} {k : V → Prop} (h : apart P t cs off k) : ∃ r, opart P t cs off = some r ∧ k r := by
  unfold apart at h
  unfold opart
  split at h
  · rename_i ha
    obtain ⟨n, hn, hk⟩ := h
    exact ⟨_, by simp [ha, hn], hk⟩
  · rename_i ha
    obtain ⟨v, hv, hk⟩ := h
    exact ⟨v, by simp [ha, hv], hk⟩
  · exact h.elim

theorem runs_afield {t : TypeId} {x : V} {u : Value} {f : Nat} (g : Good c rows w ro ρ) (hx : Rd w ro ρ u x) (h : afield P t x f fun v => k v rows) : Runs P (Instr.field t u f) c k w ro ρ := by
  unfold afield at h
  split at h
  · obtain ⟨ft, o, hf, h⟩ := h
    obtain ⟨r, hr, hk⟩ := apart_opart h
    obtain ⟨us, rfl, hus⟩ := rd_agg hx
    obtain ⟨v, hv, hrd⟩ := run_part (P := P) hus hr
    unfold ufield at hf
    split at hf
    · rename_i fs hu
      cases hd : fs[f]? with
      | none => simp [hd] at hf
      | some d =>
        simp [hd] at hf
        obtain ⟨rfl, rfl⟩ := hf
        exact .same g (by simp [Instr.field, run_underlying hu, hd, asAgg, hv]) hrd hk
    · simp at hf
  · exact h.elim

theorem uslice_under {t e : TypeId} (h : uslice P t = some e) : P.underlying t = some (.slice e) := by
  unfold uslice at h; split at h <;> simp_all
theorem uarr_under {t e : TypeId} {n : Nat} (h : uarr P t = some (n, e)) : P.underlying t = some (.array n e) := by
  unfold uarr at h; split at h <;> simp_all
theorem ustr_under {t : TypeId} (h : ustr P t = true) : P.underlying t = some .string := by
  unfold ustr at h; split at h <;> simp_all
theorem uint_under {t : TypeId} {kd : IntKind} (h : uint P t = some kd) : P.underlying t = some (.int kd) := by
  unfold uint at h; split at h <;> simp_all

theorem runs_aindex {t : TypeId} {x ix : V} {u i : Value} (g : Good c rows w ro ρ) (hx : Rd w ro ρ u x) (hi : Rd w ro ρ i ix) (h : aindex P t x ix fun v => k v rows) : Runs P (Instr.index t u i) c k w ro ρ := by
  cases ix with
  | int kd n =>
    obtain rfl := rd_int hi
    cases x with
    | agg cs =>
      obtain ⟨m, e, sz, hu, hs, h0, h1, h⟩ := h
      obtain ⟨r, hr, hk⟩ := apart_opart h
      obtain ⟨us, rfl, hus⟩ := rd_agg hx
      obtain ⟨v, hv, hrd⟩ := run_part (P := P) hus hr
      exact .same g (by simp [Instr.index, asIntOf, run_underlying (uarr_under hu), h0, h1, run_size hs, hv]) hrd hk
    | str s =>
      obtain ⟨hu, h0, b, hb, hk⟩ := h
      obtain rfl := rd_str hx
      have hb' : (ByteArray.mk s.toArray)[n.toNat]? = some b := by
        have hlt : n.toNat < s.length := (List.getElem?_eq_some_iff.1 hb).1
        have e := (List.getElem?_eq_some_iff.1 hb).2
        rw [getElem?_pos _ _ (by simpa [ByteArray.size] using hlt)]
        simp [ByteArray.getElem_eq_getElem_data, e]
      exact .same g (by simp [Instr.index, asIntOf, run_underlying (ustr_under hu), h0, hb']) .int hk
    | _ => exact False.elim h
  | _ => exact False.elim h

/-! ### '==' -/

theorem run_loop_eq {α : Type} (B : α → Sem (ForInStep (Option Bool × Unit))) (q : α → Option Bool)
    (hB : ∀ a b, q a = some b → (B a).run P w = .ok (if b then .yield (none, ()) else .done (some false, ())) w) : ∀ (l : List α) (r : Bool),
    l.foldr (fun a acc => match q a with | some true => acc | some false => some false | none => none) (some true) = some r →
    (forIn l (none, ()) fun a _ => B a).run P w = .ok ((if r then none else some false), ()) w
  | [], r, h => by
    simp at h; subst h; rfl
  | a :: l, r, h => by
    simp only [List.foldr_cons] at h
    cases hq : q a with
    | none => simp [hq] at h
    | some b =>
      have ha := hB a b hq
      cases b with
      | true =>
        simp only [hq] at h
        simp [List.forIn_cons, ha, run_loop_eq B q hB l r h]
      | false =>
        simp [hq] at h
        subst h
        simp [List.forIn_cons, ha]

theorem str_beq (a b : List UInt8) : ((⟨a.toArray⟩ : ByteArray) == ⟨b.toArray⟩) = (a == b) := by
  rw [Bool.eq_iff_iff]
  show (a.toArray == b.toArray) = true ↔ _
  simp

theorem run_aeq_struct {d D : Nat} (ih : ∀ (t : TypeId) (x y : V) (u v : Value) (r : Bool), aeq P d t x y = some r → Rd w ro ρ u x → Rd w ro ρ v y → (Op.equalIn D t u v).run P w = .ok r w)
    {t : TypeId} {fs : Array Field} {xs ys : List V} {us vs : Array Value} (hu : P.underlying t = some (.struct fs)) (hs : P.stoodInHeld t = false) (hus : Rds w ro ρ us.toList xs) (hvs : Rds w ro ρ vs.toList ys) {r : Bool}
    (h : fs.toList.foldr (fun f acc => if f.name ≠ "_" then (match opart P f.type xs f.offset, opart P f.type ys f.offset with
          | some a, some b => (match aeq P d f.type a b with | some true => acc | some false => some false | none => none)
          | _, _ => none) else acc) (some true) = some r) : (Op.equalIn (D + 1) t (.agg us) (.agg vs)).run P w = .ok r w := by
  have hl := run_loop_eq (P := P) (w := w) (fun f : Field => if f.name = "_" then pure (ForInStep.yield (none, ())) else do
          let a ← part f.type us f.offset
          let b ← part f.type vs f.offset
          let e ← Op.equalIn D f.type a b
          if e = false then pure (ForInStep.done (some false, ())) else pure (ForInStep.yield (none, ())))
    (fun f => if f.name ≠ "_" then (match opart P f.type xs f.offset, opart P f.type ys f.offset with | some a, some b => aeq P d f.type a b | _, _ => none) else some true)
    (fun f b hq => by
      by_cases hn : f.name = "_"
      · simp [hn] at hq ⊢; subst hq; rfl
      · simp only [hn, ne_eq, not_false_eq_true, if_true] at hq
        split at hq
        · rename_i a b' ha hb
          obtain ⟨va, hva, ra⟩ := run_part (P := P) hus ha
          obtain ⟨vb, hvb, rb⟩ := run_part (P := P) hvs hb
          have he := ih f.type a b' va vb b hq ra rb
          cases b <;> simp [hn, hva, hvb, he]
        · simp at hq) fs.toList r (by
      rw [← h]
      congr 1
      funext f acc
      by_cases hn : f.name = "_"
      · simp [hn]
      · simp only [hn, ne_eq, not_false_eq_true, if_true]
        split <;> split <;> simp_all)
  simp only [Op.equalIn, Sem.run_bind, run_underlying hu, Result.andThen_ok, run_program]
  simp [hs]
  simp at hl
  rw [hl]
  cases r <;> simp

theorem run_aeq_array {d D : Nat} (ih : ∀ (t : TypeId) (x y : V) (u v : Value) (r : Bool), aeq P d t x y = some r → Rd w ro ρ u x → Rd w ro ρ v y → (Op.equalIn D t u v).run P w = .ok r w)
    {t e : TypeId} {n m : Nat} {xs ys : List V} {us vs : Array Value} (hu : P.underlying t = some (.array n e)) (hm : usz P e = some m) (hus : Rds w ro ρ us.toList xs) (hvs : Rds w ro ρ vs.toList ys) {r : Bool}
    (h : (List.range n).foldr (fun i acc => match opart P e xs (i * m), opart P e ys (i * m) with
          | some a, some b => (match aeq P d e a b with | some true => acc | some false => some false | none => none)
          | _, _ => none) (some true) = some r) : (Op.equalIn (D + 1) t (.agg us) (.agg vs)).run P w = .ok r w := by
  have hl := run_loop_eq (P := P) (w := w) (fun i : Nat => do
          let a ← part e us (i * m)
          let b ← part e vs (i * m)
          let q ← Op.equalIn D e a b
          if q = false then pure (ForInStep.done (some false, ())) else pure (ForInStep.yield (none, ())))
    (fun i => (match opart P e xs (i * m), opart P e ys (i * m) with | some a, some b => aeq P d e a b | _, _ => none))
    (fun i b hq => by
        split at hq
        · rename_i a b' ha hb
          obtain ⟨va, hva, ra⟩ := run_part (P := P) hus ha
          obtain ⟨vb, hvb, rb⟩ := run_part (P := P) hvs hb
          have he := ih e a b' va vb b hq ra rb
          cases b <;> simp [hva, hvb, he]
        · simp at hq) (List.range n) r (by
      rw [← h]
      congr 1
      funext i acc
      split <;> split <;> simp_all)
  simp only [Op.equalIn, Sem.run_bind, run_underlying hu, Result.andThen_ok, run_size hm]
  simp
  rw [← List.range_eq_range']
  rw [hl]
  cases r <;> simp

theorem run_aeq : ∀ (d : Nat) (t : TypeId) (x y : V) (u v : Value) (r : Bool), aeq P d t x y = some r → Rd w ro ρ u x → Rd w ro ρ v y → ∀ D, d ≤ D → (Op.equalIn D t u v).run P w = .ok r w
  | 0, _, _, _, _, _, _, h, _, _, _, _ => by simp [aeq] at h
  | d + 1, t, x, y, u, v, r, h, hx, hy, 0, hD => by omega
  | d + 1, t, x, y, u, v, r, h, hx, hy, D + 1, hD => by
    have ih : ∀ (t : TypeId) (x y : V) (u v : Value) (r : Bool), aeq P d t x y = some r → Rd w ro ρ u x → Rd w ro ρ v y → (Op.equalIn D t u v).run P w = .ok r w :=
      fun t x y u v r h hx hy => run_aeq d t x y u v r h hx hy D (by omega)
    unfold aeq at h
    split at h
    · rename_i hu; simp at h; subst h; obtain rfl := rd_bool hx; obtain rfl := rd_bool hy; simp [Op.equalIn, run_underlying hu]
    · rename_i hu; split at h <;> simp at h
      rename_i hk; subst h; subst hk; obtain rfl := rd_int hx; obtain rfl := rd_int hy; simp [Op.equalIn, run_underlying hu]
    · rename_i hu; simp at h; subst h; obtain rfl := rd_str hx; obtain rfl := rd_str hy; simp [Op.equalIn, run_underlying hu, str_beq]
    · rename_i hu; simp at h; subst h; obtain rfl := rd_nilp hx; obtain rfl := rd_nilp hy; simp [Op.equalIn, run_underlying hu]
    · rename_i hu; simp at h; subst h; obtain rfl := rd_nilp hx; cases hy; simp [Op.equalIn, run_underlying hu]
    · rename_i hu; simp at h; subst h; obtain rfl := rd_nilp hy; cases hx; simp [Op.equalIn, run_underlying hu]
    · rename_i hu; simp at h; subst h; obtain rfl := rd_nilp hx; cases hy; simp [Op.equalIn, run_underlying hu]
    · rename_i hu; simp at h; subst h; obtain rfl := rd_nilp hy; cases hx; simp [Op.equalIn, run_underlying hu]
    · rename_i hu; simp at h; subst h; obtain rfl := rd_nils hx; obtain rfl := rd_nils hy; simp [Op.equalIn, run_underlying hu]
    · rename_i hu; simp at h; subst h; obtain rfl := rd_nils hx; cases hy; simp [Op.equalIn, run_underlying hu]
    · rename_i hu; simp at h; subst h; obtain rfl := rd_nils hy; cases hx; simp [Op.equalIn, run_underlying hu]
    · rename_i hu; simp at h; subst h; obtain rfl := rd_nils hx; cases hy; simp [Op.equalIn, run_underlying hu]
    · rename_i hu; simp at h; subst h; obtain rfl := rd_nils hy; cases hx; simp [Op.equalIn, run_underlying hu]
    · rename_i hu; simp at h; subst h; cases hx; cases hy; simp [Op.equalIn, run_underlying hu]
    · rename_i hu; simp at h; subst h; cases hx; cases hy; simp [Op.equalIn, run_underlying hu]
    · rename_i hu; simp at h; subst h; cases hx; cases hy; simp [Op.equalIn, run_underlying hu]
    · rename_i hu; simp at h; subst h; cases hx; cases hy; simp [Op.equalIn, run_underlying hu]
    · rename_i fs xs ys hu
      split at h
      · simp at h
      rename_i hs
      obtain ⟨us, rfl, hus⟩ := rd_agg hx
      obtain ⟨vs, rfl, hvs⟩ := rd_agg hy
      exact run_aeq_struct ih hu (by simpa using hs) hus hvs h
    · rename_i n e xs ys hu
      split at h
      · simp at h
      rename_i m hm
      obtain ⟨us, rfl, hus⟩ := rd_agg hx
      obtain ⟨vs, rfl, hvs⟩ := rd_agg hy
      exact run_aeq_array ih hu hm hus hvs h
    · simp at h

theorem eqable_binOp {op : BinOp} {xt : TypeId} {ox oy : Operand} {u v : Value} {x : V} {r : Bool} (he : x.eqable = true) (hx : Rd w ro ρ u x) (hg : unguarded P xt x)
    (h : (Op.equal xt u v).run P w = .ok r w) (hop : op = .eql ∨ op = .neq) :
    (do eqGuard op xt ox oy u v; binOp op xt u v).run P w = .ok (.bool (if op = .eql then r else !r)) w := by
  have hn : u ≠ .nilIface := by rintro rfl; cases hx <;> simp [V.eqable] at he
  have h1 : (eqGuard op xt ox oy u v).run P w = .ok () w := by
    cases hx <;> simp [V.eqable] at he <;> (try (rcases hop with rfl | rfl <;> cases v <;> simp [eqGuard])) <;> (simp [unguarded] at hg; simp [hg])
  have h2 : (binOp op xt u v).run P w = .ok (.bool (if op = .eql then r else !r)) w := by
    rcases hop with rfl | rfl <;> cases hx <;> simp [V.eqable] at he <;> simp [binOp, h]
  simp [h1, h2]

theorem runs_abin {op : BinOp} {xt : TypeId} {ox oy : Operand} {x y : V} {u v : Value} (g : Good c rows w ro ρ) (hx : Rd w ro ρ u x) (hy : Rd w ro ρ v y)
    (h : abin P op xt x y fun v => k v rows) : Runs P (do eqGuard op xt ox oy u v; binOp op xt u v) c k w ro ρ := by
  unfold abin at h
  split at h
  · obtain rfl := rd_int hx; obtain rfl := rd_int hy; exact runs_aint g h
  · obtain rfl := rd_str hx; obtain rfl := rd_str hy; exact runs_astr g h
  · split at h
    · obtain ⟨he, hg, r, hr, hk⟩ := h
      have hq := run_aeq (P := P) 20 xt _ _ u v r hr hx hy Op.maxDepth (by unfold Op.maxDepth; omega)
      exact .same g (eqable_binOp (ox := ox) (oy := oy) he hx hg hq (.inl rfl)) .bool (by simpa using hk)
    · obtain ⟨he, hg, r, hr, hk⟩ := h
      have hq := run_aeq (P := P) 20 xt _ _ u v r hr hx hy Op.maxDepth (by unfold Op.maxDepth; omega)
      exact .same g (eqable_binOp (ox := ox) (oy := oy) he hx hg hq (.inr rfl)) .bool (by simpa using hk)
    · exact h.elim

end
end Go.VS
