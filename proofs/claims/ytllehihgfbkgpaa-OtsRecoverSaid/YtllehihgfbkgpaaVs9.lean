/-
  VALUE SEMANTICS, 9: append, copy, min, max: the built-in functions.
  Conditions: none; over any program.
-/
import Derived.Test.YtllehihgfbkgpaaVs8
set_option linter.unusedSimpArgs false
set_option linter.unusedVariables false
namespace Go.VS

section
variable {P : Program} {c : Ctx} {rows : List Row} {w : World} {ro : Nat → Prop} {ρ : Rho} {k : KV}

theorem run_append_fits {t t' ty e : TypeId} {sz n m cap : Nat} {base : Option Addr} {ux : Value} {un : Array Value} (hu : uslice P t = some e) (hs : usz P e = some sz) (ht : (uslice P t').isSome = true ∨ ustr P t' = true)
    (hln : (Builtin.lenOf ux).run P w = .ok m w) (hnew : (Builtin.firstCells sz m ux).run P w = .ok un w) (hle : n + m ≤ cap) {w' : World}
    (hst : ∀ a, base = some a → (storeCells (a.add (n * sz)) un.toList).run P w = .ok () w') (hbn : base = none → w' = w) :
    (Builtin.append_ #[t, t'] ty #[.slice base n cap, ux]).run P w = .ok (.slice base (n + m) cap) w' := by
  have key : ∀ dt, P.underlying t' = some dt → (dt = .string ∨ ∃ e', dt = .slice e') → (Builtin.append_ #[t, t'] ty #[.slice base n cap, ux]).run P w = .ok (.slice base (n + m) cap) w' := by
    intro dt hdt hk
    cases base with
    | none =>
      rw [hbn rfl]
      rcases hk with rfl | ⟨e', rfl⟩ <;>
      simp only [Builtin.append_, List.getElem?_toArray, List.getElem?_cons_zero, List.getElem?_cons_succ, Sem.run_bind, run_underlying (uslice_under hu), Result.andThen_ok, run_size hs, run_underlying hdt, Sem.run_pure,
        Bool.false_eq_true, if_false, hln, Bool.not_false, if_true, hle, hnew, Sem.run_ite]
    | some a =>
      rcases hk with rfl | ⟨e', rfl⟩ <;>
      simp only [Builtin.append_, List.getElem?_toArray, List.getElem?_cons_zero, List.getElem?_cons_succ, Sem.run_bind, run_underlying (uslice_under hu), Result.andThen_ok, run_size hs, run_underlying hdt, Sem.run_pure,
        Bool.false_eq_true, if_false, hln, Bool.not_false, if_true, hle, hnew, Sem.run_ite, hst a rfl]
  rcases ht with ht | ht
  · obtain ⟨e', he'⟩ := Option.isSome_iff_exists.1 ht
    exact key _ (uslice_under he') (.inr ⟨_, rfl⟩)
  · exact key _ (ustr_under ht) (.inl rfl)

theorem Free.dead {id id0 : Nat} {cs : List V} (hf : Free rows id) (hl : rows[id0]? = some (.live cs)) : Free (rows.set id0 .dead) id := by
  rcases hf with hf | hf
  · exact .inl (by simpa using hf)
  · right
    rw [List.getElem?_set]
    split
    · rename_i h; subst h; rw [hl] at hf; simp at hf
    · exact hf

theorem runs_aappend {t t' ty : TypeId} {s x : V} {us ux : Value} {id : Nat} (g : Good c rows w ro ρ) (hs : Rd w ro ρ us s) (hx : Rd w ro ρ ux x) (ht : (uslice P t').isSome = true ∨ ustr P t' = true)
    (h : aappend P t s x id rows k) : Runs P (Builtin.append_ #[t, t'] ty #[us, ux]) c k w ro ρ := by
  obtain ⟨e, sz, by', z, hu, hsz, hb, hz, hzl, h⟩ := h
  obtain ⟨m, new, un, ⟨hone, hk⟩, r1, r2, r3, r4⟩ := run_shown' (P := P) g hx h
  have hnewq : ∀ q, ∃ us, (Builtin.firstCells sz m ux).run P { w with drawn := q } = .ok us { w with drawn := q } ∧ Rds { w with drawn := q } ro ρ us.toList new ∧ us.size = m * sz :=
    fun q => ⟨un, r2 _ rfl, r3.ext (g.drew q).2, r4⟩
  cases s with
  | nils =>
    obtain ⟨hb1, hb2, hf, hk⟩ := hk
    obtain rfl := rd_nils hs
    by_cases hm : m = 0
    · subst hm
      have hnew0 : new = [] := by
        have := r3.1
        simp [r4] at this
        exact List.eq_nil_of_length_eq_zero this.symm
      subst hnew0
      have hun : un = #[] := Array.eq_empty_of_size_eq_zero (by simpa using r4)
      have hrun := run_append_fits (P := P) (w := w) (ty := ty) (n := 0) (cap := 0) (base := none) (w' := w) hu hsz ht r1 (r2 w rfl) (by omega) (fun a ha => by cases ha) (fun _ => rfl)
      obtain ⟨g1, e1⟩ := g.add' (p := .virt) (cs := []) hf (.inr ⟨rfl, rfl⟩)
      exact ⟨_, _, hrun, .osl id 0 0 sz, _, ro, _, hk, g1, .osl0 (get_rput g hf _) (fun h => by cases h) (fun x h => by cases h), e1⟩
    · have := append_grow (P := P) (ty := ty) (n := 0) (cap := 0) (base := none) (old := []) hu hsz hb hz hzl ht (by simpa using hb1) (by simpa using hb2) (by omega) r1 hnewq
        (fun q => ⟨#[], rfl, ⟨rfl, fun i u x hu => by simp at hu⟩, by simp⟩) g hf (by simpa using hk)
      simpa using this
  | osl id0 off n sz' =>
    obtain ⟨rfl, hb1, hb2, hf, cs, hl, hle, hk⟩ := hk
    have hdead := hf.dead hl
    obtain ⟨g1, e1⟩ := g.kill hl
    rcases rd_osl g hs hl with ⟨rfl, rfl, rfl, hvirt⟩ | ⟨y, o, cap, hy, hat, rfl, ho, hn, hm⟩
    · -- a nil slice
      by_cases hm : m = 0
      · subst hm
        have hnew0 : new = [] := by
          have := r3.1
          simp [r4] at this
          exact List.eq_nil_of_length_eq_zero this.symm
        subst hnew0
        have hrun := run_append_fits (P := P) (w := w) (ty := ty) (n := 0) (cap := 0) (base := none) (w' := w) hu hsz ht r1 (r2 w rfl) (by omega) (fun a ha => by cases ha) (fun _ => rfl)
        obtain ⟨g2, e2⟩ := g1.add' (p := .virt) (cs := []) hdead (.inr ⟨rfl, rfl⟩)
        exact ⟨_, _, hrun, .osl id 0 0 sz', _, ro, _, by simpa [sliceCells] using hk, g2, .osl0 (get_rput g1 hdead _) (fun h => by cases h) (fun x h => by cases h), e1.trans e2⟩
      · have := append_grow (P := P) (ty := ty) (n := 0) (cap := 0) (base := none) (old := []) (rows := rows.set id0 .dead) (ρ := ρ.set id0 .dead) hu hsz hb hz hzl ht hb1 hb2 (by omega) r1
          (fun q => by obtain ⟨us, q1, q2, q3⟩ := hnewq q; exact ⟨us, q1, q2.ext ⟨fun _ h => h, fun _ _ => rfl, e1.own⟩, q3⟩)
          (fun q => ⟨#[], rfl, ⟨rfl, fun i u x hu => by simp at hu⟩, by simp⟩) g1 hdead (by simpa [sliceCells] using hk)
        obtain ⟨v, w', p1, r, rows', ro', ρ', p2, p3, p4, p5⟩ := this
        exact ⟨v, w', p1, r, rows', ro', ρ', p2, p3, p4, e1.trans p5⟩
    · have hlt0 : id0 < ρ.length := (List.getElem?_eq_some_iff.1 hy).1
      have hnoρ : ∀ (j : Nat) x, (ρ.set id0 .dead)[j]? = some (.on x) → x.b ≠ y.b := by
        intro j x hj hb
        rw [List.getElem?_set] at hj
        split at hj
        · simp at hj
        · rename_i hne
          exact hne (g.inj id0 j y x hy hj hb.symm)
      have hold : ∃ uo : List Value, (∀ w', w'.heap = w.heap → (Builtin.firstCells sz' n (.slice (some ⟨y.b, o, none⟩) n cap)).run P w' = .ok uo.toArray w') ∧ Rds w ro ρ uo (sliceCells cs off (n * sz')) ∧ uo.length = n * sz' := by
        obtain ⟨n', cs', us, ⟨e1, e2⟩, q1, q2, q3, q4⟩ := run_shown' (P := P) (sz := sz') (K := fun a b => a = n ∧ b = sliceCells cs off (n * sz')) g hs ⟨rfl, cs, hl, hle, rfl, rfl⟩
        subst e1; subst e2
        exact ⟨us.toList, by simpa using q2, q3, by simpa using q4⟩
      obtain ⟨uo, ho1, ho2, ho3⟩ := hold
      by_cases hfit : n + m ≤ cap
      · -- within the capacity
        obtain ⟨C, te, fr, p1, p2, p3, p4, p5⟩ := hat
        have hmul : (n + m) * sz' ≤ cap * sz' := Nat.mul_le_mul_right _ hfit
        have hmul2 : (n + m) * sz' = n * sz' + m * sz' := Nat.add_mul _ _ _
        obtain ⟨w', C', s1, s2, s3, s4, s5, s6, s7, s8, s9⟩ := run_storeCells_blk (P := P) (b := y.b) (o := o + n * sz') un.toList 0 w C (r3.oneCell hone) p1 (by rw [p2]; exact p3) (by rw [p2]; simp [r4]; omega)
        have hrun := run_append_fits (P := P) (w := w) (ty := ty) (n := n) (cap := cap) (base := some ⟨y.b, o, none⟩) (w' := w') hu hsz ht r1 (r2 w rfl) hfit (fun a ha => by cases ha; rw [add_eq]; exact s1) (fun h => by cases h)
        obtain ⟨g2, e2⟩ := g1.loose y.b s2 s3 s4 s5 s6 (g.ownNew id0 y hy).2 hnoρ (g.ownNew id0 y hy).1
        have hext := e1.trans e2
        have hlen : (sliceCells cs off (n * sz')).length = n * sz' := by simp [sliceCells]; omega
        have hnl : new.length = m * sz' := by have := r3.1; simp [r4] at this; omega
        obtain ⟨g3, e3⟩ := g2.add (x := ⟨y.b, o, y.m⟩) (cs := sliceCells cs off (n * sz') ++ new) hdead (by
            refine ⟨C', te, fr, s7, by rw [s8, p2], p3, by simp [hlen, hnl]; omega, fun i v hv => ?_⟩
            show ∃ u, C'[o + i]? = some u ∧ _
            rw [s9]
            rw [List.getElem?_append, hlen] at hv
            split at hv
            · rename_i hi
              have hc0 : cap ≠ 0 := by
                intro h0
                subst h0
                have : n = 0 := by omega
                subst this
                simp at hi
              have ho' : o = y.o + off := by rcases ho with h | h; exact absurd h hc0; exact h
              subst ho'
              simp only [sliceCells, List.getElem?_take, List.getElem?_drop] at hv
              rw [if_pos hi] at hv
              obtain ⟨u, hu1, hu2⟩ := p5 (off + i) v hv
              refine ⟨u, ?_, hu2.ext hext⟩
              rw [if_neg (by simp [r4]; omega), ← hu1]
              congr 1
              omega
            · rename_i hi
              obtain ⟨u, hu1, hu2⟩ := r3.get hv
              refine ⟨u, ?_, hu2.ext hext⟩
              have hlt := (List.getElem?_eq_some_iff.1 hu1).1
              simp at hlt
              rw [if_pos (by simp; omega), ← hu1]
              congr 1
              omega) (g.ownNew id0 y hy).2 hnoρ (g.ownNew id0 y hy).1
        refine ⟨_, _, hrun, .osl id 0 (n + m) sz', _, ro, _, hk, g3, ?_, hext.trans e3⟩
        exact .osl (get_rput g2 hdead _) (fun h => by cases h) (fun h => by cases h) hfit (fun x hx => by cases hx; exact ⟨rfl, rfl, .inr rfl, hfit, hm⟩)
      · have := append_grow (P := P) (ty := ty) (n := n) (cap := cap) (base := some ⟨y.b, o, none⟩) (old := sliceCells cs off (n * sz')) (rows := rows.set id0 .dead) (ρ := ρ.set id0 .dead) hu hsz hb hz hzl ht hb1 hb2 (by omega) r1
          (fun q => by obtain ⟨us, q1, q2, q3⟩ := hnewq q; exact ⟨us, q1, q2.ext ⟨fun _ h => h, fun _ _ => rfl, e1.own⟩, q3⟩)
          (fun q => ⟨uo.toArray, ho1 _ rfl, (by rw [List.toList_toArray]; exact ho2.ext ⟨fun _ h => h, fun _ _ => rfl, e1.own⟩), by simpa using ho3⟩) g1 hdead hk
        obtain ⟨v, w', p1, r, rows', ro', ρ', p2, p3, p4, p5⟩ := this
        exact ⟨v, w', p1, r, rows', ro', ρ', p2, p3, p4, e1.trans p5⟩
  | _ => exact False.elim hk

/-! ### copy, min, max -/

theorem runs_acopy {t t' ty : TypeId} {d x : V} {ud ux : Value} (g : Good c rows w ro ρ) (hd : Rd w ro ρ ud d) (hx : Rd w ro ρ ux x) (h : acopy P t d x rows k) : Runs P (Builtin.copy_ #[t, t'] ty #[ud, ux]) c k w ro ρ := by
  cases d with
  | osl id off n sz =>
    obtain ⟨e, cs, hu, hs, hl, hne, hle, h⟩ := h
    obtain ⟨m, new, un, ⟨hm, hone, hk⟩, r1, r2, r3, r4⟩ := run_shown (P := P) g hx h
    have hnl : new.length = m * sz := by have := r3.1; simp [r4] at this; omega
    have hmul : m * sz ≤ n * sz := Nat.mul_le_mul_right _ hm
    rcases rd_osl g hd hl with ⟨-, -, rfl, -⟩ | ⟨y, o, cap, hy, hat, rfl, ho, hn, hmx⟩
    · exact absurd rfl hne
    · have hmin : Nat.min m n = m := Nat.min_eq_left hm
      by_cases hc0 : cap = 0
      · subst hc0
        obtain rfl : n = 0 := by omega
        obtain rfl : m = 0 := by omega
        have hn0 : new = [] := List.eq_nil_of_length_eq_zero (by simpa using hnl)
        subst hn0
        have hu0 : un = #[] := Array.eq_empty_of_size_eq_zero (by simpa using r4)
        subst hu0
        rw [lput, set_self hl] at hk
        exact .same (v := .int .i64 0) g (by simp [Builtin.copy_, run_underlying (uslice_under hu), r1, run_size hs, r2, storeCells, goInt]) .int (by simpa using hk)
      · obtain rfl : o = y.o + off := by rcases ho with h | h; exact absurd h hc0; exact h
        obtain ⟨w', s1, g1, e1⟩ := g.stored (P := P) (off := off) hl hy r3 hone (by omega)
        refine ⟨.int .i64 m, w', ?_, .int .i64 m, _, ro, ρ, hk, g1, .int, e1⟩
        have hmin' : min m n = m := hmin
        simp [Builtin.copy_, run_underlying (uslice_under hu), r1, hmin', run_size hs, r2, s1, goInt]
  | _ => exact False.elim h

theorem runs_aminmax {mx : Bool} {ts : Array TypeId} {ty : TypeId} {args : List V} {us : List Value} (g : Good c rows w ro ρ) (ha : Rds w ro ρ us args) (h : aminmax mx args fun v => k v rows) :
    Runs P (if mx then Builtin.max_ ts ty us.toArray else Builtin.min_ ts ty us.toArray) c k w ro ρ := by
  unfold aminmax at h
  split at h
  · rename_i kd a kd' b
    obtain ⟨rfl, h⟩ := h
    match us, ha with
    | [u, v], ha =>
      obtain rfl := rd_int (ha.2 0 u _ rfl rfl)
      obtain rfl := rd_int (ha.2 1 v _ rfl rfl)
      cases mx
      · exact .same g (by simp [Builtin.min_, Builtin.min2]) .int h
      · exact .same g (by simp [Builtin.max_, Builtin.max2]) .int h
    | [], ha => simp [Rds] at ha
    | [_], ha => simp [Rds] at ha
    | _ :: _ :: _ :: _, ha => simp [Rds] at ha
  · rename_i kd a kd' b kd'' c
    obtain ⟨rfl, rfl, h⟩ := h
    match us, ha with
    | [u, v, q], ha =>
      obtain rfl := rd_int (ha.2 0 u _ rfl rfl)
      obtain rfl := rd_int (ha.2 1 v _ rfl rfl)
      obtain rfl := rd_int (ha.2 2 q _ rfl rfl)
      cases mx
      · exact .same g (by simp [Builtin.min_, Builtin.min2]) .int h
      · exact .same g (by simp [Builtin.max_, Builtin.max2]) .int h
    | [], ha => simp [Rds] at ha
    | [_], ha => simp [Rds] at ha
    | [_, _], ha => simp [Rds] at ha
    | _ :: _ :: _ :: _ :: _, ha => simp [Rds] at ha
  · exact h.elim

end
end Go.VS
