/-
  VALUE SEMANTICS, 29: regions whose guards hang on operations that were passed over.
  VALUE SEMANTICS, 32: slices.Clone, from the kit's contract: as a read-only view, and as a new row.
  Conditions: none.
-/
import Derived.Test.YtcfmanhblonjeaaGreatGd
import Derived.Laws.AppendOwn
set_option linter.unusedSimpArgs false
set_option linter.unusedVariables false
namespace Go.VS

def noBool : Value → Bool
  | .bool _ => false
  | _ => true
/-- What an operation that is passed over leaves. -/
def vundef : V := .val undef
@[simp] theorem noBool_undef : noBool undef = true := rfl

/-- What a guard says; an operation that was passed over fulfils none. -/
def gvalU (ops : Array Oper) (g : Option (Nat × Bool)) (s : List V) : Option Bool :=
  match g with
  | none => some true
  | some (j, want) => match (ops[j]?).bind (·.dst) with
    | some d => (match sget s d with
      | .bool b => some (b == want)
      | .val u => if noBool u = true then some false else none
      | _ => none)
    | none => none

def arunU (P : Program) (ops : Array Oper) : List Oper → List V → List Row → KS → Prop
  | [], s, rows, K => K s rows
  | o :: os, s, rows, K => (gvalU ops o.guard s = some true ∧ aeff P false o.op rows.length s rows fun v rows' => arunU P ops os (sput s o.dst v) rows' K) ∨ (gvalU ops o.guard s = some false ∧ arunU P ops os (sput s o.dst vundef) rows K)

section
variable {P : Program} {n0 : Nat} {Q : Exit → KS} {s : List V} {rows : List Row}

theorem wanted_ofU {w : World} {ro : Nat → Prop} {ρ : Rho} {a : Act} {ops : Array Oper} {o : Oper} {b : Bool} (hs : Slots w ro ρ a s) (h : gvalU ops o.guard s = some b) : Region.wanted o (yielded ops a.tmps) = b := by
  unfold gvalU at h
  split at h
  · rename_i hg; simp at h; subst h; simp [Region.wanted, hg]
  · rename_i j want hg
    split at h
    · rename_i d hd
      have hget : ∀ {x : V}, sget s d = x → x ≠ .junk → ∃ u, a.tmps.toList[d]? = some u ∧ Rd w ro ρ u x := by
        intro x hx hn
        have hlt : d < s.length := by
          rcases Nat.lt_or_ge d s.length with h | h
          · exact h
          · rw [sget_eq, List.getElem?_eq_none h] at hx; exact absurd hx.symm hn
        have hsd : s[d]? = some x := by
          rw [sget_eq] at hx
          obtain ⟨y, hy⟩ := get_iff hlt
          rw [hy] at hx ⊢
          simpa using hx
        exact hs.rds.get hsd
      split at h
      · rename_i b' hb
        obtain ⟨u, hu, hr⟩ := hget hb (by simp)
        obtain rfl := rd_bool hr
        have hy : yielded ops a.tmps j = some b' := by
          unfold yielded
          rw [hd]
          have : a.tmps[d]? = some (.bool b') := by simpa using hu
          simp [this]
        simp at h
        subst h
        simp [Region.wanted, hg, hy]
      · rename_i u hb
        split at h
        · rename_i hnb
          simp at h
          subst h
          obtain ⟨u', hu, hr⟩ := hget hb (by simp)
          have he : u' = u := by cases hr; rfl
          subst he
          have ha : a.tmps[d]? = some u' := by simpa using hu
          have hy : yielded ops a.tmps j = none := by
            unfold yielded
            rw [hd]
            cases u' <;> simp_all [noBool]
          simp [Region.wanted, hg, hy]
        · simp at h
      · simp at h
    · simp at h

theorem arunU_sound {ops : Array Oper} {K : KS} : ∀ (is : List Nat) (os : List Oper), is.length = os.length → (∀ (t : Nat) i o, is[t]? = some i → os[t]? = some o → ops[i]? = some o) → ∀ (s : List V) (rows : List Row) (c : Ctx) (a : Act) (w : World), GOk P c →
    arunU P ops os s rows K → Conc c s rows a w → wpOps P ops (lift c (athen K Q)) is a w
  | [], [], _, _, s, rows, c, a, w, _, h, hc => ⟨s, rows, h, hc⟩
  | [], _ :: _, hl, _, _, _, _, _, _, _, _, _ => by simp at hl
  | _ :: _, [], hl, _, _, _, _, _, _, _, _, _ => by simp at hl
  | i :: is, o :: os, hl, ho, s, rows, c, a, w, go, h, hc => by
    obtain ⟨ro, ρ, g, hs⟩ := hc
    have hio : ops[i]? = some o := ho 0 i o rfl rfl
    have ih := fun s rows a w (h : arunU P ops os s rows K) hc => arunU_sound is os (by simpa using hl) (fun t i o h1 h2 => ho (t + 1) i o (by simpa using h1) (by simpa using h2)) s rows c a w go h hc
    rw [wpOps_cons]
    unfold wpOp
    simp only [hio]
    simp only [arunU] at h
    rcases h with ⟨hg, h⟩ | ⟨hg, h⟩
    · have hw := wanted_ofU (o := o) hs hg
      rw [if_pos hw]
      refine .inl (oper_wp (c := c) go hs g h ?_)
      intro v w' r rows' ro' ρ' h1 h2 h3
      exact ih _ _ _ _ h1 ⟨ro', ρ', h2, h3⟩
    · have hw := wanted_ofU (o := o) hs hg
      rw [if_neg (by simp [hw])]
      exact ih _ _ _ _ h ⟨ro, ρ, g, hs.put .val o.dst⟩

theorem awp_regionU {id : Nat} {ops : Array Oper} (h : arunU P ops ops.toList s rows (Q .normal)) : AWp P n0 (.region id ops false) Q s rows := by
  intro c a w hn hc
  have := arunU_sound (P := P) (Q := Q) (K := Q .normal) (List.range ops.size) ops.toList (by simp) (fun t i o h1 h2 => by
    have hlt := (List.getElem?_eq_some_iff.1 h1).1
    simp at hlt
    rw [List.getElem?_range hlt] at h1
    simp at h1
    subst h1
    simpa using h2) s rows c a w hn.2 h hc
  refine wp_mono (wp_region this) ?_
  rintro e a' w' ⟨s', rows', hQ, hc'⟩
  cases e <;> exact ⟨s', rows', hQ, hc'⟩

section
variable {ops : Array Oper} {K : KS} {o : Oper} {os : List Oper}
theorem arunU_end (h : K s rows) : arunU P ops [] s rows K := h
theorem arunU_go (hg : gvalU ops o.guard s = some true) (h : ∀ K2 : KV, (∀ v rows', arunU P ops os (sput s o.dst v) rows' K → K2 v rows') → aeff P false o.op rows.length s rows K2) : arunU P ops (o :: os) s rows K := .inl ⟨hg, h _ fun _ _ h => h⟩
theorem arunU_go0 (hg : o.guard = none) (h : ∀ K2 : KV, (∀ v rows', arunU P ops os (sput s o.dst v) rows' K → K2 v rows') → aeff P false o.op rows.length s rows K2) : arunU P ops (o :: os) s rows K := arunU_go (by unfold gvalU; rw [hg]) h
theorem arunU_no (hg : gvalU ops o.guard s = some false) (h : arunU P ops os (sput s o.dst vundef) rows K) : arunU P ops (o :: os) s rows K := .inr ⟨hg, h⟩
theorem arunU_slots {s' : List V} (e : s = s') (h : arunU P ops os s' rows K) : arunU P ops os s rows K := by subst e; exact h
end
end
attribute [simp] gvalU vundef

/-- Three parts, where what comes behind them is proved once for several ends. -/
theorem awp_seq3' {n0 : Nat} {P : Program} {Q : Exit → KS} {s : List V} {rows : List Row} {x y z v : Code}
    (h : ∀ K : KS, (∀ s rows, AWp P n0 v Q s rows → K s rows) → (∀ s rows s' rows', Le n0 s rows s' rows' → K s' rows' → K s rows) →
      AWp P n0 x (athen (fun s rows => AWp P n0 y (athen (fun s rows => AWp P n0 z (athen K Q) s rows) Q) s rows) Q) s rows) : AWp P n0 (.seq x (.seq y (.seq z v))) Q s rows := by
  refine awp_seq fun Ka hKa => awp_mono (h (AWp P n0 v Q) (fun _ _ h => h) (fun _ _ _ _ hl h => awp_le hl h)) fun e s rows he => ?_
  cases e <;> first | exact he | refine hKa _ _ (awp_seq fun Kb hKb => awp_mono (show AWp P n0 y _ s rows from he) fun e s rows he => ?_)
  cases e <;> first | exact he | refine hKb _ _ (awp_seq fun Kc hKc => awp_mono (show AWp P n0 z _ s rows from he) fun e s rows he => ?_)
  cases e <;> first | exact he | exact hKc _ _ he

end Go.VS
set_option linter.unusedSimpArgs false
set_option linter.unusedVariables false
namespace Go.VS
open Go.RowKit

/-- What slices.Clone does, at elements of `size` cells. -/
structure CloneLaw (P : Program) (f : FuncId) (e : TypeId) (size bytes : Nat) : Prop where
  some' : ∀ (b off n c : Nat) (news : List Value) (w : World), news.length = n * size → n ≤ maxLen → n * bytes ≤ 140737488355328 → (∀ j u, news[j]? = some u → w.cell? ⟨b, off + j, none⟩ = some u) → (∀ u ∈ news, u.oneCell' = true) →
    Calls P f #[.slice (some ⟨b, off, none⟩) n c] w fun e' w' => ∃ v', e' = .returned v' ∧ w'.ownsRow w.heap.size e size v' n news ∧ v' ≠ .slice none 0 0 ∧ Below w.heap.size w w'
  zero' : ∀ (a : Addr) (c : Nat) (w : World), Calls P f #[.slice (some a) 0 c] w fun e' w' => ∃ v', e' = .returned v' ∧ w'.ownsRow w.heap.size e size v' 0 [] ∧ Below w.heap.size w w'
  nil' : ∀ (n c : Nat) (w : World), Calls P f #[.slice none n c] w fun e' w' => e' = .returned (.slice none 0 0) ∧ w' = w

theorem rds_arr1 {w : World} {ro : Nat → Prop} {ρ : Rho} {vs : Array Value} {x : V} (h : Rds w ro ρ vs.toList [x]) : ∃ u, vs = #[u] ∧ Rd w ro ρ u x := by
  obtain ⟨l⟩ := vs
  match l, h with
  | [a], h => exact ⟨a, rfl, h.2 0 a x rfl rfl⟩
  | [], h => simp [Rds] at h
  | _ :: _ :: _, h => simp [Rds] at h

theorem rd_one {w : World} {ro : Nat → Prop} {ρ : Rho} {u : Value} {x : V} (h : Rd w ro ρ u x) (hx : x.one = true) : u.oneCell' = true := by
  cases h <;> first | rfl | exact hx | (simp [V.one] at hx)

section
variable {P : Program} {f : FuncId} {e : TypeId} {size bytes n : Nat} {cells : List V}

/-- The clone's run, on a view: what comes back reads as the same cells, in a block of the call's own. -/
theorem clone_run (hc : CloneLaw P f e size bytes) (hl : cells.length = n * size) (hn : n * bytes ≤ 140737488355328) (hn2 : n ≤ 140737488355328) (h1 : ∀ x ∈ cells, x.one = true)
    (w : World) (ro : Nat → Prop) (ρ : Rho) (vs : Array Value) (ha : Rds w ro ρ vs.toList [.sl n cells]) :
    Calls P f vs w fun e' w' => ∃ v', e' = .returned v' ∧ Below w.heap.size w w' ∧
      ((v' = .slice none 0 0 ∧ n = 0) ∨ ∃ g cap C, v' = .slice (some ⟨g, 0, none⟩) n cap ∧ w.heap.size ≤ g ∧ w'.heap[g]? = some (.cells C e (0, 0)) ∧ n ≤ cap ∧ C.size = cap * size ∧
        ∀ (i : Nat) x, cells[i]? = some x → ∃ u, C[i]? = some u ∧ Rd w ro [] u x) := by
  obtain ⟨u, rfl, hr⟩ := rds_arr1 ha
  have own : ∀ {v' : Value} {news : List Value} {w' : World}, w'.ownsRow w.heap.size e size v' n news → (∀ (i : Nat) x, cells[i]? = some x → ∃ u, news[i]? = some u ∧ Rd w ro [] u x) →
      ((v' = .slice none 0 0 ∧ n = 0) ∨ ∃ g cap C, v' = .slice (some ⟨g, 0, none⟩) n cap ∧ w.heap.size ≤ g ∧ w'.heap[g]? = some (.cells C e (0, 0)) ∧ n ≤ cap ∧ C.size = cap * size ∧
        ∀ (i : Nat) x, cells[i]? = some x → ∃ u, C[i]? = some u ∧ Rd w ro [] u x) := by
    rintro v' news w' ⟨hln, h | ⟨g, cap, cur, rfl, hb, hg, hcap, -, hcs, htk⟩⟩ hread
    · exact .inl h
    · refine .inr ⟨g, cap, cur, rfl, hb, hg, hcap, hcs, fun i x hx => ?_⟩
      obtain ⟨u, hu, hrd⟩ := hread i x hx
      refine ⟨u, ?_, hrd⟩
      have hlt : i < n * size := by rw [← hl]; exact (List.getElem?_eq_some_iff.1 hx).1
      rw [← htk, List.getElem?_take, if_pos hlt] at hu
      simpa using hu
  cases hr with
  | sl0 =>
    refine (hc.nil' 0 0 w).mono ?_
    rintro e' w' ⟨rfl, rfl⟩
    exact ⟨_, rfl, Below.refl _ _, .inl ⟨rfl, rfl⟩⟩
  | @slz _ a cap =>
    refine (hc.zero' a cap w).mono ?_
    rintro e' w' ⟨v', rfl, ho, hb⟩
    exact ⟨v', rfl, hb, own ho fun i x hx => by simp at hx⟩
  | @sl _ a _ cap us _ hs hro hcap hul hat hrd =>
    obtain ⟨ab, ao, as⟩ := a
    obtain rfl : as = none := hs
    have hml : n ≤ maxLen := by unfold maxLen; omega
    refine (hc.some' ab ao n cap us w (by rw [hul, hl]) hml hn (fun j u hu => hat j u hu) (fun u hu => ?_)).mono ?_
    · obtain ⟨i, hi⟩ := List.getElem?_of_mem hu
      obtain ⟨x, hx⟩ := get_iff (l := cells) (i := i) (by rw [← hul]; exact (List.getElem?_eq_some_iff.1 hi).1)
      exact rd_one (hrd i u x hi hx) (h1 x (List.mem_of_getElem? hx))
    · rintro e' w' ⟨v', rfl, ho, -, hb⟩
      refine ⟨v', rfl, hb, own ho fun i x hx => ?_⟩
      obtain ⟨u, hu⟩ := get_iff (l := us) (i := i) (by rw [hul]; exact (List.getElem?_eq_some_iff.1 hx).1)
      exact ⟨u, hu, hrd i u x hu hx⟩

/-- The clone as a view. -/
theorem clone_view (he : Enters P f) (hc : CloneLaw P f e size bytes) (hl : cells.length = n * size) (hn : n * bytes ≤ 140737488355328) (hn2 : n ≤ 140737488355328) (h1 : ∀ x ∈ cells, x.one = true) :
    PCall P f [.sl n cells] (.sl n cells) := by
  refine ⟨.sl, he, fun w ro ρ vs g go ha => (clone_run hc hl hn hn2 h1 w ro ρ vs ha).mono ?_⟩
  rintro e' w' ⟨v', rfl, hb, h⟩
  have hρ : ρ = [] := List.eq_nil_of_length_eq_zero g.len
  subst hρ
  obtain ⟨g1, e1⟩ := g.world (w' := w') hb.os hb.tape hb.output hb.size fun b hlt _ => hb.block b hlt
  rcases h with ⟨rfl, rfl⟩ | ⟨gb, cap, C, rfl, hge, hC, hcap, hcs, hread⟩
  · have : cells = [] := List.eq_nil_of_length_eq_zero (by simpa using hl)
    subst this
    exact ⟨_, _, [], ro, [], rfl, rfl, g1, .sl0⟩
  · have hlt : gb < w'.heap.size := (Array.getElem?_eq_some_iff.1 hC).1
    obtain ⟨g2, e2⟩ := g1.roMore (ro' := fun b => ro b ∨ b = gb) (fun b hb => .inl hb) (fun b hb => by
      rcases hb with hb | rfl
      · exact .inl hb
      · exact .inr ⟨hlt, fun id x h => by simp at h, .inr hge⟩)
    refine ⟨_, _, [], _, [], rfl, rfl, g2, ?_⟩
    have hus : ∃ us : List Value, us.length = cells.length ∧ ∀ (i : Nat) x, cells[i]? = some x → ∃ u, us[i]? = some u ∧ C[i]? = some u ∧ Rd w ro [] u x := by
      refine ⟨C.toList.take cells.length, ?_, fun i x hx => ?_⟩
      · have : cells.length ≤ C.size := by rw [hl, hcs]; exact Nat.mul_le_mul_right _ hcap
        simp; omega
      · obtain ⟨u, hu, hr⟩ := hread i x hx
        refine ⟨u, ?_, hu, hr⟩
        rw [List.getElem?_take, if_pos (List.getElem?_eq_some_iff.1 hx).1]
        simpa using hu
    obtain ⟨us, hul, hus⟩ := hus
    refine .sl (us := us) rfl (.inr rfl) hcap hul (fun i u hu => ?_) fun i u x hu hx => ?_
    · obtain ⟨x, hx⟩ := get_iff (l := cells) (i := i) (by rw [← hul]; exact (List.getElem?_eq_some_iff.1 hu).1)
      obtain ⟨u', hu', hC', -⟩ := hus i x hx
      rw [hu] at hu'
      obtain rfl := Option.some.inj hu'
      show w'.cell? _ = _
      simp only [World.cell?, hC]
      rw [Nat.zero_add]
      exact hC'
    · obtain ⟨u', hu', -, hr⟩ := hus i x hx
      rw [hu] at hu'
      obtain rfl := Option.some.inj hu'
      exact (hr.ext e1).ext e2
end
end Go.VS

set_option linter.all false
namespace Go.VS
def Yl := @arunU_go0
def Ym := @arunU_go
def Yn := @arunU_no
def Yo := @arunU_end
def Yq := @awp_regionU
theorem Yp {P : Program} {ops : Array Oper} {K : KS} {os : List Oper} {s s' : List V} {rows : List Row} (h : arunU P ops os s' rows K) (e : s = s' := by first | (dsimp only [sput, sset]; done) | rfl) : arunU P ops os s rows K := arunU_slots e h
end Go.VS
