/-
 VALUE SEMANTICS, 31: drawn regions whose guards hang on operations that were passed over. Printed by genVs31.py out of 17, 20 and 25.
 Conditions: none.
-/
import Derived.Test.YtnpndfmbkmbhbaaGreatDoorGi
set_option linter.all false
namespace Go.VS
namespace DU

abbrev gval (ops : Array Oper) (g : Option (Nat × Bool)) (s : List V) : Option Bool := gvalU ops g s
def aguard (ops : Array Oper) (g : Option (Nat × Bool)) (s : List V) (yes no : Prop) : Prop := (gval ops g s = some true ∧ yes) ∨ (gval ops g s = some false ∧ no)
theorem aguard_iff {ops : Array Oper} {g : Option (Nat × Bool)} {s : List V} {yes no : Prop} : aguard ops g s yes no ↔ (gval ops g s = some true ∧ yes) ∨ (gval ops g s = some false ∧ no) := Iff.rfl
theorem wanted_of {w : World} {ro : Nat → Prop} {ρ : Rho} {a : Act} {s : List V} {ops : Array Oper} {o : Oper} {yes no : Prop} (hs : Slots w ro ρ a s) (h : aguard ops o.guard s yes no) :
  (Region.wanted o (yielded ops a.tmps) = true ∧ yes) ∨ (Region.wanted o (yielded ops a.tmps) = false ∧ no) := by
 rcases h with ⟨hg, h⟩ | ⟨hg, h⟩
 ·exact .inl ⟨wanted_ofU hs hg, h⟩
 ·exact .inr ⟨wanted_ofU hs hg, h⟩
def aop1 (P : Program) (F : List (Nat × Nat × V)) (mk : Nat → Nat) (ops : Array Oper) (idf : Nat → Nat) (i : Nat) (K : KS) : KS := fun s rows =>
 match ops[i]? with
 | none => K s rows
 | some o => aguard ops o.guard s (aeffM P F (mk i) o.op (idf i) s rows fun v r => K (sput s o.dst v) r) (K (sput s o.dst vundef) rows)

def aruns (P : Program) (F : List (Nat × Nat × V)) (mk : Nat → Nat) (ops : Array Oper) (idf : Nat → Nat) : List Nat → KS → KS
 | [], K => K
 | i :: is, K => aop1 P F mk ops idf i (aruns P F mk ops idf is K)

section
variable {P : Program} {F : List (Nat × Nat × V)} {mk : Nat → Nat} {ops : Array Oper} {idf : Nat → Nat} {s s2 : List V} {rows rows2 : List Row} {K : KS}

theorem sput_comm {x y : Option Tmp} {v u : V} (h : ∀ d, x = some d → y ≠ some d) : sput (sput s x v) y u = sput (sput s y u) x v := by
 cases x with
 | none => rfl
 | some d =>
  cases y with
  | none => rfl
  | some e =>
   have hne : d ≠ e := fun he => h d rfl (he ▸ rfl)
   simp only [sput, sset_eq]
   exact List.set_comm _ _ hne

theorem sget_sput {d t : Nat} {v : V} (h : d ≠ t) : sget (sset s d v) t = sget s t := by
 rw [sget_eq, sget_eq, sset_eq, List.getElem?_set_ne h]

theorem oval_sput {dst : Option Tmp} {v : V} {x : Operand} (h : ∀ d, dst = some d → x ≠ .tmp d) : oval (sput s dst v) x = oval s x := by
 cases dst with
 | none => rfl
 | some d =>
  cases x with
  | tmp t => exact sget_sput fun e => h d rfl (e ▸ rfl)
  | _ => rfl

theorem looks_operand {o : Oper} {x : Operand} {d : Nat} (hx : x ∈ o.op.operands) (h : x = .tmp d) : d ∈ o.looksAt ops := by
 subst h
 exact List.mem_append_left _ (List.mem_filterMap.2 ⟨.tmp d, by simpa using hx, rfl⟩)

theorem gval_sput {o : Oper} {dst : Option Tmp} {v : V} (h : ∀ d, dst = some d → d ∉ o.looksAt ops) : gval ops o.guard (sput s dst v) = gval ops o.guard s := by
 cases dst with
 | none => rfl
 | some d =>
  unfold gval gvalU
  cases hg : o.guard with
  | none => rfl
  | some gw =>
   obtain ⟨j, want⟩ := gw
   simp only
   cases hd : (ops[j]?).bind (·.dst) with
   | none => rfl
   | some t =>
    have hne : d ≠ t := fun e => h d rfl (by subst e; simp [Oper.looksAt, hg, hd])
    simp only [sput, sget_sput hne]

def SameLook (ops : Array Oper) (o : Oper) (s s2 : List V) : Prop := gval ops o.guard s = gval ops o.guard s2 ∧ ∀ x ∈ o.op.operands, oval s x = oval s2 x

theorem sameLook_sput {o : Oper} {dst : Option Tmp} {v : V} (h : ∀ d, dst = some d → d ∉ o.looksAt ops) : SameLook ops o (sput s dst v) s :=
 ⟨gval_sput h, fun x hx => oval_sput fun d hd he => h d hd (looks_operand hx he)⟩

theorem SameLook.symm {o : Oper} (h : SameLook ops o s s2) : SameLook ops o s2 s := ⟨h.1.symm, fun x hx => (h.2 x hx).symm⟩

theorem aop1_some {i : Nat} {o : Oper} (ho : ops[i]? = some o) : aop1 P F mk ops idf i K s rows ↔
  (gval ops o.guard s = some true ∧ aeffM P F (mk i) o.op (idf i) s rows fun v r => K (sput s o.dst v) r) ∨ (gval ops o.guard s = some false ∧ K (sput s o.dst vundef) rows) := by
 unfold aop1
 simp only [ho]
 exact aguard_iff

theorem Wf.skip {o : Oper} (h : Wf P F s rows) : Wf P F (sput s o.dst vundef) rows := by
 obtain ⟨⟨c, a, w, go, ro, ρ, g, hs⟩, hF⟩ := h
 exact ⟨⟨c, a.put o.dst undef, w, go, ro, ρ, g, hs.put .val o.dst⟩, hF⟩

theorem Wf.step {o : Oper} {m : Nat} {id : Nat} {v : V} {rows' : List Row} (h : Wf P F s rows) (hr : aeffM P F m o.op id s rows fun a b => a = v ∧ b = rows') : Wf P F (sput s o.dst v) rows' := by
 obtain ⟨⟨c, a, w, go, ro, ρ, g, hs⟩, hF⟩ := h
 obtain ⟨draw, id', hae⟩ := aeffM_aeff hF (aeffM_facts hF hr)
 have hd := aeff_sound (o := o) go hs g hae
 have use : ∀ u w', OpOk c (fun a b => (a = v ∧ b = rows') ∧ Facts F b) w ro ρ u w' → Wf P F (sput s o.dst v) rows' := by
  rintro u w' ⟨r, rs, ro', ρ', ⟨⟨rfl, rfl⟩, hF'⟩, h2, h3, h4⟩
  exact ⟨⟨c, a.put o.dst u, w', go, ro', ρ', h2, (hs.ext h4).put h3 o.dst⟩, hF'⟩
 generalize (execOp a.eval o).run P w = res at hd
 cases res with
 | halt x w' => exact hd.elim
 | ok n w' =>
  cases n <;> try exact hd.elim
  case value u => exact use u w' hd
  case skip => exact use undef w' hd
  case enter f args =>
   obtain ⟨e, w'', fr, ⟨u, -, hok⟩, -⟩ := hd []
   exact use u w'' hok

theorem aop1_cont {i : Nat} {o : Oper} (ho : ops[i]? = some o) (hw : Wf P F s rows) (h : aop1 P F mk ops idf i K s rows) :
  ∃ v rows', K (sput s o.dst v) rows' ∧ Wf P F (sput s o.dst v) rows' ∧ ∀ (s2 : List V) (K2 : KS), SameLook ops o s s2 → K2 (sput s2 o.dst v) rows' → aop1 P F mk ops idf i K2 s2 rows := by
 rcases (aop1_some ho).1 h with ⟨hg, h⟩ | ⟨hg, h⟩
 ·obtain ⟨v, rows', h1, h2⟩ := aeffM_cont h
  refine ⟨v, rows', h1, hw.step (h2 (fun a b => a = v ∧ b = rows') ⟨rfl, rfl⟩), fun s2 K2 hl hk => (aop1_some ho).2 (.inl ⟨hl.1 ▸ hg, ?_⟩)⟩
  exact aeffM_congr hl.2 (h2 (fun v r => K2 (sput s2 o.dst v) r) hk)
 ·exact ⟨vundef, rows, h, Wf.skip hw, fun s2 K2 hl hk => (aop1_some ho).2 (.inr ⟨hl.1 ▸ hg, hk⟩)⟩

theorem aop1_mono {i : Nat} {K2 : KS} (hk : ∀ s rows, Wf P F s rows → K s rows → K2 s rows) (hw : Wf P F s rows) (h : aop1 P F mk ops idf i K s rows) : aop1 P F mk ops idf i K2 s rows := by
 cases ho : ops[i]? with
 | none =>
  unfold aop1 at h ⊢
  simp only [ho] at h ⊢
  exact hk s rows hw h
 | some o =>
  obtain ⟨v, rows', h1, h2, h3⟩ := aop1_cont ho hw h
  exact h3 s K2 ⟨rfl, fun _ _ => rfl⟩ (hk _ _ h2 h1)

theorem aop1_read {i : Nat} {o : Oper} (ho : ops[i]? = some o) (hk : kindM (mk i) o.op ≠ 3) (h : aop1 P F mk ops idf i K s rows) :
  ∃ v e, K (sput s o.dst v) (upd rows (idf i) e) ∧ (e ≠ none → Free rows (idf i) ∧ opAllocs P o.op = true) ∧
   ∀ (s2 : List V) (rows2 : List Row) (K2 : KS), SameLook ops o s s2 → Agree rows rows2 → (e ≠ none → Free rows2 (idf i)) → Wf P F s2 rows2 → K2 (sput s2 o.dst v) (upd rows2 (idf i) e) → aop1 P F mk ops idf i K2 s2 rows2 := by
 rcases (aop1_some ho).1 h with ⟨hg, h⟩ | ⟨hg, h⟩
 ·obtain ⟨v, e, h1, h2, -, h3⟩ := aeffM_read hk h
  refine ⟨v, e, h1, h2, fun s2 rows2 K2 hl hag hfr hwf hkk => (aop1_some ho).2 (.inl ⟨hl.1 ▸ hg, ?_⟩)⟩
  obtain ⟨⟨c, a, w, go, ro, ρ, g, hs⟩, -⟩ := hwf
  exact aeffM_congr hl.2 (h3 c rows2 w ro ρ hag hfr g (fun x hx => ⟨_, by rw [hl.2 x hx]; exact hs.eval x⟩) (fun v r => K2 (sput s2 o.dst v) r) hkk)
 ·exact ⟨vundef, none, h, fun h => absurd rfl h, fun s2 rows2 K2 hl _ _ _ hkk => (aop1_some ho).2 (.inr ⟨hl.1 ▸ hg, hkk⟩)⟩

theorem aop1_pure {i : Nat} {o : Oper} (ho : ops[i]? = some o) (hk : kindM (mk i) o.op = 0) (h : aop1 P F mk ops idf i K s rows) :
  ∃ v, K (sput s o.dst v) rows ∧ ∀ (s2 : List V) (rows2 : List Row) (K2 : KS), SameLook ops o s s2 → K2 (sput s2 o.dst v) rows2 → aop1 P F mk ops idf i K2 s2 rows2 := by
 rcases (aop1_some ho).1 h with ⟨hg, h⟩ | ⟨hg, h⟩
 ·obtain ⟨v, h1, h2⟩ := aeffM_pure hk h
  exact ⟨v, h1, fun s2 rows2 K2 hl hkk => (aop1_some ho).2 (.inl ⟨hl.1 ▸ hg, aeffM_congr hl.2 (h2 (idf i) rows2 (fun v r => K2 (sput s2 o.dst v) r) hkk)⟩)⟩
 ·exact ⟨vundef, h, fun s2 rows2 K2 hl hkk => (aop1_some ho).2 (.inr ⟨hl.1 ▸ hg, hkk⟩)⟩

theorem agree_upd {id : Nat} {e : Option (List V)} (hf : e ≠ none → rows[id]? = some .resv) : Agree rows (upd rows id e) := by
 intro j cs hj
 cases e with
 | none => exact .inl hj
 | some ds =>
  have hr := hf (by simp)
  left
  simp only [upd]
  rw [rput_get (Nat.le_of_lt (List.getElem?_eq_some_iff.1 hr).1), if_neg]
  ·exact hj
  ·rintro rfl; rw [hr] at hj; simp at hj

theorem agree_upd' {id : Nat} {e : Option (List V)} (hf : e ≠ none → rows[id]? = some .resv) : Agree (upd rows id e) rows := by
 intro j cs hj
 cases e with
 | none => exact .inl hj
 | some ds =>
  have hr := hf (by simp)
  simp only [upd] at hj
  rw [rput_get (Nat.le_of_lt (List.getElem?_eq_some_iff.1 hr).1)] at hj
  split at hj
  ·rename_i e; subst e; exact .inr hr
  ·exact .inl hj

theorem rput_set {α : Type} {l : List α} {id : Nat} {x : α} (h : id < l.length) : rput l id x = l.set id x := if_neg (by omega)

theorem aop1_swap {i j : Nat} {oi oj : Oper} (hi : ops[i]? = some oi) (hj : ops[j]? = some oj) (hap : oi.apart ops oj = true) (hk : kindM (mk i) oi.op = 3 → kindM (mk j) oj.op = 0) (hk' : kindM (mk j) oj.op = 3 → kindM (mk i) oi.op = 0)
  (hid : ∀ (k : Nat) o, ops[k]? = some o → opAllocs P o.op = true → idf k < rows.length) (hw : Wf P F s rows) (h : aop1 P F mk ops idf i (aop1 P F mk ops idf j K) s rows) : aop1 P F mk ops idf j (aop1 P F mk ops idf i K) s rows := by
 obtain ⟨a1, a2, a3⟩ := Oper.apart_spec hap
 by_cases hi3 : kindM (mk i) oi.op = 3
 ·
  obtain ⟨vi, ri, h1, hwi, h2⟩ := aop1_cont hi hw h
  obtain ⟨vj, h3, h4⟩ := aop1_pure hj (hk hi3) h1
  refine h4 s rows _ (sameLook_sput a1) (h2 _ _ (sameLook_sput a3).symm ?_)
  rw [sput_comm (fun d hd he => a2 d he hd)]
  exact h3
 by_cases hj3 : kindM (mk j) oj.op = 3
 ·obtain ⟨vi, h1, h2⟩ := aop1_pure hi (hk' hj3) h
  have hwi : Wf P F (sput s oi.dst vi) rows := by
   obtain ⟨v', r', q1, q2, -⟩ := aop1_cont (K := fun s' r' => s' = sput s oi.dst vi ∧ r' = rows) hi hw (h2 s rows _ ⟨rfl, fun _ _ => rfl⟩ ⟨rfl, rfl⟩)
   rw [q1.1, q1.2] at q2
   exact q2
  obtain ⟨vj, rj, h3, -, h4⟩ := aop1_cont hj hwi h1
  refine h4 s _ (sameLook_sput a1) (h2 _ _ _ (sameLook_sput a3).symm ?_)
  rw [sput_comm (fun d hd he => a2 d he hd)]
  exact h3
 ·obtain ⟨vi, ei, h1, f1, h2⟩ := aop1_read hi hi3 h
  obtain ⟨vj, ej, h3, f3, h4⟩ := aop1_read hj hj3 h1
  have hri : ei ≠ none → rows[idf i]? = some .resv := fun he => by
   obtain ⟨q1, q2⟩ := f1 he
   have := hid i oi hi q2
   rcases q1 with q1 | q1
   ·omega
   ·exact q1
  have hlen : (upd rows (idf i) ei).length = rows.length := by
   cases ei with
   | none => rfl
   | some cs =>
    have := hri (by simp)
    have := (List.getElem?_eq_some_iff.1 this).1
    simp only [upd, rput_length]
    rw [if_neg (by omega)]
  have hne : ei ≠ none → ej ≠ none → idf i ≠ idf j := by
   intro hei hej e
   cases ei with
   | none => exact hei rfl
   | some cs =>
    obtain ⟨q1, q2⟩ := f3 hej
    have := hid j oj hj q2
    rw [← e] at q1 this
    have hr := hri (by simp)
    rcases q1 with q1 | q1
    ·rw [hlen] at q1; omega
    ·simp only [upd] at q1
     rw [rput_get (Nat.le_of_lt this), if_pos rfl] at q1
     simp at q1
  have hrj : ej ≠ none → rows[idf j]? = some .resv := fun he => by
   obtain ⟨q1, q2⟩ := f3 he
   have hlt := hid j oj hj q2
   rcases q1 with q1 | q1
   ·rw [hlen] at q1; omega
   ·cases ei with
    | none => exact q1
    | some cs =>
     simp only [upd] at q1
     rw [rput_get (Nat.le_of_lt (List.getElem?_eq_some_iff.1 (hri (by simp))).1), if_neg (fun e => hne (by simp) he e.symm)] at q1
     exact q1
  have hback : ∀ K2 : KS, K2 (sput s oj.dst vj) (upd rows (idf j) ej) → aop1 P F mk ops idf j K2 s rows := fun K2 hk2 =>
   h4 s rows K2 (sameLook_sput a1) (agree_upd' hri) (fun he => .inr (hrj he)) hw hk2
  have hwj : Wf P F (sput s oj.dst vj) (upd rows (idf j) ej) := by
   obtain ⟨v', r', q1, q2, -⟩ := aop1_cont (K := fun s' r' => s' = sput s oj.dst vj ∧ r' = upd rows (idf j) ej) hj hw (hback _ ⟨rfl, rfl⟩)
   rw [q1.1, q1.2] at q2
   exact q2
  refine hback _ (h2 _ _ _ (sameLook_sput a3).symm (agree_upd hrj) (fun he => ?_) hwj ?_)
  ·right
   cases ej with
   | none => exact hri he
   | some cs =>
    simp only [upd]
    rw [rput_get (Nat.le_of_lt (List.getElem?_eq_some_iff.1 (hrj (by simp))).1), if_neg (hne he (by simp))]
    exact hri he
  ·rw [sput_comm (fun d hd he => a2 d he hd)]
   have hc : upd (upd rows (idf i) ei) (idf j) ej = upd (upd rows (idf j) ej) (idf i) ei := by
    cases ei with
    | none => rfl
    | some ci =>
     cases ej with
     | none => rfl
     | some cj =>
      have q1 := (List.getElem?_eq_some_iff.1 (hri (by simp))).1
      have q2 := (List.getElem?_eq_some_iff.1 (hrj (by simp))).1
      simp only [upd]
      rw [rput_set q1, rput_set q2, rput_set (by simpa using q2), rput_set (by simpa using q1)]
      exact List.set_comm _ _ (hne (by simp) (by simp))
   rw [← hc]
   exact h3


def compat (mk : Nat → Nat) (ops : Array Oper) (i j : Nat) : Bool :=
 match ops[i]?, ops[j]? with
 | some oi, some oj => oi.apart ops oj && (kindM (mk i) oi.op != 3 || kindM (mk j) oj.op == 0) && (kindM (mk j) oj.op != 3 || kindM (mk i) oi.op == 0)
 | _, _ => false

def clos (ops : Array Oper) : Array Nat := Region.before ops

def closOk (ops : Array Oper) (bs : Array Nat) : Bool :=
 (List.range ops.size).all fun i => match ops[i]? with
  | some o => (o.after.all fun e => !Region.binds .any e || e.on < i) &&
    (List.range i).all fun j => !(bs.getD i 0).testBit j || o.after.any fun e => Region.binds .any e && (e.on == j || (decide (j < e.on) && (bs.getD e.on 0).testBit j))
  | none => true

def indepBy (mk : Nat → Nat) (ops : Array Oper) (bs : Array Nat) : Bool :=
 closOk ops bs && (List.range ops.size).all fun i => (List.range i).all fun j => (bs.getD i 0).testBit j || compat mk ops j i

def indep (mk : Nat → Nat) (ops : Array Oper) : Bool := indepBy mk ops (clos ops)

theorem compat_spec {i j : Nat} (h : compat mk ops i j = true) : ∃ oi oj, ops[i]? = some oi ∧ ops[j]? = some oj ∧ oi.apart ops oj = true ∧ (kindM (mk i) oi.op = 3 → kindM (mk j) oj.op = 0) ∧ (kindM (mk j) oj.op = 3 → kindM (mk i) oi.op = 0) := by
 unfold compat at h
 split at h
 ·rename_i oi oj h1 h2
  simp only [Bool.and_eq_true, Bool.or_eq_true, bne_iff_ne, beq_iff_eq] at h
  exact ⟨oi, oj, h1, h2, h.1.1, fun e => h.1.2.resolve_left (fun h => h e), fun e => h.2.resolve_left (fun h => h e)⟩
 ·simp at h

theorem aop1_len {i : Nat} (hid : ∀ (k : Nat) o, ops[k]? = some o → opAllocs P o.op = true → idf k < rows.length) (h : aop1 P F mk ops idf i K s rows) : aop1 P F mk ops idf i (fun s' r' => K s' r' ∧ rows.length ≤ r'.length) s rows := by
 cases ho : ops[i]? with
 | none =>
  unfold aop1 at h ⊢
  simp only [ho] at h ⊢
  exact ⟨h, Nat.le_refl _⟩
 | some o =>
  rcases (aop1_some ho).1 h with ⟨hg, h⟩ | ⟨hg, h⟩
  ·exact (aop1_some ho).2 (.inl ⟨hg, aeffM_len (hid i o ho) h⟩)
  ·exact (aop1_some ho).2 (.inr ⟨hg, h, Nat.le_refl _⟩)

theorem aruns_front {i n : Nat} {l2 : List Nat} (hid : ∀ (k : Nat) o, ops[k]? = some o → opAllocs P o.op = true → idf k < n) :
  ∀ (l1 : List Nat) (s : List V) (rows : List Row), n ≤ rows.length → (∀ j ∈ l1, compat mk ops j i = true) → Wf P F s rows → aruns P F mk ops idf (l1 ++ i :: l2) K s rows → aop1 P F mk ops idf i (aruns P F mk ops idf (l1 ++ l2) K) s rows
 | [], s, rows, _, _, _, h => h
 | j :: l1, s, rows, hl, hc, hw, h => by
  obtain ⟨oj, oi, hj, hi, q1, q2, q3⟩ := compat_spec (hc j (by simp))
  have hid' : ∀ (k : Nat) o, ops[k]? = some o → opAllocs P o.op = true → idf k < rows.length := fun k o h1 h2 => Nat.lt_of_lt_of_le (hid k o h1 h2) hl
  refine aop1_swap hj hi q1 q2 q3 hid' hw (aop1_mono (fun s' r' hw' ⟨h1, h2⟩ => ?_) hw (aop1_len hid' h))
  exact aruns_front hid l1 s' r' (Nat.le_trans hl h2) (fun k hk => hc k (by simp [hk])) hw' h1

structure ClosSpec (ops : Array Oper) (bs : Array Nat) : Prop where
 lt : ∀ (i : Nat) o e, ops[i]? = some o → e ∈ o.after → Region.binds .any e = true → e.on < i
 step : ∀ (i : Nat) o j, ops[i]? = some o → j < i → (bs.getD i 0).testBit j = true → ∃ e ∈ o.after, Region.binds .any e = true ∧ (e.on = j ∨ j < e.on ∧ (bs.getD e.on 0).testBit j = true)

theorem closSpec_of {bs : Array Nat} (h : closOk ops bs = true) : ClosSpec ops bs := by
 simp only [closOk, List.all_eq_true, List.mem_range] at h
 have at' : ∀ (i : Nat) o, ops[i]? = some o → ((o.after.all fun e => !Region.binds .any e || e.on < i) && (List.range i).all fun j => !(bs.getD i 0).testBit j || o.after.any fun e => Region.binds .any e && (e.on == j || (decide (j < e.on) && (bs.getD e.on 0).testBit j))) = true := by
  intro i o ho
  have := h i (Array.getElem?_eq_some_iff.1 ho).1
  rw [ho] at this
  exact this
 refine ⟨fun i o e ho he hb => ?_, fun i o j ho hj hb => ?_⟩
 ·have := at' i o ho
  simp only [Bool.and_eq_true, Array.all_eq_true_iff_forall_mem, Bool.or_eq_true, Bool.not_eq_true', decide_eq_true_eq] at this
  exact (this.1 e he).resolve_left (fun h => by rw [hb] at h; cases h)
 ·have := at' i o ho
  simp only [Bool.and_eq_true, List.all_eq_true, List.mem_range, Bool.or_eq_true, Bool.not_eq_true'] at this
  have h2 := (this.2 j hj).resolve_left (fun h => by rw [hb] at h; cases h)
  obtain ⟨e, he, h3⟩ := Array.any_eq_true'.1 h2
  simp only [Bool.and_eq_true, Bool.or_eq_true, beq_iff_eq, decide_eq_true_eq] at h3
  exact ⟨e, he, h3.1, h3.2⟩

def Closed (ops : Array Oper) (listed : Array Bool) : Prop := ∀ (i : Nat) o, ops[i]? = some o → listed.getD i true = true → ∀ e ∈ o.after, Region.binds .any e = true → listed.getD e.on false = true

theorem before_listed {bs : Array Nat} {listed : Array Bool} (hs : listed.size = ops.size) (hc : ClosSpec ops bs) (hcl : Closed ops listed) : ∀ (i : Nat) o, ops[i]? = some o → (∀ e ∈ o.after, Region.binds .any e = true → listed.getD e.on false = true) →
  ∀ j, j < i → (bs.getD i 0).testBit j = true → listed.getD j false = true := by
 intro i
 induction i using Nat.strongRecOn with
 | _ i ih =>
  intro o ho hp j hj hb
  obtain ⟨e, he, h1, h2⟩ := hc.step i o j ho hj hb
  have hlt := hc.lt i o e ho he h1
  have hle := hp e he h1
  rcases h2 with rfl | ⟨hje, h2⟩
  ·exact hle
  ·have hsz : i < ops.size := (Array.getElem?_eq_some_iff.1 ho).1
   have hlt' : e.on < ops.size := by omega
   have hle' : listed.getD e.on true = true := by
    rw [Array.getD_eq_getD_getElem?] at hle ⊢
    have : e.on < listed.size := by omega
    rw [Array.getElem?_eq_getElem this] at hle ⊢
    exact hle
   have ho' : ops[e.on]? = some (ops[e.on]'hlt') := Array.getElem?_eq_getElem hlt'
   exact ih e.on hlt _ ho' (hcl e.on _ ho' hle') j hje h2

theorem getD_size {listed : Array Bool} {j : Nat} (h : j < listed.size) (a b : Bool) : listed.getD j a = listed.getD j b := by
 rw [Array.getD_eq_getD_getElem?, Array.getD_eq_getD_getElem?, Array.getElem?_eq_getElem h]
 rfl

theorem getD_false_lt {listed : Array Bool} {j : Nat} (h : listed.getD j true = false) : j < listed.size := by
 rcases Nat.lt_or_ge j listed.size with h' | h'
 ·exact h'
 ·rw [Array.getD_eq_getD_getElem?, Array.getElem?_eq_none h'] at h
  cases h

theorem getD_set_self {listed : Array Bool} {j : Nat} (a : Bool) (h : j < listed.size) : (listed.setIfInBounds j true).getD j a = true := by
 rw [Array.getD_eq_getD_getElem?, Array.getElem?_setIfInBounds_self_of_lt h]
 rfl

theorem closed_set {listed : Array Bool} {i : Nat} {o : Oper} (hcl : Closed ops listed) (hi : ops[i]? = some o) (hp : ∀ e ∈ o.after, Region.binds .any e = true → listed.getD e.on false = true) : Closed ops (listed.setIfInBounds i true) := by
 intro j o' ho' hj e he hb
 by_cases hij : i = j
 ·subst hij
  rw [hi] at ho'
  obtain rfl := Option.some.inj ho'
  exact getD_set_true (hp e he hb)
 ·rw [getD_set_ne true hij] at hj
  exact getD_set_true (hcl j o' ho' hj e he hb)

theorem any_sound {bs : Array Nat} {n : Nat} {c : Ctx} {Q : Exit → KS} (go : GOk P c) (hid : ∀ (k : Nat) o, ops[k]? = some o → opAllocs P o.op = true → idf k < n) (hb : indepBy mk ops bs = true) :
  ∀ (fuel : Nat) (r : List Nat) (listed : Array Bool) (a : Act) (w : World) (s : List V) (rows : List Row), r.length ≤ fuel → n ≤ rows.length → Facts F rows → listed.size = ops.size →
   (∀ j, j ∈ r ↔ listed.getD j true = false) → r.Pairwise (· < ·) → Closed ops listed → Conc c s rows a w → aruns P F mk ops idf r K s rows →
   wpAny P .any ops (lift c (athen K Q)) fuel listed a w := by
 have hb1 : closOk ops bs = true := by
  unfold indepBy at hb
  exact (Bool.and_eq_true _ _ ▸ hb).1
 have hb2 : ∀ i j, i < ops.size → j < i → (bs.getD i 0).testBit j = true ∨ compat mk ops j i = true := by
  intro i j hi hj
  unfold indepBy at hb
  have := (Bool.and_eq_true _ _ ▸ hb).2
  rw [List.all_eq_true] at this
  have := this i (List.mem_range.2 hi)
  rw [List.all_eq_true] at this
  have := this j (List.mem_range.2 hj)
  rwa [Bool.or_eq_true] at this
 have hcs := closSpec_of hb1
 intro fuel
 induction fuel with
 | zero =>
  intro r listed a w s rows hf hl hF hsz hr hp hcl hc h
  obtain rfl := List.eq_nil_of_length_eq_zero (Nat.le_zero.1 hf)
  refine ⟨?_, s, rows, h, hc⟩
  refine List.eq_nil_iff_forall_not_mem.2 fun j hj => ?_
  exact absurd ((hr j).2 (mem_ready.1 hj).1) (by simp)
 | succ fuel ih =>
  intro r listed a w s rows hf hl hF hsz hr hp hcl hc h
  refine ⟨fun hnil => ?_, fun i hi => ?_⟩
  ·cases r with
   | nil => exact ⟨s, rows, h, hc⟩
   | cons j r =>
    exfalso
    have hj := (hr j).1 (by simp)
    have hjs : j < ops.size := hsz ▸ getD_false_lt hj
    have hoj : ops[j]? = some (ops[j]'hjs) := Array.getElem?_eq_getElem hjs
    have : j ∈ Region.ready .any ops listed := by
     refine mem_ready.2 ⟨hj, _, hoj, fun e he hbd => ?_⟩
     have hlt := hcs.lt j _ e hoj he hbd
     have hnot : e.on ∉ j :: r := by
      intro hm
      rcases List.mem_cons.1 hm with hm | hm
      ·omega
      ·have := (List.pairwise_cons.1 hp).1 _ hm
       omega
     rw [getD_size (by omega) false true]
     cases hv : listed.getD e.on true with
     | true => rfl
     | false => exact absurd ((hr e.on).2 hv) hnot
    rw [hnil] at this
    cases this
  ·obtain ⟨hi1, o, ho, hpre⟩ := mem_ready.1 hi
   obtain ⟨l1, l2, rfl⟩ := List.append_of_mem ((hr i).2 hi1)
   have hlt1 : ∀ j ∈ l1, j < i := fun j hj => (List.pairwise_append.1 hp).2.2 j hj i (by simp)
   have hio : i < ops.size := (Array.getElem?_eq_some_iff.1 ho).1
   have hcomp : ∀ j ∈ l1, compat mk ops j i = true := by
    intro j hj
    refine (hb2 i j hio (hlt1 j hj)).resolve_left fun hbit => ?_
    have h1 := before_listed hsz hcs hcl i o ho hpre j (hlt1 j hj) hbit
    have h2 := (hr j).1 (by simp [hj])
    rw [getD_size (getD_false_lt h2) false true, h2] at h1
    cases h1
   have hW : Wf P F s rows := ⟨⟨c, a, w, go, hc⟩, hF⟩
   have hfront := aop1_mono (K2 := fun s' r' => (aruns P F mk ops idf (l1 ++ l2) K s' r' ∧ rows.length ≤ r'.length) ∧ Facts F r') (fun s' r' hw' h' => ⟨h', hw'.2⟩) hW (aop1_len (idf := idf) (fun k o hk ha => Nat.lt_of_lt_of_le (hid k o hk ha) hl) (aruns_front hid l1 s rows hl hcomp hW h))
   have ih' : ∀ a' w' s' rows', n ≤ rows'.length → Facts F rows' → Conc c s' rows' a' w' → aruns P F mk ops idf (l1 ++ l2) K s' rows' → wpAny P .any ops (lift c (athen K Q)) fuel (listed.setIfInBounds i true) a' w' := by
    intro a' w' s' rows' hl' hF' hc' h'
    have hnod := hp.imp (S := (· ≠ ·)) (fun h => Nat.ne_of_lt h)
    refine ih (l1 ++ l2) _ a' w' s' rows' (by simp at hf ⊢; omega) hl' hF' (by simpa using hsz) (fun j => ?_) ?_ (closed_set hcl ho hpre) hc' h'
    ·by_cases hij : i = j
     ·subst hij
      rw [getD_set_self true (getD_false_lt hi1)]
      constructor
      ·intro hm
       exfalso
       have h1 := List.pairwise_append.1 hnod
       rcases List.mem_append.1 hm with hm | hm
       ·exact h1.2.2 i hm i (by simp) rfl
       ·exact (List.pairwise_cons.1 h1.2.1).1 i hm rfl
      ·intro h; cases h
     ·rw [getD_set_ne true hij, ← hr j]
      simp [Ne.symm hij]
    ·exact hp.sublist (List.Sublist.append (List.Sublist.refl _) (List.sublist_cons_self _ _))
   obtain ⟨ro, ρ, g, hs⟩ := hc
   unfold wpOp
   simp only [ho]
   unfold aop1 at hfront
   simp only [ho] at hfront
   rcases wanted_of hs hfront with ⟨hw, h⟩ | ⟨hw, h⟩
   ·rw [if_pos hw]
    obtain ⟨draw, id', hae⟩ := aeffM_aeff hF h
    refine .inl (oper_wp (c := c) go hs g hae ?_)
    intro v w' r rows' ro' ρ' h1 h2 h3
    exact ih' _ _ _ _ (Nat.le_trans hl h1.1.2) h1.2 ⟨ro', ρ', h2, h3⟩ h1.1.1
   ·rw [if_neg (by simp [hw])]
    exact ih' _ _ _ _ hl hF ⟨ro, ρ, g, hs.put .val o.dst⟩ h.1.1

end

def opNew : Op → Bool
 | .alloc _ | .box _ _ | .buildSlice _ _ _ | .makeSlice _ _ _ | .convert _ _ _ => true
 | .call c => (match c.callee with
  | .builtin .append => true
  | _ => false)
 | _ => false

theorem opNew_of {P : Program} {op : Op} (h : opAllocs P op = true) : opNew op = true := by
 cases op <;> first | rfl | exact h | (simp only [opAllocs] at h; exact absurd h (by simp))

def opsNew (ops : Array Oper) : Nat := (ops.toList.filter fun o => opNew o.op).length

def arunD (P : Program) (ops : Array Oper) (F : List (Nat × Nat × V)) : List Nat → List Oper → Nat → List V → List Row → KS → Prop
 | _, [], _, s, rows, K => K s rows
 | ms, o :: os, id, s, rows, K => aguard ops o.guard s (aeffM P F (ms.headD 0) o.op id s rows fun v rows' => arunD P ops F ms.tail os (if opNew o.op = true then id + 1 else id) (sput s o.dst v) rows' K)
   (arunD P ops F ms.tail os (if opNew o.op = true then id + 1 else id) (sput s o.dst vundef) rows K)

section
variable {P : Program} {ops : Array Oper} {F : List (Nat × Nat × V)} {s : List V} {rows : List Row} {K : KS}

def idAt (ops : Array Oper) (base i : Nat) : Nat := base + ((ops.toList.take i).filter fun o => opNew o.op).length

def markAt (ms : List Nat) (i : Nat) : Nat := ms.getD i 0

theorem arunD_aruns (base : Nat) (ms : List Nat) : ∀ (os : List Oper) (t : Nat), ops.toList.drop t = os → ∀ (s : List V) (rows : List Row), arunD P ops F (ms.drop t) os (idAt ops base t) s rows K → aruns P F (markAt ms) ops (idAt ops base) (List.range' t os.length) K s rows
 | [], t, hd, s, rows, h => h
 | o :: os, t, hd, s, rows, h => by
  have ht : ops.toList[t]? = some o := by
   have := congrArg (fun l => l[0]?) hd
   simpa using this
  have hd' : ops.toList.drop (t + 1) = os := by
   have := congrArg List.tail hd
   simpa using this
  have hid : (if opNew o.op = true then idAt ops base t + 1 else idAt ops base t) = idAt ops base (t + 1) := by
   unfold idAt
   rw [List.take_add_one, ht]
   by_cases hn : opNew o.op = true
   ·simp [hn, List.filter_append]; omega
   ·simp [hn, List.filter_append]
  have ho : ops[t]? = some o := by simpa using ht
  have ih := fun s rows => arunD_aruns base ms os (t + 1) hd' s rows
  have hm : (ms.drop t).headD 0 = markAt ms t := by
   unfold markAt
   rw [List.headD_eq_head?_getD, List.head?_drop, List.getD_eq_getElem?_getD]
  simp only [arunD, hid, hm, List.tail_drop] at h
  simp only [List.length_cons, List.range'_succ, aruns]
  refine (aop1_some ho).2 ?_
  rcases aguard_iff.1 h with ⟨h1, h2⟩ | ⟨h1, h2⟩
  ·obtain ⟨v, rows', h3, h4⟩ := aeffM_cont h2
   exact .inl ⟨h1, h4 (fun v r => aruns P F (markAt ms) ops (idAt ops base) (List.range' (t + 1) os.length) K (sput s o.dst v) r) (ih _ _ h3)⟩
  ·exact .inr ⟨h1, ih _ _ h2⟩

theorem awp_region_draw {n0 id m : Nat} {Q : Exit → KS} (hF : Facts F rows) (hm : P.follows .mixedOrders = true) (ms : List Nat) (hi : indep (markAt ms) ops = true) (hn : opsNew ops = m)
  (h : arunD P ops F ms ops.toList rows.length s (rows ++ List.replicate m .resv) (Q .normal)) : AWp P n0 (.region id ops true) Q s rows := by
 subst hn
 intro c a w hn0 hc
 obtain ⟨ro, ρ, g, hs⟩ := hc
 have hF0 : Facts F (rows ++ List.replicate (opsNew ops) .resv) := fun p hp => by
  obtain ⟨cs, h1, h2⟩ := hF p hp
  exact ⟨cs, by rw [List.getElem?_append_left (List.getElem?_eq_some_iff.1 h1).1]; exact h1, h2⟩
 have hr := arunD_aruns rows.length ms ops.toList 0 rfl s _ (by simpa [idAt] using h)
 refine wp_mono (Q := lift c (athen (Q .normal) Q)) (wp_region_any hm ?_) ?_
 ·refine any_sound hn0.2 (idf := idAt ops rows.length) (n := rows.length + opsNew ops) (bs := clos ops) ?_ hi ops.size (List.range' 0 ops.toList.length) _ a _ s _ (by simp) (by simp) hF0 (by simp) ?_ ?_ ?_ ?_ hr
  ·intro k o ho ha
   have hk : k < ops.size := (Array.getElem?_eq_some_iff.1 ho).1
   have hnew := opNew_of ha
   unfold idAt opsNew
   have : ops.toList = ops.toList.take k ++ o :: ops.toList.drop (k + 1) := by
    have hk' : k < ops.toList.length := by simpa using hk
    have he : ops.toList[k]'hk' = o := by
     have := (Array.getElem?_eq_some_iff.1 ho).2
     simpa using this
    rw [← he, List.getElem_cons_drop, List.take_append_drop]
   have h2 := congrArg (fun l => (l.filter fun o => opNew o.op).length) this
   simp only [List.filter_append, List.length_append, List.filter_cons, hnew, if_true, List.length_cons] at h2
   omega
  ·intro j
   rw [List.mem_range'_1]
   constructor
   ·intro hj
    have : j < ops.size := by simpa using hj
    simp [this]
   ·intro hj
    have := getD_false_lt hj
    simpa using this
  ·exact List.pairwise_lt_range'
  ·intro i o ho hl
   have hi : i < ops.size := (Array.getElem?_eq_some_iff.1 ho).1
   simp [hi] at hl
  ·obtain ⟨g1, e1⟩ := g.drew (w.drawn + 1)
   obtain ⟨g2, e2⟩ := g1.reserve (opsNew ops)
   exact ⟨ro, _, g2, (hs.ext e1).ext e2⟩
 ·rintro e a' w' ⟨s', rows', hQ, hc'⟩
  cases e <;> exact ⟨s', rows', hQ, hc'⟩

end
section
variable {P : Program} {ops : Array Oper} {F : List (Nat × Nat × V)} {K : KS} {o : Oper} {os : List Oper} {s : List V} {rows : List Row} {ms : List Nat} {id : Nat}
theorem arunD_end (h : K s rows) : arunD P ops F ms [] id s rows K := h
theorem arunD_go (hg : DU.gval ops o.guard s = some true) (h : ∀ K2 : KV, (∀ v rows', arunD P ops F ms.tail os (if opNew o.op = true then id + 1 else id) (sput s o.dst v) rows' K → K2 v rows') → aeffM P F (ms.headD 0) o.op id s rows K2) : arunD P ops F ms (o :: os) id s rows K :=
 aguard_iff.2 (.inl ⟨hg, h _ fun _ _ h => h⟩)
theorem arunD_no (hg : DU.gval ops o.guard s = some false) (h : arunD P ops F ms.tail os (if opNew o.op = true then id + 1 else id) (sput s o.dst vundef) rows K) : arunD P ops F ms (o :: os) id s rows K :=
 aguard_iff.2 (.inr ⟨hg, h⟩)
end
section
variable {P : Program} {n0 : Nat} {Q : Exit → KS} {s : List V} {rows : List Row}
theorem awp_region_draw' {id m : Nat} {ops : Array Oper} (hn : opsNew ops = m) (ms : List Nat) (hm : P.follows .mixedOrders = true) (hi : indep (markAt ms) ops = true)
  (h : arunD P ops [] ms ops.toList rows.length s (rows ++ List.replicate m .resv) (Q .normal)) : AWp P n0 (.region id ops true) Q s rows := awp_region_draw (facts_nil.2 trivial) hm ms hi hn h
theorem awp_region_drawF {id m : Nat} {ops : Array Oper} (F : List (Nat × Nat × V)) (hF : Facts F rows) (hn : opsNew ops = m) (ms : List Nat) (hm : P.follows .mixedOrders = true) (hi : indep (markAt ms) ops = true)
  (h : arunD P ops F ms ops.toList rows.length s (rows ++ List.replicate m .resv) (Q .normal)) : AWp P n0 (.region id ops true) Q s rows := awp_region_draw hF hm ms hi hn h
theorem arunD_go' {ops : Array Oper} {F : List (Nat × Nat × V)} {K : KS} {o : Oper} {os : List Oper} {ms : List Nat} {id : Nat} (hg : DU.gval ops o.guard s = some true)
  (h : ∀ K2 : KV, (∀ v rows', arunD P ops F ms.tail os (bif opNew o.op then id + 1 else id) (sput s o.dst v) rows' K → K2 v rows') → aeffM P F (ms.headD 0) o.op id s rows K2) : arunD P ops F ms (o :: os) id s rows K :=
 arunD_go hg fun K2 hK2 => h K2 fun v rows' hv => hK2 v rows' (bif_if (opNew o.op) id ▸ hv)
theorem arunD_no' {ops : Array Oper} {F : List (Nat × Nat × V)} {K : KS} {o : Oper} {os : List Oper} {ms : List Nat} {id : Nat} (hg : DU.gval ops o.guard s = some false)
  (h : arunD P ops F ms.tail os (bif opNew o.op then id + 1 else id) (sput s o.dst vundef) rows K) : arunD P ops F ms (o :: os) id s rows K :=
 arunD_no hg (bif_if (opNew o.op) id ▸ h)
theorem arunD_go0 {ops : Array Oper} {F : List (Nat × Nat × V)} {K : KS} {o : Oper} {os : List Oper} {ms : List Nat} {id : Nat} (hg : o.guard = none)
  (h : ∀ K2 : KV, (∀ v rows', arunD P ops F ms.tail os (bif opNew o.op then id + 1 else id) (sput s o.dst v) rows' K → K2 v rows') → aeffM P F (ms.headD 0) o.op id s rows K2) : arunD P ops F ms (o :: os) id s rows K :=
 arunD_go' (by unfold DU.gval gvalU; rw [hg]) h
theorem arunD_goF {ops : Array Oper} {F : List (Nat × Nat × V)} {K : KS} {o : Oper} {os : List Oper} {ms : List Nat} {id : Nat} (hg : o.guard = none) (hn : opNew o.op = false)
  (h : ∀ K2 : KV, (∀ v rows', arunD P ops F ms.tail os id (sput s o.dst v) rows' K → K2 v rows') → aeffM P F (ms.headD 0) o.op id s rows K2) : arunD P ops F ms (o :: os) id s rows K :=
 arunD_go0 hg fun K2 hK2 => h K2 fun v rows' hv => hK2 v rows' (by rw [hn]; exact hv)
theorem arunD_goT {ops : Array Oper} {F : List (Nat × Nat × V)} {K : KS} {o : Oper} {os : List Oper} {ms : List Nat} {id : Nat} (hg : o.guard = none) (hn : opNew o.op = true)
  (h : ∀ K2 : KV, (∀ v rows', arunD P ops F ms.tail os (id + 1) (sput s o.dst v) rows' K → K2 v rows') → aeffM P F (ms.headD 0) o.op id s rows K2) : arunD P ops F ms (o :: os) id s rows K :=
 arunD_go0 hg fun K2 hK2 => h K2 fun v rows' hv => hK2 v rows' (by rw [hn]; exact hv)
theorem arunD_gF {ops : Array Oper} {F : List (Nat × Nat × V)} {K : KS} {o : Oper} {os : List Oper} {ms : List Nat} {id : Nat} (hn : opNew o.op = false) (hg : DU.gval ops o.guard s = some true)
  (h : ∀ K2 : KV, (∀ v rows', arunD P ops F ms.tail os id (sput s o.dst v) rows' K → K2 v rows') → aeffM P F (ms.headD 0) o.op id s rows K2) : arunD P ops F ms (o :: os) id s rows K :=
 arunD_go' hg fun K2 hK2 => h K2 fun v rows' hv => hK2 v rows' (by rw [hn]; exact hv)
theorem arunD_gT {ops : Array Oper} {F : List (Nat × Nat × V)} {K : KS} {o : Oper} {os : List Oper} {ms : List Nat} {id : Nat} (hn : opNew o.op = true) (hg : DU.gval ops o.guard s = some true)
  (h : ∀ K2 : KV, (∀ v rows', arunD P ops F ms.tail os (id + 1) (sput s o.dst v) rows' K → K2 v rows') → aeffM P F (ms.headD 0) o.op id s rows K2) : arunD P ops F ms (o :: os) id s rows K :=
 arunD_go' hg fun K2 hK2 => h K2 fun v rows' hv => hK2 v rows' (by rw [hn]; exact hv)
theorem arunD_nF {ops : Array Oper} {F : List (Nat × Nat × V)} {K : KS} {o : Oper} {os : List Oper} {ms : List Nat} {id : Nat} (hn : opNew o.op = false) (hg : DU.gval ops o.guard s = some false)
  (h : arunD P ops F ms.tail os id (sput s o.dst vundef) rows K) : arunD P ops F ms (o :: os) id s rows K :=
 arunD_no' hg (by rw [hn]; exact h)
theorem arunD_nT {ops : Array Oper} {F : List (Nat × Nat × V)} {K : KS} {o : Oper} {os : List Oper} {ms : List Nat} {id : Nat} (hn : opNew o.op = true) (hg : DU.gval ops o.guard s = some false)
  (h : arunD P ops F ms.tail os (id + 1) (sput s o.dst vundef) rows K) : arunD P ops F ms (o :: os) id s rows K :=
 arunD_no' hg (by rw [hn]; exact h)
theorem arunD_slots' {ops : Array Oper} {F : List (Nat × Nat × V)} {K : KS} {os : List Oper} {ms ms' : List Nat} {id : Nat} {s s' : List V} (e : s = s') (em : ms = ms') (h : arunD P ops F ms' os id s' rows K) : arunD P ops F ms os id s rows K := by subst e; subst em; exact h
end
end DU
end Go.VS

namespace Go.VS.DU
theorem Yt {P : Program} {ops : Array Oper} {F : List (Nat × Nat × V)} {K : KS} {os : List Oper} {ms ms' : List Nat} {id : Nat} {s s' : List V} {rows : List Row} (h : arunD P ops F ms' os id s' rows K) (e : s = s' := by first | (dsimp only [sput, sset]; done) | rfl) (em : ms = ms' := by first | (dsimp only [List.tail]; done) | rfl) : arunD P ops F ms os id s rows K := arunD_slots' e em h
end Go.VS.DU
namespace Go.VS
theorem ZtD {p q : Prop} (h : q) (t : Wq q → p := by intro h; first | exact Yo h.1 | exact DU.arunD_end h.1 | exact Yq h.1 | exact Y6 h.1 | exact Y7 h.1 | exact Y9 h.1 | exact Ya h.1 | exact Yc h.1 | exact Ye (Yf h.1) | (refine Yd ?_; simp only [X0, Nat.reduceBEq]; exact h.1) | fail) : p := t ⟨h⟩
theorem ZuD {p q : Prop} (h : q) (t : Wq q → p := by intro h; first | exact Yl rfl h.1 | exact DU.arunD_goF rfl rfl h.1 | exact DU.arunD_goT rfl rfl h.1 | fail) : p := t ⟨h⟩
theorem ZvD {p r q : Prop} (hr : r) (h : q) (t : Wq r → Wq q → p := by intro a b; first | exact Ym a.1 b.1 | exact DU.arunD_gF rfl a.1 b.1 | exact DU.arunD_gT rfl a.1 b.1 | fail) : p := t ⟨hr⟩ ⟨h⟩
theorem ZnD {p r q : Prop} (hr : r) (h : q) (t : Wq r → Wq q → p := by intro a b; first | exact Yn a.1 b.1 | exact DU.arunD_nF rfl a.1 b.1 | exact DU.arunD_nT rfl a.1 b.1 | fail) : p := t ⟨hr⟩ ⟨h⟩
theorem ZsD {p q : Prop} (h : q) (t : Wq q → p := by intro h; first | exact Yp h.1 | exact DU.Yt h.1 | fail) : p := t ⟨h⟩
theorem ZfD {p r q : Prop} (hr : r) (h : q) (t : Wq r → Wq q → p := by intro a b; (repeat (refine Yz ?_)); first | exact a.1 _ _ (Yp b.1) | exact a.1 _ _ (DU.Yt b.1) | fail) : p := t ⟨hr⟩ ⟨h⟩
theorem ZqD {p q : Prop} (h : q) (t : Wq q → p := by intro h; refine ZuD ?_; intro K9 h9; refine Zd ?_; refine ZfD h9 ?_; first | exact h.1 | fail) : p := t ⟨h⟩
theorem ZrD {p q : Prop} (h : q) (t : Wq q → p := by intro h; (first | refine ZuD ?_ | (refine ZvD ?_ ?_; (focus (simp; done)))); intro K9 h9; refine Zd ?_; refine ZfD h9 ?_; first | exact h.1 | fail) : p := t ⟨h⟩
theorem ZoD {p q : Prop} (h : q) (t : Wq q → p := by intro h; refine ZnD ?_ ?_; (focus (simp; done)); refine ZsD ?_; first | exact h.1 | fail) : p := t ⟨h⟩
namespace DU
theorem Zk {P : Program} {n0 : Nat} {Q : Exit → KS} {s : List V} {rows : List Row} {id : Nat} {ops : Array Oper} (m : Nat) (ms : List Nat) (h : arunD P ops [] ms ops.toList rows.length s (rows ++ List.replicate m .resv) (Q .normal)) (hn : opsNew ops = m := by decide +kernel) (hm : P.follows .mixedOrders = true := by kernel_rfl) (hi : indep (markAt ms) ops = true := by decide +kernel) : AWp P n0 (.region id ops true) Q s rows := awp_region_draw' hn ms hm hi h
end DU
end Go.VS
