/-
 VALUE SEMANTICS, 29: regions whose guards hang on operations that were passed over.
 Conditions: none.
-/
import Derived.Test.YtnpndfmbkmbhbaaGreatDoorGd
import Derived.Laws.AppendOwn
set_option linter.all false
namespace Go.VS

def noBool : Value → Bool
 | .bool _ => false
 | _ => true
def vundef : V := .val undef
@[simp] theorem noBool_undef : noBool undef = true := rfl

def gvalU (ops : Array Oper) (g : Option (Nat × Bool)) (s : List V) : Option Bool :=
 match g with
 | none => some true
 | some (j, want) => match (ops[j]?).bind (·.dst) with
  | some d => (match sget s d with
   | .bool b => some (b == want)
   | .val u => if noBool u = true then some false else none
   | _ => none)
  | none => none

def arunU (P : Program) (ops : Array Oper) : List Oper → List V → List Row → KS → Prop
 | [], s, rows, K => K s rows
 | o :: os, s, rows, K => (gvalU ops o.guard s = some true ∧ aeff P false o.op rows.length s rows fun v rows' => arunU P ops os (sput s o.dst v) rows' K) ∨ (gvalU ops o.guard s = some false ∧ arunU P ops os (sput s o.dst vundef) rows K)

section
variable {P : Program} {n0 : Nat} {Q : Exit → KS} {s : List V} {rows : List Row}

theorem wanted_ofU {w : World} {ro : Nat → Prop} {ρ : Rho} {a : Act} {ops : Array Oper} {o : Oper} {b : Bool} (hs : Slots w ro ρ a s) (h : gvalU ops o.guard s = some b) : Region.wanted o (yielded ops a.tmps) = b := by
 unfold gvalU at h
 split at h
 ·rename_i hg; simp at h; subst h; simp [Region.wanted, hg]
 ·rename_i j want hg
  split at h
  ·rename_i d hd
   have hget : ∀ {x : V}, sget s d = x → x ≠ .junk → ∃ u, a.tmps.toList[d]? = some u ∧ Rd w ro ρ u x := by
    intro x hx hn
    have hlt : d < s.length := by
     rcases Nat.lt_or_ge d s.length with h | h
     ·exact h
     ·rw [sget_eq, List.getElem?_eq_none h] at hx; exact absurd hx.symm hn
    have hsd : s[d]? = some x := by
     rw [sget_eq] at hx
     obtain ⟨y, hy⟩ := get_iff hlt
     rw [hy] at hx ⊢
     simpa using hx
    exact hs.rds.get hsd
   split at h
   ·rename_i b' hb
    obtain ⟨u, hu, hr⟩ := hget hb (by simp)
    obtain rfl := rd_bool hr
    have hy : yielded ops a.tmps j = some b' := by
     unfold yielded
     rw [hd]
     have : a.tmps[d]? = some (.bool b') := by simpa using hu
     simp [this]
    simp at h
    subst h
    simp [Region.wanted, hg, hy]
   ·rename_i u hb
    split at h
    ·rename_i hnb
     simp at h
     subst h
     obtain ⟨u', hu, hr⟩ := hget hb (by simp)
     have he : u' = u := by cases hr; rfl
     subst he
     have ha : a.tmps[d]? = some u' := by simpa using hu
     have hy : yielded ops a.tmps j = none := by
      unfold yielded
      rw [hd]
      cases u' <;> simp_all [noBool]
     simp [Region.wanted, hg, hy]
    ·simp at h
   ·simp at h
  ·simp at h

theorem arunU_sound {ops : Array Oper} {K : KS} : ∀ (is : List Nat) (os : List Oper), is.length = os.length → (∀ (t : Nat) i o, is[t]? = some i → os[t]? = some o → ops[i]? = some o) → ∀ (s : List V) (rows : List Row) (c : Ctx) (a : Act) (w : World), GOk P c →
  arunU P ops os s rows K → Conc c s rows a w → wpOps P ops (lift c (athen K Q)) is a w
 | [], [], _, _, s, rows, c, a, w, _, h, hc => ⟨s, rows, h, hc⟩
 | [], _ :: _, hl, _, _, _, _, _, _, _, _, _ => by simp at hl
 | _ :: _, [], hl, _, _, _, _, _, _, _, _, _ => by simp at hl
 | i :: is, o :: os, hl, ho, s, rows, c, a, w, go, h, hc => by
  obtain ⟨ro, ρ, g, hs⟩ := hc
  have hio : ops[i]? = some o := ho 0 i o rfl rfl
  have ih := fun s rows a w (h : arunU P ops os s rows K) hc => arunU_sound is os (by simpa using hl) (fun t i o h1 h2 => ho (t + 1) i o (by simpa using h1) (by simpa using h2)) s rows c a w go h hc
  rw [wpOps_cons]
  unfold wpOp
  simp only [hio]
  simp only [arunU] at h
  rcases h with ⟨hg, h⟩ | ⟨hg, h⟩
  ·have hw := wanted_ofU (o := o) hs hg
   rw [if_pos hw]
   refine .inl (oper_wp (c := c) go hs g h ?_)
   intro v w' r rows' ro' ρ' h1 h2 h3
   exact ih _ _ _ _ h1 ⟨ro', ρ', h2, h3⟩
  ·have hw := wanted_ofU (o := o) hs hg
   rw [if_neg (by simp [hw])]
   exact ih _ _ _ _ h ⟨ro, ρ, g, hs.put .val o.dst⟩

theorem awp_regionU {id : Nat} {ops : Array Oper} (h : arunU P ops ops.toList s rows (Q .normal)) : AWp P n0 (.region id ops false) Q s rows := by
 intro c a w hn hc
 have := arunU_sound (P := P) (Q := Q) (K := Q .normal) (List.range ops.size) ops.toList (by simp) (fun t i o h1 h2 => by
  have hlt := (List.getElem?_eq_some_iff.1 h1).1
  simp at hlt
  rw [List.getElem?_range hlt] at h1
  simp at h1
  subst h1
  simpa using h2) s rows c a w hn.2 h hc
 refine wp_mono (wp_region this) ?_
 rintro e a' w' ⟨s', rows', hQ, hc'⟩
 cases e <;> exact ⟨s', rows', hQ, hc'⟩

section
variable {ops : Array Oper} {K : KS} {o : Oper} {os : List Oper}
theorem arunU_end (h : K s rows) : arunU P ops [] s rows K := h
theorem arunU_go (hg : gvalU ops o.guard s = some true) (h : ∀ K2 : KV, (∀ v rows', arunU P ops os (sput s o.dst v) rows' K → K2 v rows') → aeff P false o.op rows.length s rows K2) : arunU P ops (o :: os) s rows K := .inl ⟨hg, h _ fun _ _ h => h⟩
theorem arunU_go0 (hg : o.guard = none) (h : ∀ K2 : KV, (∀ v rows', arunU P ops os (sput s o.dst v) rows' K → K2 v rows') → aeff P false o.op rows.length s rows K2) : arunU P ops (o :: os) s rows K := arunU_go (by unfold gvalU; rw [hg]) h
theorem arunU_no (hg : gvalU ops o.guard s = some false) (h : arunU P ops os (sput s o.dst vundef) rows K) : arunU P ops (o :: os) s rows K := .inr ⟨hg, h⟩
theorem arunU_slots {s' : List V} (e : s = s') (h : arunU P ops os s' rows K) : arunU P ops os s rows K := by subst e; exact h
end
end
attribute [simp] gvalU vundef
end Go.VS
set_option linter.all false
namespace Go.VS
open Go.RowKit

section
variable {P : Program} {f : FuncId} {e : TypeId} {size bytes n : Nat} {cells : List V}

end
end Go.VS

set_option linter.all false
namespace Go.VS
def Yl := @arunU_go0
def Ym := @arunU_go
def Yn := @arunU_no
def Yo := @arunU_end
def Yq := @awp_regionU
theorem Yp {P : Program} {ops : Array Oper} {K : KS} {os : List Oper} {s s' : List V} {rows : List Row} (h : arunU P ops os s' rows K) (e : s = s' := by first | (dsimp only [sput, sset]; done) | rfl) : arunU P ops os s rows K := arunU_slots e h
theorem ZtU {p q : Prop} (h : q) (t : Wq q → p := by intro h; first | exact Yo h.1 | exact Y7 h.1 | exact Yq h.1 | exact Y6 h.1 | exact Y9 h.1 | exact Ya h.1 | exact Yc h.1 | exact Ye (Yf h.1) | (refine Yd ?_; simp only [X0, Nat.reduceBEq]; exact h.1) | fail) : p := t ⟨h⟩
theorem ZuU {p q : Prop} (h : q) (t : Wq q → p := by intro h; first | exact Yl rfl h.1 | exact Y1 rfl rfl h.1 | exact Y2 rfl rfl h.1 | fail) : p := t ⟨h⟩
theorem ZvU {p r q : Prop} (hr : r) (h : q) (t : Wq r → Wq q → p := by intro a b; first | exact Ym a.1 b.1 | exact Y4 rfl a.1 b.1 | exact Y5 rfl a.1 b.1 | fail) : p := t ⟨hr⟩ ⟨h⟩
theorem ZnU {p r q : Prop} (hr : r) (h : q) (t : Wq r → Wq q → p := by intro a b; first | exact Yn a.1 b.1 | exact Yi rfl a.1 b.1 | exact Yj rfl a.1 b.1 | fail) : p := t ⟨hr⟩ ⟨h⟩
theorem ZsU {p q : Prop} (h : q) (t : Wq q → p := by intro h; first | exact Yp h.1 | exact Yt h.1 | fail) : p := t ⟨h⟩
theorem ZfU {p r q : Prop} (hr : r) (h : q) (t : Wq r → Wq q → p := by intro a b; (repeat (refine Yz ?_)); first | exact a.1 _ _ (Yp b.1) | exact a.1 _ _ (Yt b.1) | fail) : p := t ⟨hr⟩ ⟨h⟩
theorem ZqU {p q : Prop} (h : q) (t : Wq q → p := by intro h; refine ZuU ?_; intro K9 h9; refine Zd ?_; refine ZfU h9 ?_; first | exact h.1 | fail) : p := t ⟨h⟩
theorem ZrU {p q : Prop} (h : q) (t : Wq q → p := by intro h; (first | refine ZuU ?_ | (refine ZvU ?_ ?_; (focus (simp; done)))); intro K9 h9; refine Zd ?_; refine ZfU h9 ?_; first | exact h.1 | fail) : p := t ⟨h⟩
theorem ZoU {p q : Prop} (h : q) (t : Wq q → p := by intro h; refine ZnU ?_ ?_; (focus (simp; done)); refine ZsU ?_; first | exact h.1 | fail) : p := t ⟨h⟩
end Go.VS
