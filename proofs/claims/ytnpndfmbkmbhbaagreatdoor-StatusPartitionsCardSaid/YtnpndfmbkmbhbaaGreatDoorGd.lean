/-
 VALUE SEMANTICS, 21: from a contract to a law's walk.
 Conditions: none.
-/
import Derived.Test.YtnpndfmbkmbhbaaGreatDoorGc
import Derived.Below
import Derived.ProofKit
import Derived.OpenShut
import Derived.SizedLaws
set_option linter.all false
namespace Go.VS

theorem PCall.below {P : Program} {f : FuncId} {args : List V} (h : PCall P f args (.bool true)) {w : World} {vs : Array Value} (ha : Rds w (fun b => b < w.heap.size) [] vs.toList args) (go : GOk P ⟨w, fun b => b < w.heap.size, []⟩) :
  Calls P f vs w fun e w' => e = .returned (.bool true) ∧ Go.RowKit.Below w.heap.size w w' := by
 refine (h.2.2 w (fun b => b < w.heap.size) [] vs (Good.start fun _ h => h) go ha).mono ?_
 rintro e w' ⟨v, r, rows', ro', ρ', rfl, rfl, g, hr⟩
 refine ⟨by rw [rd_bool hr], g.os, g.tape, g.output, g.size, fun k hk => g.ext.heap k hk⟩

end Go.VS
set_option linter.all false
namespace Go.VS

def contigL (P : Program) : List Field → Nat → Option Nat
 | [], o => some o
 | g :: gs, o => if g.offset = o then contigL P gs (o + P.cellsOf g.type) else none

def plain (P : Program) : Nat → TypeId → Bool
 | 0, _ => false
 | f + 1, t => match P.underlying t with
  | some .bool => true
  | some (.int _) => true
  | some .string => true
  | some (.slice e) => decide (0 < P.cellsOf e) && decide (0 < P.bytesOf e) && plain P f e
  | some (.struct fs) => decide (contigL P fs.toList 0 = some (P.cellsOf t)) && fs.toList.all fun g => plain P f g.type
  | some (.array n e) => decide (P.cellsOf t = n * P.cellsOf e) && plain P f e
  | _ => false

def Fits (P : Program) : Nat → TypeId → List V → Prop
 | 0, _, _ => False
 | f + 1, t, xs => match P.underlying t with
  | some .bool => ∃ b, xs = [.bool b]
  | some (.int k) => ∃ n, (k.min ≤ n ∧ n ≤ k.max) ∧ xs = [.int k n]
  | some .string => ∃ s : List UInt8, s.length ≤ reachBytes ∧ xs = [.str s]
  | some (.slice e) => ∃ yss : List (List V), yss.length ≤ reachBytes ∧ yss.length * P.bytesOf e ≤ reachBytes ∧ (∀ ys ∈ yss, Fits P f e ys) ∧ xs = [.sl yss.length yss.flatten]
  | some (.struct fs) => ∃ yss : List (List V), yss.length = fs.size ∧ (∀ (i : Nat) ys g, yss[i]? = some ys → fs[i]? = some g → Fits P f g.type ys) ∧ xs = yss.flatten
  | some (.array n e) => ∃ yss : List (List V), yss.length = n ∧ (∀ ys ∈ yss, Fits P f e ys) ∧ xs = yss.flatten
  | _ => False

section
variable {w : World} {ro : Nat → Prop} {ρ : Rho}

theorem rds_one {u : Value} {x : V} (h : Rd w ro ρ u x) : Rds w ro ρ [u] [x] :=
 ⟨rfl, fun i a b ha hb => by
  cases i with
  | zero => simp at ha hb; subst ha; subst hb; exact h
  | succ i => simp at ha⟩

theorem rds_flatten : ∀ {uss : List (List Value)} {yss : List (List V)}, uss.length = yss.length → (∀ (i : Nat) us ys, uss[i]? = some us → yss[i]? = some ys → Rds w ro ρ us ys) → Rds w ro ρ uss.flatten yss.flatten
 | [], [], _, _ => ⟨rfl, fun i u x h => by simp at h⟩
 | [], _ :: _, h, _ => by simp at h
 | _ :: _, [], h, _ => by simp at h
 | us :: uss, ys :: yss, h, hr => by
  rw [List.flatten_cons, List.flatten_cons]
  exact (hr 0 us ys rfl rfl).append (rds_flatten (by simpa using h) fun i a b ha hb => hr (i + 1) a b (by simpa using ha) (by simpa using hb))

theorem choose_list {α β : Type} {R : α → β → Prop} : ∀ {l : List α}, (∀ x ∈ l, ∃ y, R x y) → ∃ m : List β, m.length = l.length ∧ ∀ (i : Nat) x y, l[i]? = some x → m[i]? = some y → R x y
 | [], _ => ⟨[], rfl, fun i x y h => by simp at h⟩
 | a :: l, h => by
  obtain ⟨b, hb⟩ := h a (by simp)
  obtain ⟨m, h1, h2⟩ := choose_list (l := l) fun x hx => h x (by simp [hx])
  refine ⟨b :: m, by simp [h1], fun i x y hx hy => ?_⟩
  cases i with
  | zero => simp at hx hy; subst hx; subst hy; exact hb
  | succ i => exact h2 i x y (by simpa using hx) (by simpa using hy)

theorem chunks_flatten {α : Type} {l : List α} (c : Nat) : ∀ (n : Nat), l.length = n * c → ((List.range n).map fun i => (l.drop (i * c)).take c).flatten = l := by
 intro n
 induction n generalizing l with
 | zero => intro h; simp at h; subst h; rfl
 | succ n ih =>
  intro h
  rw [List.range_succ_eq_map, List.map_cons, List.flatten_cons, List.map_map]
  have := ih (l := l.drop c) (by rw [List.length_drop, h, Nat.succ_mul]; omega)
  simp only [List.drop_drop] at this
  have e : (fun i => (l.drop (i * c)).take c) ∘ Nat.succ = fun i => (l.drop (c + i * c)).take c := by
   funext i
   simp only [Function.comp, Nat.succ_mul, Nat.add_comm]
  rw [e, this]
  simp


theorem flatten_idx {α : Type} {c : Nat} : ∀ {l : List (List α)}, (∀ x ∈ l, x.length = c) → ∀ {i : Nat} {u : α}, l.flatten[i]? = some u → ∃ q r us, i = q * c + r ∧ r < c ∧ l[q]? = some us ∧ us[r]? = some u
 | [], _, i, u, h => by simp at h
 | a :: l, hl, i, u, h => by
  rw [List.flatten_cons, List.getElem?_append] at h
  have ha : a.length = c := hl a (by simp)
  split at h
  ·exact ⟨0, i, a, by simp, by omega, rfl, h⟩
  ·obtain ⟨q, r, us, h1, h2, h3, h4⟩ := flatten_idx (l := l) (fun x hx => hl x (by simp [hx])) h
   exact ⟨q + 1, r, us, by rw [Nat.succ_mul]; omega, h2, by simpa using h3, h4⟩

theorem contigL_flatten {P : Program} {cs : List Value} : ∀ {fs : List Field} {o e : Nat}, contigL P fs o = some e → o ≤ e ∧ (fs.map fun g => (cs.drop g.offset).take (P.cellsOf g.type)).flatten = (cs.drop o).take (e - o)
 | [], o, e, h => by simp [contigL] at h; subst h; simp
 | g :: gs, o, e, h => by
  simp only [contigL] at h
  split at h
  ·rename_i hg
   obtain ⟨h1, h2⟩ := contigL_flatten (cs := cs) h
   refine ⟨by omega, ?_⟩
   rw [List.map_cons, List.flatten_cons, h2, hg, ← List.drop_drop, ← List.take_add]
   congr 1
   omega
  ·simp at h

theorem weights_mem_all {H : Type} {P : Program} {e : TypeId} : ∀ {ds : List (DataW H)} {d : DataW H}, d ∈ ds → ∀ n ∈ d.weights P e, n ∈ DataW.weightsAll P e ds
 | a :: l, d, hd, n, hn => by
  simp only [DataW.weightsAll, List.mem_append]
  rcases List.mem_cons.1 hd with rfl | h
  ·exact .inl hn
  ·exact .inr (weights_mem_all h n hn)

theorem lit_wf_int {k : IntKind} {n : Int} (h : (Lit.int k n).wf = true) : k.min ≤ n ∧ n ≤ k.max := by
 simpa [Lit.wf] using h

theorem cell_spot {w : World} {a : Addr} {u : Value} (h : w.cell? a = some u) : a.spot = none ∧ a.block < w.heap.size := by
 unfold World.cell? at h
 split at h
 ·rename_i c e fr hb
  split at h
  ·simp at h
  ·rename_i hs
   refine ⟨?_, (Array.getElem?_eq_some_iff.1 hb).1⟩
   cases hsp : a.spot with
   | none => rfl
   | some x => simp [hsp] at hs
 ·simp at h

theorem addr_add {a : Addr} (h : a.spot = none) (n : Nat) : a.add n = ⟨a.block, a.off + n, none⟩ := by
 unfold Addr.add
 split
 ·rename_i h0; subst h0; cases a; simp at h; subst h; rfl
 ·rfl

theorem trod_fits {H : Type} {enc : TypeId × Value → H} {P : Program} {w : World} {base : Nat} {sp : Nat → Bool} {held : Bool} : ∀ (f : Nat) {fuel : Nat} {t : TypeId} {cs : List Value} {x : DataW H × List MemPlace}, plain P f t = true →
  DataW.trod enc P w base sp held fuel t cs = some x → (∀ n ∈ x.1.weights P t, n ≤ reachBytes) → ∃ xs, Rds w (fun b => b < w.heap.size) [] cs xs ∧ Fits P f t xs
 | 0, fuel, t, cs, x, hp, h, hw => by simp [plain] at hp
 | f + 1, fuel, t, cs, x, hp, h, hw => by
  simp only [plain] at hp
  split at hp
  ·rename_i ht
   obtain ⟨b, rfl, rfl⟩ := DataW.trod_bool ht h
   exact ⟨[.bool b], rds_one .bool, by simp only [Fits, ht]; exact ⟨b, rfl⟩⟩
  ·rename_i k ht
   obtain ⟨n, rfl, rfl, hn⟩ := DataW.trod_int ht h
   exact ⟨[.int k n], rds_one .int, by simp only [Fits, ht]; exact ⟨n, lit_wf_int hn, rfl⟩⟩
  ·rename_i ht
   obtain ⟨s, rfl, rfl, hs⟩ := DataW.trod_string ht h
   refine ⟨[.str s.data.toList], rds_one ?_, by simp only [Fits, ht]; exact ⟨_, hw _ (by simp [DataW.weights]), rfl⟩⟩
   exact Rd.str (s := s.data.toList)
  ·rename_i e ht
   simp only [Bool.and_eq_true, decide_eq_true_eq] at hp
   obtain ⟨⟨hc, hby⟩, hpe⟩ := hp
   rcases DataW.trod_slice ht h with ⟨rfl, rfl⟩ | ⟨a, len, cap, elems, rest, n, rfl, rfl, rfl, hb, hl, hm, hlen, hel, -, -⟩
   ·exact ⟨[.sl 0 []], rds_one .sl0, by simp only [Fits, ht]; exact ⟨[], by simp, by simp, by simp, rfl⟩⟩
   ·simp only [DataW.weights, ht, List.mem_cons, List.mem_append] at hw
    have hsum := hw _ (.inl rfl)
    simp only [List.length_map] at hsum
    have hlen2 : len * P.bytesOf e ≤ reachBytes := Nat.le_trans (Nat.mul_le_mul_right _ (by omega)) hsum
    have hlen1 : len ≤ reachBytes := Nat.le_trans (Nat.le_mul_of_pos_right _ hby) hlen2
    by_cases h0 : len = 0
    ·subst h0
     exact ⟨[.sl 0 []], rds_one .slz, by simp only [Fits, ht]; exact ⟨[], by simp, by simp, by simp, rfl⟩⟩
    ·have each : ∀ i ∈ List.range len, ∃ p : List Value × List V, w.cells? base (a.add (i * P.cellsOf e)) (P.cellsOf e) = some p.1 ∧ Rds w (fun b => b < w.heap.size) [] p.1 p.2 ∧ Fits P f e p.2 := by
      intro i hi
      have hi := List.mem_range.1 hi
      have hb := hel i hi
      have hy : elems[i]? = some (elems[i]'(by omega)) := List.getElem?_eq_getElem (by omega)
      rw [hy] at hb
      obtain ⟨cs', h1, h2⟩ := Option.bind_eq_some_iff.1 hb
      obtain ⟨xs, h3, h4⟩ := trod_fits f hpe h2 fun m hm => hw _ (.inr (.inl (weights_mem_all (List.mem_map.2 ⟨_, List.getElem_mem _, rfl⟩) m hm)))
      exact ⟨(cs', xs), h1, h3, h4⟩
     obtain ⟨m, hml, hm2⟩ := choose_list each
     simp only [List.length_range] at hml
     have hat : ∀ i p, m[i]? = some p → w.cells? base (a.add (i * P.cellsOf e)) (P.cellsOf e) = some p.1 ∧ Rds w (fun b => b < w.heap.size) [] p.1 p.2 ∧ Fits P f e p.2 := by
      intro i p hi
      have hlt := (List.getElem?_eq_some_iff.1 hi).1
      exact hm2 i i p (by rw [List.getElem?_range (by omega)]) hi
     have hspot : a.spot = none ∧ a.block < w.heap.size := by
      obtain ⟨p, hp⟩ := get_iff (l := m) (i := 0) (by omega)
      obtain ⟨-, hpl, hpc⟩ := World.cells?_some (hat 0 p hp).1
      have := hpc 0 hc
      obtain ⟨u, hu⟩ := get_iff (l := p.1) (i := 0) (by omega)
      rw [hu] at this
      have := cell_spot this
      simpa [Addr.add] using this
     refine ⟨[.sl len (m.map (·.2)).flatten], rds_one (Rd.sl (us := (m.map (·.1)).flatten) hspot.1 hspot.2 hl ?_ ?_ ?_), ?_⟩
     ·refine (rds_flatten (w := w) (ro := fun b => b < w.heap.size) (ρ := []) (uss := m.map (·.1)) (yss := m.map (·.2)) (by simp) ?_).1
      intro i us ys hu hy
      simp only [List.getElem?_map, Option.map_eq_some_iff] at hu hy
      obtain ⟨p, hp, rfl⟩ := hu
      obtain ⟨p', hp', rfl⟩ := hy
      rw [hp] at hp'; cases hp'
      exact (hat i p hp).2.1
     ·intro i u hu
      obtain ⟨q, r, us, rfl, hr, hq, hur⟩ := flatten_idx (c := P.cellsOf e) (l := m.map (·.1)) (by
       intro us hus
       obtain ⟨p, hp, rfl⟩ := List.mem_map.1 hus
       obtain ⟨i, hi⟩ := List.mem_iff_getElem?.1 hp
       exact (World.cells?_some (hat i p hi).1).2.1) hu
      simp only [List.getElem?_map, Option.map_eq_some_iff] at hq
      obtain ⟨p, hp, rfl⟩ := hq
      have := (World.cells?_some (hat q p hp).1).2.2 r hr
      rw [hur, addr_add hspot.1, addr_add rfl] at this
      rw [← this]
      simp [Nat.add_assoc]
     ·refine (rds_flatten (w := w) (ro := fun b => b < w.heap.size) (ρ := []) (uss := m.map (·.1)) (yss := m.map (·.2)) (by simp) ?_).2
      intro i us ys hu hy
      simp only [List.getElem?_map, Option.map_eq_some_iff] at hu hy
      obtain ⟨p, hp, rfl⟩ := hu
      obtain ⟨p', hp', rfl⟩ := hy
      rw [hp] at hp'; cases hp'
      exact (hat i p hp).2.1
     ·simp only [Fits, ht]
      refine ⟨m.map (·.2), by simp; omega, by simp [hml]; exact hlen2, ?_, by simp [hml]⟩
      intro ys hys
      obtain ⟨p, hp, rfl⟩ := List.mem_map.1 hys
      obtain ⟨i, hi⟩ := List.mem_iff_getElem?.1 hp
      exact (hat i p hi).2.2
  ·rename_i fs ht
   simp only [Bool.and_eq_true, decide_eq_true_eq, List.all_eq_true] at hp
   obtain ⟨hc, hpf⟩ := hp
   obtain ⟨ys, n, rfl, rfl, hcl, hyl, hel⟩ := DataW.trod_struct ht h
   simp only [DataW.weights, ht] at hw
   have each : ∀ i ∈ List.range fs.size, ∃ xs : List V, ∀ g, fs[i]? = some g → Rds w (fun b => b < w.heap.size) [] ((cs.drop g.offset).take (P.cellsOf g.type)) xs ∧ Fits P f g.type xs := by
    intro i hi
    have hi := List.mem_range.1 hi
    have hg : fs[i]? = some fs[i] := Array.getElem?_eq_getElem hi
    have hb := hel i _ hg
    have hy : ys[i]? = some (ys[i]'(by omega)) := List.getElem?_eq_getElem (by omega)
    rw [hy] at hb
    obtain ⟨xs, h3, h4⟩ := trod_fits f (hpf fs[i] (by simp)) hb fun m hm => hw _ (DataW.weights_mem_each (j := i) (by simp [hi]) (by simp [hy]) m hm)
    refine ⟨xs, fun g hg' => ?_⟩
    rw [hg] at hg'; cases hg'
    exact ⟨h3, h4⟩
   obtain ⟨m, hml, hm2⟩ := choose_list each
   simp only [List.length_range] at hml
   have hat : ∀ (i : Nat) xs g, m[i]? = some xs → fs[i]? = some g → Rds w (fun b => b < w.heap.size) [] ((cs.drop g.offset).take (P.cellsOf g.type)) xs ∧ Fits P f g.type xs := by
    intro i xs g hi hg
    have hlt := (List.getElem?_eq_some_iff.1 hi).1
    exact hm2 i i xs (by rw [List.getElem?_range (by omega)]) hi g hg
   refine ⟨m.flatten, ?_, by simp only [Fits, ht]; exact ⟨m, hml, fun i ys g h1 h2 => (hat i ys g h1 h2).2, rfl⟩⟩
   have hfl := (contigL_flatten (cs := cs) hc).2
   rw [List.drop_zero, Nat.sub_zero, List.take_of_length_le (by omega)] at hfl
   rw [← hfl]
   refine rds_flatten (by simp [hml]) fun i us xs hu hx => ?_
   simp only [List.getElem?_map, Option.map_eq_some_iff, Array.getElem?_toList] at hu
   obtain ⟨g, hg, rfl⟩ := hu
   exact (hat i xs g hx hg).1
  ·rename_i n e ht
   simp only [Bool.and_eq_true, decide_eq_true_eq] at hp
   obtain ⟨hc, hpe⟩ := hp
   obtain ⟨ys, k, rfl, rfl, hcl, hyl, hel⟩ := DataW.trod_array ht h
   simp only [DataW.weights, ht] at hw
   have each : ∀ i ∈ List.range n, ∃ xs : List V, Rds w (fun b => b < w.heap.size) [] ((cs.drop (i * P.cellsOf e)).take (P.cellsOf e)) xs ∧ Fits P f e xs := by
    intro i hi
    have hi := List.mem_range.1 hi
    have hb := hel i hi
    have hy : ys[i]? = some (ys[i]'(by omega)) := List.getElem?_eq_getElem (by omega)
    rw [hy] at hb
    exact trod_fits f hpe hb fun m hm => hw _ (weights_mem_all (List.mem_map.2 ⟨_, List.getElem_mem _, rfl⟩) m hm)
   obtain ⟨m, hml, hm2⟩ := choose_list each
   simp only [List.length_range] at hml
   have hat : ∀ (i : Nat) xs, m[i]? = some xs → Rds w (fun b => b < w.heap.size) [] ((cs.drop (i * P.cellsOf e)).take (P.cellsOf e)) xs ∧ Fits P f e xs := by
    intro i xs hi
    have hlt := (List.getElem?_eq_some_iff.1 hi).1
    exact hm2 i i xs (by rw [List.getElem?_range (by omega)]) hi
   refine ⟨m.flatten, ?_, ?_⟩
   ·rw [← chunks_flatten (l := cs) (P.cellsOf e) n (by omega)]
    refine rds_flatten (by simp [hml]) fun i us xs hu hx => ?_
    simp only [List.getElem?_map, Option.map_eq_some_iff] at hu
    obtain ⟨j, hj, rfl⟩ := hu
    have hlt := (List.getElem?_eq_some_iff.1 hx).1
    rw [List.getElem?_range (by omega)] at hj
    cases hj
    exact (hat i xs hx).1
   ·simp only [Fits, ht]
    refine ⟨m, hml, fun ys hys => ?_, rfl⟩
    obtain ⟨i, hi⟩ := List.mem_iff_getElem?.1 hys
    exact (hat i ys hi).2
  ·simp at hp

end

end Go.VS
set_option linter.all false
namespace Go.VS
open Go.ChangeShapes Go.WideShapes Go.RowKit

def FitsV (P : Program) (f : Nat) (t : TypeId) (x : V) : Prop := match P.underlying t with
 | some (.struct _) => ∃ xs, Fits P f t xs ∧ x = .agg xs
 | some (.array _ _) => ∃ xs, Fits P f t xs ∧ x = .agg xs
 | _ => Fits P f t [x]

def FitsAll (P : Program) (f : Nat) : List TypeId → List V → Prop
 | [], [] => True
 | t :: ts, x :: xs => FitsV P f t x ∧ FitsAll P f ts xs
 | _, _ => False

theorem okWide_arr' {P : Program} {w : World} {r : Reach} {base : Nat} {t : TypeId} {v : Value} {n : Nat} {e : TypeId} (ht : P.underlying t = some (.array n e)) (h : Value.okWide P w r base t v) : ∃ cs, v = .agg cs := by
 unfold Value.okWide at h
 rw [ht] at h
 obtain ⟨cs, rfl, -⟩ := h
 exact ⟨cs, rfl⟩

section
variable {H : Type} {enc : TypeId × Value → H} {P : Program} {w : World} {base : Nat} {sp : Nat → Bool} {held : Bool}

theorem rds_single {u : Value} {xs : List V} {ro : Nat → Prop} {ρ : Rho} (h : Rds w ro ρ [u] xs) : ∃ x, xs = [x] ∧ Rd w ro ρ u x := by
 match xs, h with
 | [x], h => exact ⟨x, rfl, h.2 0 u x rfl rfl⟩
 | [], h => simp [Rds] at h
 | _ :: _ :: _, h => simp [Rds] at h

theorem val_fits {f : Nat} {r : Reach} {b0 : Nat} {t : TypeId} {v : Value} {d : DataW H} {ps : List MemPlace} (hp : plain P f t = true) (hv : Value.okWide P w r b0 t v) (h : DataW.Trod enc P w base sp held t v d ps)
  (hw : ∀ n ∈ d.weights P t, n ≤ reachBytes) : ∃ x, Rd w (fun b => b < w.heap.size) [] v x ∧ FitsV P f t x := by
 obtain ⟨fuel, h⟩ := h
 obtain ⟨xs, h1, h2⟩ := trod_fits f hp h hw
 cases f with
 | zero => simp [plain] at hp
 | succ f =>
  have one : v.cells = #[v] → (∀ fs, P.underlying t ≠ some (.struct fs)) → (∀ n e, P.underlying t ≠ some (.array n e)) → ∃ x, Rd w (fun b => b < w.heap.size) [] v x ∧ FitsV P (f + 1) t x := by
   intro hc hs ha
   rw [hc] at h1
   obtain ⟨x, rfl, hx⟩ := rds_single h1
   refine ⟨x, hx, ?_⟩
   unfold FitsV
   split
   ·rename_i e; exact absurd e (hs _)
   ·rename_i e; exact absurd e (ha _ _)
   ·exact h2
  simp only [plain] at hp
  split at hp
  ·rename_i ht; obtain ⟨b, rfl⟩ := okWide_bool ht hv; exact one rfl (by simp [ht]) (by simp [ht])
  ·rename_i ht; obtain ⟨b, rfl⟩ := okWide_int ht hv; exact one rfl (by simp [ht]) (by simp [ht])
  ·rename_i ht; obtain ⟨b, rfl⟩ := okWide_string ht hv; exact one rfl (by simp [ht]) (by simp [ht])
  ·rename_i ht; obtain ⟨a, l, c, rfl⟩ := okWide_slice ht hv; exact one rfl (by simp [ht]) (by simp [ht])
  ·rename_i ht
   obtain ⟨cs, rfl, -⟩ := okWide_struct ht hv
   exact ⟨.agg xs, Rd.agg (by simpa [Value.cells] using h1.1) (fun i u x hu hx => h1.2 i u x (by simpa [Value.cells] using hu) hx), by simp only [FitsV, ht]; exact ⟨xs, h2, rfl⟩⟩
  ·rename_i ht
   obtain ⟨cs, rfl⟩ := okWide_arr' ht hv
   exact ⟨.agg xs, Rd.agg (by simpa [Value.cells] using h1.1) (fun i u x hu hx => h1.2 i u x (by simpa [Value.cells] using hu) hx), by simp only [FitsV, ht]; exact ⟨xs, h2, rfl⟩⟩
  ·simp at hp

theorem trodAll_fits {f : Nat} {r : Reach} {b0 : Nat} : ∀ {ts : List TypeId} {vs : List Value} {ds : List (DataW H)} {ps : List MemPlace}, (∀ t ∈ ts, plain P f t = true) →
  (∀ (j : Nat) t v, ts[j]? = some t → vs[j]? = some v → Value.okWide P w r b0 t v) → DataW.TrodAll enc P w base sp held ts vs ds ps → (∀ n ∈ DataW.weightsEach P ts ds, n ≤ reachBytes) →
  ∃ xs, Rds w (fun b => b < w.heap.size) [] vs xs ∧ FitsAll P f ts xs
 | [], vs, ds, ps, hp, hv, h, hw => by
  obtain ⟨rfl, rfl, rfl⟩ := trodAll_nil h
  exact ⟨[], ⟨rfl, fun i u x h => by simp at h⟩, trivial⟩
 | t :: ts, vs, ds, ps, hp, hv, h, hw => by
  obtain ⟨v, vs, d, ds, p, q, rfl, rfl, rfl, h0, r0⟩ := trodAll_cons h
  simp only [DataW.weightsEach, List.mem_append] at hw
  obtain ⟨x, hx, hf⟩ := val_fits (hp t (by simp)) (hv 0 t v rfl rfl) h0 fun n hn => hw n (.inl hn)
  obtain ⟨xs, hxs, hfs⟩ := trodAll_fits (ts := ts) (fun t ht => hp t (by simp [ht])) (fun j t v h1 h2 => hv (j + 1) t v (by simpa using h1) (by simpa using h2)) r0 fun n hn => hw n (.inr hn)
  exact ⟨x :: xs, ⟨by simp [hxs.1], fun i u y hu hy => by
   cases i with
   | zero => simp at hu hy; subst hu; subst hy; exact hx
   | succ i => exact hxs.2 i u y (by simpa using hu) (by simpa using hy)⟩, hf, hfs⟩

theorem trodAll_stays (hl : laidOutB P = true) {W' : World} {sp' : Nat → Bool} : ∀ {ts : List TypeId} {vs : List Value} {ds : List (DataW H)} {ps : List MemPlace}, (∀ t ∈ ts, P.readableRec t = true ∧ t < P.types.size) →
  DataW.TrodAll enc P w base (fun _ => true) true ts vs ds ps → (∀ p ∈ ps, w.sameAt W' p) → (∀ p ∈ ps, sp' p.block = true) → DataW.TrodAll enc P W' base sp' true ts vs ds ps
 | [], vs, ds, ps, _, h, _, _ => by
  obtain ⟨rfl, rfl, rfl⟩ := trodAll_nil h
  exact trodAll_mk0
 | t :: ts, vs, ds, ps, hr, h, h1, h2 => by
  obtain ⟨v, vs, d, ds, p, q, rfl, rfl, rfl, h0, r0⟩ := trodAll_cons h
  exact trodAll_cons_mk (WideElems.Trod_stays hl (hr t (by simp)).1 (hr t (by simp)).2 h0 (fun p hp => h1 p (by simp [hp])) (fun p hp => h2 p (by simp [hp])))
   (trodAll_stays hl (fun t ht => hr t (by simp [ht])) r0 (fun p hp => h1 p (by simp [hp])) (fun p hp => h2 p (by simp [hp])))

end

theorem trodAll_len {H : Type} {enc : TypeId × Value → H} {P : Program} {w : World} {base : Nat} {sp : Nat → Bool} {held : Bool} : ∀ {ts : List TypeId} {vs : List Value} {ds : List (DataW H)} {ps : List MemPlace}, DataW.TrodAll enc P w base sp held ts vs ds ps → ds.length = ts.length
 | [], vs, ds, ps, h => by obtain ⟨rfl, rfl, rfl⟩ := trodAll_nil h; rfl
 | t :: ts, vs, ds, ps, h => by
  obtain ⟨v, vs, d, ds, p, q, rfl, rfl, rfl, h0, r0⟩ := trodAll_cons h
  simp [trodAll_len r0]

theorem law_lifted {C : Checked} {f : FuncId} {fn : Func} {s : ChangeSpec} {conds : List PathCond} {K : Nat} {tb : TypeId} (own : ownKnob C.prog.godebug = none) (hl : laidOutB C.prog = true) (noInit : C.prog.inits.idxOf? f = none)
  (hfn : C.prog.funcs[f]? = some fn) (hvars : s.vars = []) (hspec : ∀ (H : Type) (ds : List (DataW H)), ds.length = fn.params.toList.length → s.fn H ds = { results := [.lit (.bool true)], args := ds })
  (hres : fn.resultTypes = #[tb]) (htb : C.prog.underlying tb = some .bool) (hpl : (fn.params.toList.all fun t => plain C.prog K t && C.prog.readableRec t && decide (t < C.prog.types.size)) = true)
  (hgo : C.prog.globalNamed "internal/bytealg.MaxLen" = none) (call : ∀ xs, FitsAll C.prog K fn.params.toList xs → PCall C.prog f xs (.bool true)) (os : Os) (started : os.Started) (H : Type) (enc : TypeId × Value → H)
  (witness : ∃ (w : World) (tape : Tape) (i : Input), w.os = os ∧ (w.forCall tape i).Shaped C.prog ∧ i.vars = [] ∧ Input.okWide C.prog (w.forCall tape i) .any w.heap.size f i ∧
   s.pre6 enc C.prog fn conds false (w.forCall tape i).memory i.args ∧ ({} : Assume).holds C.prog (lone (Frame.enter C.prog f i.args .normal) [] (w.forCall tape i))) :
  ReturnsInHanded {} C os f .any (s.pre6 enc C.prog fn conds false) (s.post enc C.prog fn false true false false) := by
 refine returnsInHanded_of_change_sized own started noInit hfn witness ?_
 intro W base args ds gs before hval hW hcnd hsz hholds
 have hW' := hW
 obtain ⟨p, q, hA, hV, rfl, hfz, hnd⟩ := hW
 rw [hvars] at hV
 obtain ⟨rfl, rfl⟩ := trodVars_none hV
 simp only [List.append_nil] at hW' hsz hfz
 have hpl' : ∀ t ∈ fn.params.toList, plain C.prog K t = true ∧ C.prog.readableRec t = true ∧ t < C.prog.types.size := by
  intro t ht
  have := List.all_eq_true.1 hpl t ht
  simp only [Bool.and_eq_true, decide_eq_true_eq] at this
  exact ⟨this.1.1, this.1.2, this.2⟩
 have hvt : s.plain.varTypes C.prog = [] := by simp [DataSpec.varTypes, ChangeSpec.plain, hvars]
 rw [hvt, List.append_nil] at hsz
 have hwt : ∀ n ∈ DataW.weightsEach C.prog fn.params.toList ds, n ≤ reachBytes := fun n hn => by simpa using List.all_eq_true.1 hsz n hn
 obtain ⟨xs, hxs, hfit⟩ := trodAll_fits (fun t ht => (hpl' t ht).1) (fun j t v h1 h2 => hval j t v (by simpa using h1) (by simpa using h2)) hA hwt
 refine ((call xs hfit).below (w := W) (vs := args) hxs (.none hgo)).mono ?_
 rintro e W' ⟨rfl, hb⟩
 have hlt : ∀ x ∈ p, x.block < W.heap.size := fun x hx => hW'.lt x hx
 have hsp := hspec H ds (trodAll_len hA)
 have hold : ∀ x ∈ p, decide (x.block < W.heap.size) = true := fun x hx => by simpa using hlt x hx
 refine ⟨_, rfl, ds, [], p, [], p, [], hW', ?_, ?_, ?_, World.keptBut_mono (fun x hx => ⟨hx, .inr (by simpa using hx)⟩) (hb.frame (· ∈ p)), fun h => by cases h⟩
 ·rw [hres]
  simp only [List.append_nil]
  rw [hsp]
  exact trodAll_cons_mk (shut_bool htb _) trodAll_mk0
 ·simp only [List.append_nil]
  rw [hsp]
  exact trodAll_stays hl (fun t ht => (hpl' t ht).2) hA (fun x hx => hb.same (hlt x hx)) hold
 ·simp only [List.append_nil]
  rw [hsp, hvars]
  rfl

end Go.VS
set_option linter.all false
namespace Go.VS

section
variable {P : Program} {f : Nat} {t e : TypeId} {x : V} {n : Nat}

theorem fitsAll_cons {ts : List TypeId} {xs : List V} (h : FitsAll P f (t :: ts) xs) : ∃ y ys, xs = y :: ys ∧ FitsV P f t y ∧ FitsAll P f ts ys := by
 cases xs with
 | nil => exact h.elim
 | cons y ys => exact ⟨y, ys, rfl, h.1, h.2⟩

theorem fitsAll_nil {xs : List V} (h : FitsAll P f [] xs) : xs = [] := by
 cases xs with
 | nil => rfl
 | cons y ys => exact h.elim

theorem i64_of {k : Int} (h : IntKind.i64.min ≤ k ∧ k ≤ IntKind.i64.max) : -9223372036854775808 ≤ k ∧ k ≤ 9223372036854775807 := by
 simpa [IntKind.min, IntKind.max, IntKind.signed, IntKind.bits] using h

theorem fits_int (ht : P.underlying t = some (.int .i64)) (h : FitsV P (f + 1) t x) : ∃ k : Int, (-9223372036854775808 ≤ k ∧ k ≤ 9223372036854775807) ∧ x = .int .i64 k := by
 simp only [FitsV, ht, Fits] at h
 obtain ⟨k, h1, h2⟩ := h
 exact ⟨k, i64_of h1, by simpa using h2⟩

end

end Go.VS
set_option linter.all false
namespace Go.VS

def ups : List V → List (Option V) → List V
 | a :: s, some v :: u => v :: ups s u
 | a :: s, none :: u => a :: ups s u
 | s, _ => s
theorem ups_some {a v : V} {s : List V} {u : List (Option V)} : ups (a :: s) (some v :: u) = v :: ups s u := rfl
theorem ups_none {a : V} {s : List V} {u : List (Option V)} : ups (a :: s) (none :: u) = a :: ups s u := rfl
theorem ups_nil {a : V} {s : List V} : ups (a :: s) [] = a :: s := rfl
theorem ups_nil' : ups [] [] = [] := rfl

section
variable {P : Program} {n0 : Nat} {Q : Exit → KS} {s : List V} {rows : List Row}

theorem awp_countU (U : Nat → List (Option V)) (R : Nat → List Row) (n : Nat) {code : Code} (hle : Le n0 s rows (ups s (U 0)) (R 0))
  (round : ∀ i, i ≤ n → ∀ K : KS, (∀ s' rows', i < n → Le n0 s' rows' (ups s (U (i + 1))) (R (i + 1)) → K s' rows') → AWp P n0 code (athen K Q) (ups s (U i)) (R i)) : AWp P n0 (.loop code) Q s rows :=
 awp_count (fun i => ups s (U i)) R n hle round

theorem awp_loopU {α : Type} (U : α → List (Option V)) (R : α → List Row) (H : α → Prop) (μ : α → Nat) (x0 : α) {code : Code} (h0 : H x0) (hle : Le n0 s rows (ups s (U x0)) (R x0))
  (round : ∀ x, H x → ∀ K : KS, (∀ x' s' rows', H x' → μ x' < μ x → Le n0 s' rows' (ups s (U x')) (R x') → K s' rows') → AWp P n0 code (athen K Q) (ups s (U x)) (R x)) : AWp P n0 (.loop code) Q s rows :=
 awp_loop' (fun x => ups s (U x)) R H μ x0 h0 hle round

theorem athen_normal {K : KS} : athen K Q .normal = K := rfl
theorem athen_exit {K : KS} {j : Nat} : athen K Q (.exit j) = Q (.exit j) := rfl
theorem athen_ret {K : KS} : athen K Q .ret = Q .ret := rfl
theorem ablock_self {j : Nat} : ablock j Q (.exit j) = Q .normal := by simp [ablock]
theorem ablock_ne {i j : Nat} (h : (i == j) = false) : ablock j Q (.exit i) = Q (.exit i) := by simp at h; simp [ablock, h]
theorem ablock_normal {j : Nat} : ablock j Q .normal = Q .normal := rfl
theorem ablock_ret {j : Nat} : ablock j Q .ret = Q .ret := rfl

theorem awp_slots {s' : List V} {code : Code} (e : s = s') (h : AWp P n0 code Q s' rows) : AWp P n0 code Q s rows := by subst e; exact h

theorem arun_go0 {ops : Array Oper} {K : KS} {o : Oper} {os : List Oper} (hg : o.guard = none) (h : ∀ K2 : KV, (∀ v rows', arun P ops os (sput s o.dst v) rows' K → K2 v rows') → aeff P false o.op rows.length s rows K2) : arun P ops (o :: os) s rows K :=
 arun_go (by unfold gval; rw [hg]) h
theorem arun_slots {ops : Array Oper} {K : KS} {os : List Oper} {s s' : List V} (e : s = s') (h : arun P ops os s' rows K) : arun P ops os s rows K := by subst e; exact h
theorem awp_region_draw' {id m : Nat} {ops : Array Oper} (hn : opsNew ops = m) (ms : List Nat) (hm : P.follows .mixedOrders = true) (hi : indep (markAt ms) ops = true)
  (h : arunD P ops [] ms ops.toList rows.length s (rows ++ List.replicate m .resv) (Q .normal)) : AWp P n0 (.region id ops true) Q s rows := awp_region_draw (facts_nil.2 trivial) hm ms hi hn h
theorem awp_region_drawF {id m : Nat} {ops : Array Oper} (F : List (Nat × Nat × V)) (hF : Facts F rows) (hn : opsNew ops = m) (ms : List Nat) (hm : P.follows .mixedOrders = true) (hi : indep (markAt ms) ops = true)
  (h : arunD P ops F ms ops.toList rows.length s (rows ++ List.replicate m .resv) (Q .normal)) : AWp P n0 (.region id ops true) Q s rows := awp_region_draw hF hm ms hi hn h

theorem bif_if (b : Bool) (id : Nat) : (bif b then id + 1 else id) = if b = true then id + 1 else id := by cases b <;> rfl
theorem arunD_go' {ops : Array Oper} {F : List (Nat × Nat × V)} {K : KS} {o : Oper} {os : List Oper} {ms : List Nat} {id : Nat} (hg : gval ops o.guard s = some true)
  (h : ∀ K2 : KV, (∀ v rows', arunD P ops F ms.tail os (bif opNew o.op then id + 1 else id) (sput s o.dst v) rows' K → K2 v rows') → aeffM P F (ms.headD 0) o.op id s rows K2) : arunD P ops F ms (o :: os) id s rows K :=
 arunD_go hg fun K2 hK2 => h K2 fun v rows' hv => hK2 v rows' (bif_if (opNew o.op) id ▸ hv)
theorem arunD_no' {ops : Array Oper} {F : List (Nat × Nat × V)} {K : KS} {o : Oper} {os : List Oper} {ms : List Nat} {id : Nat} (hg : gval ops o.guard s = some false)
  (h : arunD P ops F ms.tail os (bif opNew o.op then id + 1 else id) (sput s o.dst .junk) rows K) : arunD P ops F ms (o :: os) id s rows K :=
 arunD_no hg (bif_if (opNew o.op) id ▸ h)

theorem arunD_go0 {ops : Array Oper} {F : List (Nat × Nat × V)} {K : KS} {o : Oper} {os : List Oper} {ms : List Nat} {id : Nat} (hg : o.guard = none)
  (h : ∀ K2 : KV, (∀ v rows', arunD P ops F ms.tail os (bif opNew o.op then id + 1 else id) (sput s o.dst v) rows' K → K2 v rows') → aeffM P F (ms.headD 0) o.op id s rows K2) : arunD P ops F ms (o :: os) id s rows K :=
 arunD_go' (by unfold gval; rw [hg]) h

theorem arunD_goF {ops : Array Oper} {F : List (Nat × Nat × V)} {K : KS} {o : Oper} {os : List Oper} {ms : List Nat} {id : Nat} (hg : o.guard = none) (hn : opNew o.op = false)
  (h : ∀ K2 : KV, (∀ v rows', arunD P ops F ms.tail os id (sput s o.dst v) rows' K → K2 v rows') → aeffM P F (ms.headD 0) o.op id s rows K2) : arunD P ops F ms (o :: os) id s rows K :=
 arunD_go0 hg fun K2 hK2 => h K2 fun v rows' hv => hK2 v rows' (by rw [hn]; exact hv)
theorem arunD_goT {ops : Array Oper} {F : List (Nat × Nat × V)} {K : KS} {o : Oper} {os : List Oper} {ms : List Nat} {id : Nat} (hg : o.guard = none) (hn : opNew o.op = true)
  (h : ∀ K2 : KV, (∀ v rows', arunD P ops F ms.tail os (id + 1) (sput s o.dst v) rows' K → K2 v rows') → aeffM P F (ms.headD 0) o.op id s rows K2) : arunD P ops F ms (o :: os) id s rows K :=
 arunD_go0 hg fun K2 hK2 => h K2 fun v rows' hv => hK2 v rows' (by rw [hn]; exact hv)
theorem arunD_gF {ops : Array Oper} {F : List (Nat × Nat × V)} {K : KS} {o : Oper} {os : List Oper} {ms : List Nat} {id : Nat} (hn : opNew o.op = false) (hg : gval ops o.guard s = some true)
  (h : ∀ K2 : KV, (∀ v rows', arunD P ops F ms.tail os id (sput s o.dst v) rows' K → K2 v rows') → aeffM P F (ms.headD 0) o.op id s rows K2) : arunD P ops F ms (o :: os) id s rows K :=
 arunD_go' hg fun K2 hK2 => h K2 fun v rows' hv => hK2 v rows' (by rw [hn]; exact hv)
theorem arunD_gT {ops : Array Oper} {F : List (Nat × Nat × V)} {K : KS} {o : Oper} {os : List Oper} {ms : List Nat} {id : Nat} (hn : opNew o.op = true) (hg : gval ops o.guard s = some true)
  (h : ∀ K2 : KV, (∀ v rows', arunD P ops F ms.tail os (id + 1) (sput s o.dst v) rows' K → K2 v rows') → aeffM P F (ms.headD 0) o.op id s rows K2) : arunD P ops F ms (o :: os) id s rows K :=
 arunD_go' hg fun K2 hK2 => h K2 fun v rows' hv => hK2 v rows' (by rw [hn]; exact hv)
theorem arunD_nF {ops : Array Oper} {F : List (Nat × Nat × V)} {K : KS} {o : Oper} {os : List Oper} {ms : List Nat} {id : Nat} (hn : opNew o.op = false) (hg : gval ops o.guard s = some false)
  (h : arunD P ops F ms.tail os id (sput s o.dst .junk) rows K) : arunD P ops F ms (o :: os) id s rows K :=
 arunD_no' hg (by rw [hn]; exact h)
theorem arunD_nT {ops : Array Oper} {F : List (Nat × Nat × V)} {K : KS} {o : Oper} {os : List Oper} {ms : List Nat} {id : Nat} (hn : opNew o.op = true) (hg : gval ops o.guard s = some false)
  (h : arunD P ops F ms.tail os (id + 1) (sput s o.dst .junk) rows K) : arunD P ops F ms (o :: os) id s rows K :=
 arunD_no' hg (by rw [hn]; exact h)
theorem arunD_slots' {ops : Array Oper} {F : List (Nat × Nat × V)} {K : KS} {os : List Oper} {ms ms' : List Nat} {id : Nat} {s s' : List V} (e : s = s') (em : ms = ms') (h : arunD P ops F ms' os id s' rows K) : arunD P ops F ms os id s rows K := by subst e; subst em; exact h

theorem ret_go {rs : List ResultVar} {R : V → List Row → Prop} (h : ares P s rows rs fun r => R r rows) : aend P rs R .ret s rows := h
theorem fall_go {rs : List ResultVar} {R : V → List Row → Prop} (h : ares P s rows rs fun r => R r rows) : aend P rs R .normal s rows := h

end

def Pures (cs : List V) : Prop := ∀ x ∈ cs, x.Pure
@[simp] theorem pures_nil : Pures [] := by intro x h; simp at h
@[simp] theorem pures_cons {x : V} {l : List V} : Pures (x :: l) ↔ x.Pure ∧ Pures l := by simp [Pures]
@[simp] theorem pures_append {l m : List V} : Pures (l ++ m) ↔ Pures l ∧ Pures m := by
 simp only [Pures, List.mem_append]
 exact ⟨fun h => ⟨fun x hx => h x (.inl hx), fun x hx => h x (.inr hx)⟩, fun h x hx => hx.elim (h.1 x) (h.2 x)⟩
@[simp] theorem pures_bytes {l : List UInt8} : Pures (l.map byteV) := by
 intro x h; obtain ⟨y, -, rfl⟩ := List.mem_map.1 h; simp
@[simp] theorem pures_strs {l : List (List UInt8)} : Pures (l.map V.str) := by
 intro x h; obtain ⟨y, -, rfl⟩ := List.mem_map.1 h; simp
@[simp] theorem pures_ints {k : IntKind} {l : List Int} : Pures (l.map (V.int k)) := by
 intro x h; obtain ⟨y, -, rfl⟩ := List.mem_map.1 h; simp
@[simp] theorem pures_replicate {n : Nat} {x : V} (hx : x.Pure) : Pures (List.replicate n x) := by
 intro y h; obtain rfl := List.eq_of_mem_replicate h; exact hx
theorem pures_take {n : Nat} {l : List V} (h : Pures l) : Pures (l.take n) := fun x hx => h x (List.mem_of_mem_take hx)
@[simp] theorem rowRen_pures {ex : Bool} {m : List (Option Nat)} {cs : List V} (h : Pures cs) : RowRen ex m (.live cs) (.live cs) ↔ True := rowRen_self h

end Go.VS
set_option linter.all false
namespace Go.VS

def fz (id : Nat) (cs : List V) : V → V
 | .osl j off n sz => if j = id ∧ off + n * sz ≤ cs.length then .sl n ((cs.drop off).take (n * sz)) else .osl j off n sz
 | .ref j off => if j = id ∧ cs ≠ [] ∧ off ≤ cs.length then .rptr (cs.drop off) else .ref j off
 | x => x

def fzRow (id : Nat) (cs : List V) : Row → Row
 | .live ds => .live (ds.map (fz id cs))
 | r => r

section
variable {c : Ctx} {rows : List Row} {w : World} {ro : Nat → Prop} {ρ : Rho}

theorem CellsAt.drop' {b o : Nat} {cs : List V} (h : CellsAt w ro ρ b o cs) (n : Nat) : CellsAt w ro ρ b (o + n) (cs.drop n) := by
 intro i v hv
 rw [List.getElem?_drop] at hv
 obtain ⟨u, hu, hr⟩ := h (n + i) v hv
 exact ⟨u, by rwa [Nat.add_assoc], hr⟩

theorem CellsAt.take' {b o : Nat} {cs : List V} (h : CellsAt w ro ρ b o cs) (n : Nat) : CellsAt w ro ρ b o (cs.take n) := by
 intro i v hv
 rw [List.getElem?_take] at hv
 split at hv
 ·exact h i v hv
 ·simp at hv

theorem Good.freeze (g : Good c rows w ro ρ) {id : Nat} {cs : List V} (hl : rows[id]? = some (.live cs)) (hp : Pures cs) :
  ∃ ro' ρ', Good c ((rows.set id .dead).map (fzRow id cs)) w ro' ρ' ∧ ∀ u v, Rd w ro ρ u v → Rd w ro' ρ' u (fz id cs v) := by
 obtain ⟨g1, e1⟩ := g.kill hl
 have key : ∃ ro', Good c (rows.set id .dead) w ro' (ρ.set id .dead) ∧ Ext w ro ρ w ro' (ρ.set id .dead) ∧ ∀ u v, Rd w ro ρ u v → Rd w ro' (ρ.set id .dead) u (fz id cs v) := by
  rcases g.row id _ hl with ⟨x, hx, hat⟩ | ⟨hc, hv⟩
  ·obtain ⟨g2, e2⟩ := g1.roAdd (k := x.b) (g.ownLt hx) (fun j y hy => by
    rw [List.getElem?_set] at hy
    split at hy
    ·split at hy <;> simp at hy
    ·rename_i hne
     exact fun e => hne (g.inj id j x y hx hy e.symm)) (g.ownNew id x hx).1
   have e := e1.trans e2
   refine ⟨_, g2, e, fun u v h => ?_⟩
   have hcells : CellsAt w (fun b => ro b ∨ b = x.b) [] x.b x.o cs := by
    intro i v hv
    obtain ⟨u, hu, hr⟩ := hat.cellsAt i v hv
    refine ⟨u, hu, (hr.pure (hp v (mem_of_getElem? hv)) []).ext ⟨fun b h => .inl h, fun _ _ => rfl, fun id y h => by simp at h⟩⟩
   unfold fz
   split
   ·rename_i j off n sz
    split
    ·rename_i hj
     obtain ⟨rfl, hle⟩ := hj
     rcases rd_osl g h hl with ⟨rfl, rfl, hc, -⟩ | ⟨y, o, cap, hy, haty, rfl, ho, hn, hm⟩
     ·simp; exact .sl0
     ·rw [hx] at hy
      simp at hy
      subst hy
      by_cases hc0 : cap = 0
      ·subst hc0
       obtain rfl : n = 0 := by omega
       simp
       exact .slz
      ·obtain rfl : o = x.o + off := by rcases ho with h | h; exact absurd h hc0; exact h
       exact CellsAt.sl ((hcells.drop' off).take' _) (.inr rfl) hn
    ·exact h.ext e
   ·rename_i j off
    split
    ·rename_i hj
     obtain ⟨rfl, hne, hle⟩ := hj
     obtain ⟨y, hy, haty, rfl⟩ := rd_ref g h hl
     rw [hx] at hy
     simp at hy
     subst hy
     exact CellsAt.rptr (hcells.drop' off) (.inr rfl)
    ·exact h.ext e
   ·exact h.ext e
  ·refine ⟨ro, g1, e1, fun u v h => ?_⟩
   subst hc
   unfold fz
   split
   ·rename_i j off n sz
    split
    ·rename_i hj
     obtain ⟨rfl, hle⟩ := hj
     rcases rd_osl g h hl with ⟨rfl, rfl, hc, -⟩ | ⟨y, o, cap, hy, -⟩
     ·simp; exact .sl0
     ·rw [hv] at hy; simp at hy
    ·exact h.ext e1
   ·rename_i j off
    split
    ·rename_i hj; simp at hj
    ·exact h.ext e1
   ·exact h.ext e1
 obtain ⟨ro', g2, e2, hrd⟩ := key
 refine ⟨ro', _, ?_, hrd⟩
 refine ⟨g2.os, g2.tape, g2.output, g2.size, g2.old, g2.roLt, g2.roNew, by simpa using g2.len, g2.ownNew, g2.inj, fun j r hr => ?_, g2.ext⟩
 rw [List.getElem?_map] at hr
 cases hq : (rows.set id Row.dead)[j]? with
 | none => rw [hq] at hr; simp at hr
 | some r0 =>
  rw [hq] at hr
  simp at hr
  subst hr
  have h0 := g2.row j r0 hq
  cases r0 with
  | resv => exact h0
  | dead => exact h0
  | live ds =>
   have hne : id ≠ j := by
    rintro rfl
    rw [List.getElem?_set_self (List.getElem?_eq_some_iff.1 hl).1] at hq
    simp at hq
   rw [List.getElem?_set_ne hne] at hq
   rcases g.row j _ hq with ⟨y, hy, hat⟩ | ⟨rfl, hv⟩
   ·refine .inl ⟨y, by rw [List.getElem?_set_ne hne]; exact hy, ?_⟩
    obtain ⟨C, t, fr, h1, h2, h3, h4, h5⟩ := hat
    refine ⟨C, t, fr, h1, h2, h3, by simpa using h4, fun i v hv => ?_⟩
    rw [List.getElem?_map] at hv
    cases hd : ds[i]? with
    | none => rw [hd] at hv; simp at hv
    | some v0 =>
     rw [hd] at hv
     simp at hv
     subst hv
     obtain ⟨u, hu, hr⟩ := h5 i v0 hd
     exact ⟨u, hu, hrd u v0 hr⟩
   ·exact .inr ⟨by simp, by rw [List.getElem?_set_ne hne]; exact hv⟩

end

section
variable {P : Program} {n0 : Nat} {Q : Exit → KS} {s : List V} {rows : List Row}

theorem awp_freeze (id : Nat) {cs : List V} {code : Code} (hl : rows[id]? = some (.live cs)) (hp : Pures cs) (h : AWp P n0 code Q (s.map (fz id cs)) ((rows.set id .dead).map (fzRow id cs))) : AWp P n0 code Q s rows := by
 intro c a w hn hc
 obtain ⟨ro, ρ, g, hs⟩ := hc
 obtain ⟨ro', ρ', g', hr⟩ := g.freeze hl hp
 refine h c a w hn ⟨ro', ρ', g', ⟨?_, hs.nodefer⟩⟩
 refine ⟨by simpa using hs.rds.1, fun i u x hu hx => ?_⟩
 rw [List.getElem?_map] at hx
 cases hq : s[i]? with
 | none => rw [hq] at hx; simp at hx
 | some v =>
  rw [hq] at hx
  simp at hx
  subst hx
  exact hr u v (hs.rds.2 i u v hu hq)

end

end Go.VS
set_option linter.all false
namespace Go.VS

def nz : V → V
 | .nils => .sl 0 []
 | x => x
def nzRow : Row → Row
 | .live ds => .live (ds.map nz)
 | r => r

theorem Rd.nz {w : World} {ro : Nat → Prop} {ρ : Rho} {u : Value} {v : V} (h : Rd w ro ρ u v) : Rd w ro ρ u (nz v) := by
 unfold VS.nz
 split
 ·obtain rfl := rd_nils h; exact .sl0
 ·exact h

theorem Good.nz {c : Ctx} {rows : List Row} {w : World} {ro : Nat → Prop} {ρ : Rho} (g : Good c rows w ro ρ) : Good c (rows.map nzRow) w ro ρ := by
 refine ⟨g.os, g.tape, g.output, g.size, g.old, g.roLt, g.roNew, by simpa using g.len, g.ownNew, g.inj, fun j r hr => ?_, g.ext⟩
 rw [List.getElem?_map] at hr
 cases hq : rows[j]? with
 | none => rw [hq] at hr; simp at hr
 | some r0 =>
  rw [hq] at hr
  simp at hr
  subst hr
  have h0 := g.row j r0 hq
  cases r0 with
  | resv => exact h0
  | dead => exact h0
  | live ds =>
   rcases h0 with ⟨y, hy, C, t, fr, h1, h2, h3, h4, h5⟩ | ⟨rfl, hv⟩
   ·refine .inl ⟨y, hy, C, t, fr, h1, h2, h3, by simpa using h4, fun i v hv => ?_⟩
    rw [List.getElem?_map] at hv
    cases hd : ds[i]? with
    | none => rw [hd] at hv; simp at hv
    | some v0 =>
     rw [hd] at hv
     simp at hv
     subst hv
     obtain ⟨u, hu, hr⟩ := h5 i v0 hd
     exact ⟨u, hu, hr.nz⟩
   ·exact .inr ⟨by simp, hv⟩

theorem awp_nz {P : Program} {n0 : Nat} {Q : Exit → KS} {s : List V} {rows : List Row} {code : Code} (h : AWp P n0 code Q s (rows.map nzRow)) : AWp P n0 code Q s rows := by
 intro c a w hn hc
 obtain ⟨ro, ρ, g, hs⟩ := hc
 exact h c a w hn ⟨ro, ρ, g.nz, hs⟩

@[simp] theorem toByte_comp : toByte ∘ byteV = id := funext toByte_byteV
@[simp high] theorem pure_agg_pures {c : List V} : (V.agg c).Pure ↔ Pures c := ⟨fun h => by cases h; assumption, fun h => .agg h⟩
@[simp high] theorem pure_tup_pures {c : List V} : (V.tup c).Pure ↔ Pures c := ⟨fun h => by cases h; assumption, fun h => .tup h⟩
@[simp] theorem ren_of_pure {ex : Bool} {m : List (Option Nat)} {x : V} (h : x.Pure) : Ren ex m x x ↔ True := iff_true_intro (.pure h)


def MCall (P : Program) (f : FuncId) (args row row' : List V) (r : V) : Prop := ACalls P f args [.live row] fun r' rows' => r' = r ∧ rows' = [.live row']

def MEnd (row' : List V) (rows' : List Row) : Prop :=
 (∃ t, rows' = .live row' :: t) ∨ ∃ raw t id cs, rows' = .live raw :: t ∧ t[id]? = some (.live cs) ∧ Pures cs ∧ row' = raw.map (fz (id + 1) cs)

theorem fz_pure {id : Nat} {cs : List V} {v : V} (h : v.Pure) : fz id cs v = v := by
 cases h <;> rfl
theorem rowsRen_nil_any {rows : List Row} : RowsRen (List.map some []) [] rows := ⟨rfl, fun j j' i h => by simp at h, fun j i r h => by simp at h, fun j r h => by simp at h⟩

section
variable {P : Program} {f : FuncId} {args row row' : List V} {r : V}

theorem mcall_of (hr : r.Pure) (hp : Pures row') (h : ACalls P f args [.live row] fun r' rows' => r' = r ∧ MEnd row' rows') : MCall P f args row row' r := by
 refine ⟨h.1, fun w ro ρ vs g go ha => (h.2 w ro ρ vs g go ha).mono ?_⟩
 rintro e w' ⟨v, r', rows', ro', ρ', rfl, ⟨rfl, he⟩, g', hv⟩
 have hlen : ρ.length = 1 := by simpa using g.len
 have key : ∀ {ro' ρ' t}, Good ⟨w, ro, ρ⟩ (.live row' :: t) w' ro' ρ' → ∃ ρ'', Good ⟨w, ro, ρ⟩ [.live row'] w' ro' ρ'' := by
  intro ro' ρ' t g'
  refine ⟨_, g'.le (rows' := [.live row']) (m := [some 0]) (rowsRen_of (by simp) (by simp [rowsOver, hp])) ?_⟩
  intro j hj
  obtain rfl : j = 0 := by simp [hlen] at hj; exact hj
  rfl
 rcases he with ⟨t, rfl⟩ | ⟨raw, t, id, cs, rfl, hl, hpc, rfl⟩
 ·obtain ⟨ρ'', g''⟩ := key g'
  exact ⟨v, r', _, _, _, rfl, ⟨rfl, rfl⟩, g'', hv.pure hr _⟩
 ·obtain ⟨ro2, ρ2, g2, hrd⟩ := g'.freeze (id := id + 1) (by simpa using hl) hpc
  have he : ((Row.live raw :: t).set (id + 1) Row.dead).map (fzRow (id + 1) cs) = .live (raw.map (fz (id + 1) cs)) :: (t.set id .dead).map (fzRow (id + 1) cs) := by simp [fzRow]
  rw [he] at g2
  obtain ⟨ρ'', g''⟩ := key g2
  have := hrd v r' hv
  rw [fz_pure hr] at this
  exact ⟨v, r', _, _, _, rfl, ⟨rfl, rfl⟩, g'', this.pure hr _⟩

theorem mcall_body {fn : Func} {code : Code} (hf : P.funcs[f]? = some fn) (hb : fn.body = some code) (he : Enters P f) (hr : r.Pure) (hp : Pures row')
  (h : AWp P 1 code (aend P fn.results.toList fun r' rows' => r' = r ∧ MEnd row' rows') (args ++ List.replicate (fn.ntmps - args.length) .junk) [.live row]) : MCall P f args row row' r :=
 mcall_of hr hp (acalls_body hf hb he h)

theorem mend_plain {t : List Row} : MEnd row' (.live row' :: t) := .inl ⟨t, rfl⟩
theorem mend_fz {raw : List V} {t : List Row} (id : Nat) {cs : List V} (hl : t[id]? = some (.live cs)) (hp : Pures cs) (e : row' = raw.map (fz (id + 1) cs)) : MEnd row' (.live raw :: t) := .inr ⟨raw, t, id, cs, rfl, hl, hp, e⟩

theorem acallF_mut {args1 args2 : List V} {rows : List Row} {k : KV} (i : Nat) (hc : MCall P f args1 row row' r) (hrow : rows[i]? = some (.live row)) (hp : Pures row) (hp' : Pures row') (hr : r.Pure)
  (ha : Rens false [some i] args1 args2) (hk : k r (rows.set i (.live row'))) : acallF P f args2 rows k := by
 have hlt : i < rows.length := (List.getElem?_eq_some_iff.1 hrow).1
 have hb : behind [i] rows.length [Row.live row'].length = [some i] := by simp [behind]
 refine ⟨[i], args1, [.live row], r, [.live row'], r, rows.set i (.live row'), by simp, rowsRen_of (by simp) (by simp [rowsOver, hrow, hp]), by simpa using ha, hc, ⟨by simp, by simp, ?_, ?_⟩, .pure hr, hk⟩
 ·rw [hb]
  intro j t r1 hj hr1
  match j with
  | 0 =>
   simp at hj hr1
   subst hj; subst hr1
   exact ⟨.live row', by simp [hlt], by simp [hp']⟩
  | j + 1 => simp at hj
 ·intro j hj hn
  rw [List.getElem?_set_ne (by simp at hn; omega)]
theorem acall_mut {cap args1 args2 : List V} {rows : List Row} {k : KV} (i : Nat) (hc : MCall P f args1 row row' r) (hrow : rows[i]? = some (.live row)) (hp : Pures row) (hp' : Pures row') (hr : r.Pure)
  (ha : Rens false [some i] args1 (args2 ++ cap)) (hk : k r (rows.set i (.live row'))) : acall P false (.fn (.func f) cap) args2 rows k :=
 .inr ⟨rfl, acallF_acallW (acallF_mut i hc hrow hp hp' hr ha hk)⟩

theorem view_bytes {rows : List Row} {id off n : Nat} {l m : List UInt8} (h : rows[id]? = some (.live (l.map byteV))) (hl : off + n ≤ l.length) (e : m = (l.drop off).take n) : View rows (.osl id off n 1) (.sl n (m.map byteV)) := by
 subst e
 have := view_osl (rows := rows) (id := id) (off := off) (n := n) (sz := 1) h (by simpa using hl) (fun x hx => pures_bytes x (List.mem_of_mem_drop (List.mem_of_mem_take hx)))
 simpa using this

@[simp] theorem fz_byteV {id : Nat} {cs : List V} : fz id cs ∘ byteV = byteV := rfl
@[simp] theorem fz_str {id : Nat} {cs : List V} : fz id cs ∘ V.str = V.str := rfl
@[simp] theorem fz_int {id : Nat} {cs : List V} {k : IntKind} : fz id cs ∘ V.int k = V.int k := rfl
theorem awp_freeze' {n0 : Nat} {Q : Exit → KS} {s s' : List V} {rows rows' : List Row} {code : Code} (id : Nat) {cs : List V} (hl : rows[id]? = some (.live cs)) (hp : Pures cs) (hs : s.map (fz id cs) = s') (hr : (rows.set id .dead).map (fzRow id cs) = rows')
  (h : AWp P n0 code Q s' rows') : AWp P n0 code Q s rows := by
 subst hs; subst hr; exact awp_freeze id hl hp h


def NCall (P : Program) (f : FuncId) (args row : List V) : Prop := ACalls P f args [] fun r' rows' => r' = .ref 0 0 ∧ rows' = [.live row]

theorem ncall_body {fn : Func} {code : Code} (hf : P.funcs[f]? = some fn) (hb : fn.body = some code) (he : Enters P f)
  (h : AWp P 0 code (aend P fn.results.toList fun r' rows' => r' = .ref 0 0 ∧ rows' = [.live row]) (args ++ List.replicate (fn.ntmps - args.length) .junk) []) : NCall P f args row :=
 acalls_body hf hb he h

theorem acallF_new {args2 : List V} {rows : List Row} {k : KV} (hc : NCall P f args2 row) (hp : Pures row) (ha : ∀ x ∈ args2, x.Pure) (hk : k (.ref rows.length 0) (rows ++ [.live row])) : acallF P f args2 rows k := by
 have hb : behind [] rows.length [Row.live row].length = [some rows.length] := by simp [behind]
 refine ⟨[], args2, [], .ref 0 0, [.live row], .ref rows.length 0, rows ++ [.live row], by simp, rowsRen_nil_any, rens_self ha, hc, ⟨by simp, by simp, ?_, ?_⟩, ?_, hk⟩
 ·rw [hb]
  intro j t r1 hj hr1
  match j with
  | 0 =>
   simp at hj hr1
   subst hj; subst hr1
   exact ⟨.live row, by simp, by simp [hp]⟩
  | j + 1 => simp at hj
 ·intro j hj hn
  rw [List.getElem?_append_left hj]
 ·rw [hb]; simp
theorem acall_new {cap args2 : List V} {rows : List Row} {k : KV} (hc : NCall P f (args2 ++ cap) row) (hp : Pures row) (ha : ∀ x ∈ args2 ++ cap, x.Pure) (hk : k (.ref rows.length 0) (rows ++ [.live row])) : acall P false (.fn (.func f) cap) args2 rows k :=
 .inr ⟨rfl, acallF_acallW (acallF_new hc hp ha hk)⟩

end

end Go.VS
set_option linter.all false
namespace Go.VS

def lives (l : List (List V)) : List Row := l.map Row.live
@[simp] theorem lives_nil : lives [] = [] := rfl
@[simp] theorem lives_cons {a : List V} {l : List (List V)} : lives (a :: l) = .live a :: lives l := rfl
@[simp] theorem lives_append {l m : List (List V)} : lives (l ++ m) = lives l ++ lives m := by simp [lives]
@[simp] theorem lives_length {l : List (List V)} : (lives l).length = l.length := by simp [lives]

def setAll : List Row → List Nat → List (List V) → List Row
 | rows, i :: m, c :: cs => setAll (rows.set i (.live c)) m cs
 | rows, _, _ => rows
@[simp] theorem setAll_cons {rows : List Row} {i : Nat} {m : List Nat} {c : List V} {cs : List (List V)} : setAll rows (i :: m) (c :: cs) = setAll (rows.set i (.live c)) m cs := rfl
@[simp] theorem setAll_nil {rows : List Row} {cs : List (List V)} : setAll rows [] cs = rows := by cases cs <;> rfl
theorem setAll_length : ∀ (m : List Nat) (cs : List (List V)) (rows : List Row), (setAll rows m cs).length = rows.length
 | [], _, _ => by simp
 | _ :: _, [], _ => rfl
 | i :: m, c :: cs, rows => by rw [setAll_cons, setAll_length m cs]; simp
theorem setAll_ne : ∀ (m : List Nat) (cs : List (List V)) (rows : List Row) (i : Nat), i ∉ m → (setAll rows m cs)[i]? = rows[i]?
 | [], _, _, _, _ => by simp
 | _ :: _, [], _, _, _ => rfl
 | j :: m, c :: cs, rows, i, h => by
  simp at h
  rw [setAll_cons, setAll_ne m cs _ i h.2, List.getElem?_set_ne (by omega)]
theorem setAll_get : ∀ (m : List Nat) (cs : List (List V)) (rows : List Row) (j i : Nat) (c : List V), m.Nodup → m[j]? = some i → cs[j]? = some c → i < rows.length → (setAll rows m cs)[i]? = some (.live c)
 | [], _, _, j, i, c, _, h, _, _ => by simp at h
 | _ :: _, [], _, j, i, c, _, _, h, _ => by simp at h
 | t :: m, d :: cs, rows, 0, i, c, hn, h1, h2, h3 => by
  simp at h1 h2 hn
  subst h1; subst h2
  rw [setAll_cons, setAll_ne m cs _ _ hn.1]
  simp [h3]
 | t :: m, d :: cs, rows, j + 1, i, c, hn, h1, h2, h3 => by
  simp at hn
  rw [setAll_cons]
  exact setAll_get m cs _ j i c hn.2 (by simpa using h1) (by simpa using h2) (by simpa using h3)

def RowsR (M : List (Option Nat)) : List (List V) → List (List V) → Prop
 | [], [] => True
 | x :: xs, y :: ys => Rens true M x y ∧ RowsR M xs ys
 | _, _ => False
@[simp] theorem rowsR_nil {M : List (Option Nat)} : RowsR M [] [] ↔ True := Iff.rfl
@[simp] theorem rowsR_cons {M : List (Option Nat)} {x y : List V} {xs ys : List (List V)} : RowsR M (x :: xs) (y :: ys) ↔ Rens true M x y ∧ RowsR M xs ys := Iff.rfl
theorem RowsR.get {M : List (Option Nat)} : ∀ {xs ys : List (List V)}, RowsR M xs ys → xs.length = ys.length ∧ ∀ (i : Nat) x y, xs[i]? = some x → ys[i]? = some y → Rens true M x y
 | [], [], _ => ⟨rfl, fun i x y h => by simp at h⟩
 | [], _ :: _, h => h.elim
 | _ :: _, [], h => h.elim
 | x :: xs, y :: ys, h => by
  obtain ⟨h1, h2⟩ := RowsR.get h.2
  refine ⟨by simp [h1], fun i a b ha hb => ?_⟩
  cases i with
  | zero => simp at ha hb; subst ha; subst hb; exact h.1
  | succ i => exact h2 i a b (by simpa using ha) (by simpa using hb)

theorem rens_pures {ex : Bool} {m : List (Option Nat)} {cs : List V} (h : Pures cs) : Rens ex m cs cs ↔ True := iff_true_intro (rens_self h)
theorem rowRen_live {ex : Bool} {m : List (Option Nat)} {a b : List V} : RowRen ex m (.live a) (.live b) ↔ Rens ex m a b := Iff.rfl

def GCall (P : Program) (f : FuncId) (args : List V) (rows rows' : List (List V)) (r : V) : Prop := ACalls P f args (lives rows) fun r' rs => r' = r ∧ rs = lives rows'

section
variable {P : Program} {f : FuncId} {args : List V} {rows rows' : List (List V)} {r : V}

theorem gcall_of (h : ACalls P f args (lives rows) fun r' rs => Le rows.length [r'] rs [r] (lives rows')) : GCall P f args rows rows' r := by
 refine ⟨h.1, fun w ro ρ vs g go ha => (h.2 w ro ρ vs g go ha).mono ?_⟩
 rintro e w' ⟨v, r', rs, ro', ρ', rfl, ⟨m, hr, hm, hn⟩, g', hv⟩
 have hlen : ρ.length = rows.length := by have := g.len; simpa using this
 obtain ⟨f1, f2⟩ := hm.fwd g'
 exact ⟨v, r, _, ro', _, rfl, ⟨rfl, rfl⟩, g'.le hm (fun j hj => hn j (by rw [← hlen]; exact hj)), hv.ren hr.1 f1 f2⟩

theorem gcall_body {fn : Func} {code : Code} (hf : P.funcs[f]? = some fn) (hb : fn.body = some code) (he : Enters P f)
  (h : AWp P rows.length code (aend P fn.results.toList fun r' rs => Le rows.length [r'] rs [r] (lives rows')) (args ++ List.replicate (fn.ntmps - args.length) .junk) (lives rows)) : GCall P f args rows rows' r :=
 gcall_of (acalls_body hf hb he (by rw [lives_length]; exact h))

theorem acallF_gen {args2 : List V} {rowsC : List Row} {k : KV} {news : List (List V)} {rc : V} (m : List Nat) (rowsC' newsC : List (List V)) (hc : GCall P f args rows (rows' ++ news) r) (hnd : m.Nodup)
  (hin : rowsOver (m.map some) rowsC (m.map some) (lives rows)) (ha : Rens false (m.map some) args args2) (hl : rows'.length = m.length) (hl2 : rowsC'.length = m.length)
  (hout : RowsR (behind m rowsC.length (m.length + news.length)) (rows' ++ news) (rowsC' ++ newsC)) (hr : Ren true (behind m rowsC.length (m.length + news.length)) r rc)
  (hk : k rc (setAll rowsC m rowsC' ++ lives newsC)) : acallF P f args2 rowsC k := by
 have hfm : (m.map some).filterMap id = m := by
  induction m with
  | nil => rfl
  | cons a m ih => simp
 obtain ⟨g1, g2, -⟩ := rowsOver_get hin
 obtain ⟨o1, o2⟩ := hout.get
 have hlen : (lives (rows' ++ news)).length = m.length + news.length := by simp [hl]
 have hnl : newsC.length = news.length := by simp [hl, hl2] at o1; omega
 have hlt : ∀ (j i : Nat), m[j]? = some i → i < rowsC.length := by
  intro j i hj
  have hjl : j < m.length := (List.getElem?_eq_some_iff.1 hj).1
  obtain ⟨r0, hr0⟩ := get_iff (l := lives rows) (i := j) (by rw [g1]; simpa using hjl)
  obtain ⟨r2, hr2, -⟩ := g2 j i r0 (by simp [hj]) hr0
  exact (List.getElem?_eq_some_iff.1 hr2).1
 refine ⟨m, args, lives rows, r, lives (rows' ++ news), rc, _, hnd, rowsRen_of (by rw [hfm]; exact hnd) hin, ha, hc, ⟨by rw [hlen]; omega, by rw [hlen]; simp [setAll_length, hnl], ?_, ?_⟩, by rw [hlen]; exact hr, hk⟩
 ·rw [hlen]
  intro j i q hj hq
  obtain ⟨x, hx, rfl⟩ : ∃ x, (rows' ++ news)[j]? = some x ∧ q = .live x := by
   rw [lives, List.getElem?_map] at hq
   cases hz : (rows' ++ news)[j]? with
   | none => rw [hz] at hq; simp at hq
   | some x => rw [hz] at hq; simp at hq; exact ⟨x, rfl, hq.symm⟩
  have hjl := (List.getElem?_eq_some_iff.1 hx).1
  obtain ⟨y, hy⟩ := get_iff (l := rowsC' ++ newsC) (i := j) (by rw [← o1]; exact hjl)
  refine ⟨.live y, ?_, o2 j x y hx hy⟩
  rw [behind_get] at hj
  split at hj
  ·rename_i hjm
   have hmj : m[j]? = some i := by simpa using hj
   rw [List.getElem?_append_left (by rw [setAll_length]; exact hlt j i hmj)]
   rw [List.getElem?_append_left (by omega)] at hy
   exact setAll_get m rowsC' rowsC j i y hnd hmj hy (hlt j i hmj)
  ·split at hj
   ·simp at hj
    subst hj
    rw [List.getElem?_append_right (by rw [setAll_length]; omega), setAll_length]
    rw [List.getElem?_append_right (by omega), hl2] at hy
    rw [lives, List.getElem?_map, show rowsC.length + (j - m.length) - rowsC.length = j - m.length by omega, hy]; rfl
   ·simp at hj
 ·intro i hi hn
  rw [List.getElem?_append_left (by rw [setAll_length]; exact hi), setAll_ne m rowsC' rowsC i hn]

theorem acall_gen {cap args2 : List V} {rowsC : List Row} {k : KV} {news : List (List V)} {rc : V} (m : List Nat) (rowsC' newsC : List (List V)) (hc : GCall P f args rows (rows' ++ news) r) (hnd : m.Nodup)
  (hin : rowsOver (m.map some) rowsC (m.map some) (lives rows)) (ha : Rens false (m.map some) args (args2 ++ cap)) (hl : rows'.length = m.length) (hl2 : rowsC'.length = m.length)
  (hout : RowsR (behind m rowsC.length (m.length + news.length)) (rows' ++ news) (rowsC' ++ newsC)) (hr : Ren true (behind m rowsC.length (m.length + news.length)) r rc)
  (hk : k rc (setAll rowsC m rowsC' ++ lives newsC)) : acall P false (.fn (.func f) cap) args2 rowsC k :=
 .inr ⟨rfl, acallF_acallW (acallF_gen m rowsC' newsC hc hnd hin ha hl hl2 hout hr hk)⟩

end

theorem awp_rows {P : Program} {n0 : Nat} {Q : Exit → KS} {s : List V} {rows rows' : List Row} {code : Code} (e : rows = rows') (h : AWp P n0 code Q s rows') : AWp P n0 code Q s rows := by subst e; exact h
section
variable {P : Program} {t d : Nat}
theorem uslice_of {e : Nat} (h : uslice P t = some e) : P.underlying t = some (.slice e) := by
 unfold uslice at h
 split at h
 ·rename_i e' hu; cases h; exact hu
 ·cases h
theorem aeq_nils {e : Nat} (h : uslice P t = some e) : aeq P (d + 1) t .nils .nils = some true := by simp [aeq, uslice_of h]
theorem aeq_sl_nils {e n : Nat} {c : List V} (h : uslice P t = some e) : aeq P (d + 1) t (.sl (n + 1) c) .nils = some false := by simp [aeq, uslice_of h]
end

end Go.VS

set_option linter.all false
namespace Go.VS
def Y0 := @arun_go0
def Y1 := @arunD_goF
def Y2 := @arunD_goT
def Y3 := @arun_go
def Y4 := @arunD_gF
def Y5 := @arunD_gT
def Y6 := @arun_end
def Y7 := @arunD_end
def Y8 := @awp_seq
def Y9 := @awp_region
def Ya := @awp_block
def Yb := @awp_cond
def Yc := @awp_skip
def Yd := @awp_exit
def Ye := @awp_ret
def Yf := @ret_go
def Yg := @fall_go
def Yh := @arun_no
def Yi := @arunD_nF
def Yj := @arunD_nT
def Yk := @awp_region_draw'
def XL := And.intro (@List.append_nil) (And.intro (@List.cons_append) (And.intro (@List.nil_append) (And.intro (@List.length_cons) (@List.length_nil))))
def X0 := And.intro (@athen_normal) (And.intro (@athen_exit) (And.intro (@athen_ret) (And.intro (@ablock_self) (And.intro (@ablock_ne) (And.intro (@ablock_normal) (@ablock_ret))))))
def X7 := And.intro (@wrap_i64) (And.intro (@wrap_u8) (And.intro (@wrap_u32) (And.intro (@wrap_u64) (And.intro (@Int.tmod_eq_emod_of_nonneg) (@Int.tdiv_eq_ediv_of_nonneg)))))
def zJ : Nat → List V | 0 => [] | n + 1 => .junk :: zJ n
def zN : Nat → List (Option V) → List (Option V) | 0, l => l | n + 1, l => none :: zN n l
def zS : Nat → List (Option V) → List (Option V) | 0, l => l | n + 1, l => some .junk :: zS n l
theorem Ys {P : Program} {ops : Array Oper} {K : KS} {os : List Oper} {s s' : List V} {rows : List Row} (h : arun P ops os s' rows K) (e : s = s' := by first | (dsimp only [sput, sset]; done) | rfl) : arun P ops os s rows K := arun_slots e h
theorem Yt {P : Program} {ops : Array Oper} {F : List (Nat × Nat × V)} {K : KS} {os : List Oper} {ms ms' : List Nat} {id : Nat} {s s' : List V} {rows : List Row} (h : arunD P ops F ms' os id s' rows K) (e : s = s' := by first | (dsimp only [sput, sset]; done) | rfl) (em : ms = ms' := by first | (dsimp only [List.tail]; done) | rfl) : arunD P ops F ms os id s rows K := arunD_slots' e em h
theorem Yr {n0 : Nat} {s s' : List V} {rows rows' : List Row} (m : List (Option Nat)) (hr : rowsOver m rows m rows') (h : Rens false m s' s := by first | (simp; done) | (dsimp only [ups, zN, zS]; simp; done) | (dsimp only [ups, zN, zS]; simp; omega)) (hm : (m.filterMap id).Nodup := by simp) (hn : ∀ j, j < n0 → m[j]? = some (some j) := by simp) : Le n0 s rows s' rows' := Le.mk m h (rowsRen_of hm hr) hn
theorem dd {p : Prop} (h : p := by first | (simp; done) | omega | (simp; omega)) : p := h
theorem de {p : Prop} (h : p := by first | omega | (simp; omega)) : p := h
theorem dc {p : Prop} (h : p := by first | contradiction | (exfalso; omega)) : p := h
theorem Ap {P : Program} {draw : Bool} {f : FuncId} {cap args : List V} {r : V} {rows : List Row} {k : KV} (h : PCall P f (args ++ cap) r) (hk : k r rows) (hp : ∀ x ∈ args ++ cap, x.Pure := by simp) : acall P draw (.fn (.func f) cap) args rows k := acall_pure h hp hk
theorem Yz {a b : Prop} (hb : b) (ha : a := by first | omega | (simp; first | done | omega) | assumption | (intro e9; have e8 := congrArg List.length e9; first | (simp at e8; done) | ((try simp only [List.length_map, List.length_append] at e8); rw [List.length_nil] at e8; omega))) : a ∧ b := ⟨ha, hb⟩
structure Wq (q : Prop) : Prop where h : q
theorem Zt {p q : Prop} (h : q) (t : Wq q → p := by intro h; first | exact Y6 h.1 | exact Y7 h.1 | exact Y9 h.1 | exact Ya h.1 | exact Yc h.1 | exact Ye (Yf h.1) | (refine Yd ?_; simp only [X0, Nat.reduceBEq]; exact h.1) | fail) : p := t ⟨h⟩
theorem Zu {p q : Prop} (h : q) (t : Wq q → p := by intro h; first | exact Y0 rfl h.1 | exact Y1 rfl rfl h.1 | exact Y2 rfl rfl h.1 | fail) : p := t ⟨h⟩
theorem Zv {p r q : Prop} (hr : r) (h : q) (t : Wq r → Wq q → p := by intro a b; first | exact Y3 a.1 b.1 | exact Y4 rfl a.1 b.1 | exact Y5 rfl a.1 b.1 | fail) : p := t ⟨hr⟩ ⟨h⟩
theorem Zn {p r q : Prop} (hr : r) (h : q) (t : Wq r → Wq q → p := by intro a b; first | exact Yh a.1 b.1 | exact Yi rfl a.1 b.1 | exact Yj rfl a.1 b.1 | fail) : p := t ⟨hr⟩ ⟨h⟩
theorem Zs {p q : Prop} (h : q) (t : Wq q → p := by intro h; first | exact Ys h.1 | exact Yt h.1 | fail) : p := t ⟨h⟩
theorem Zf {p r q : Prop} (hr : r) (h : q) (t : Wq r → Wq q → p := by intro a b; (repeat (refine Yz ?_)); first | exact a.1 _ _ (Ys b.1) | exact a.1 _ _ (Yt b.1) | fail) : p := t ⟨hr⟩ ⟨h⟩
theorem Zm {p q : Prop} (h : q) (t : Wq q → p := by intro h; (try simp (disch := first | exact de | fail) only [X7]); first | exact h.1 | fail) : p := t ⟨h⟩
theorem Zd {p q : Prop} (h : q) (t : Wq q → p := by intro h; simp (disch := first | exact dd | fail); (try simp (disch := first | exact de | fail) only [X7]); first | exact h.1 | fail) : p := t ⟨h⟩
theorem Zq {p q : Prop} (h : q) (t : Wq q → p := by intro h; refine Zu ?_; intro K9 h9; refine Zd ?_; refine Zf h9 ?_; first | exact h.1 | fail) : p := t ⟨h⟩
theorem Zr {p q : Prop} (h : q) (t : Wq q → p := by intro h; (first | refine Zu ?_ | (refine Zv ?_ ?_; (focus (simp; done)))); intro K9 h9; refine Zd ?_; refine Zf h9 ?_; first | exact h.1 | fail) : p := t ⟨h⟩
theorem Zo {p q : Prop} (h : q) (t : Wq q → p := by intro h; refine Zn ?_ ?_; (focus (simp; done)); refine Zs ?_; first | exact h.1 | fail) : p := t ⟨h⟩
theorem Zx {p q : Prop} (h : q) (t : Wq q → p := by intro h; first | exact Yg h.1 | (simp only [X0, Nat.reduceBEq]; exact h.1) | fail) : p := t ⟨h⟩
theorem Zl {p q : Prop} (h : q) (t : Wq q → p := by intro h; simp only [List.replicate, XL]; first | exact h.1 | fail) : p := t ⟨h⟩
theorem Zc {p r q : Prop} (hr : r) (h : q) (t : Wq r → Wq q → p := by intro a b; first | exact Ap a.1 b.1 | exact ⟨_, a.1, b.1⟩ | fail) : p := t ⟨hr⟩ ⟨h⟩
theorem Zk {P : Program} {n0 : Nat} {Q : Exit → KS} {s : List V} {rows : List Row} {id : Nat} {ops : Array Oper} (m : Nat) (ms : List Nat) (h : arunD P ops [] ms ops.toList rows.length s (rows ++ List.replicate m .resv) (Q .normal)) (hn : opsNew ops = m := by decide +kernel) (hm : P.follows .mixedOrders = true := by kernel_rfl) (hi : indep (markAt ms) ops = true := by decide +kernel) : AWp P n0 (.region id ops true) Q s rows := awp_region_draw' hn ms hm hi h
end Go.VS
