/-
  VALUE SEMANTICS, 22: what a law is handed reads as abstract values of its type's shape.
  Conditions: none; over any program.
-/
import Derived.Test.YtllehihgfbkgpaaVs21
import Derived.ProofKit
import Derived.OpenShut
import Derived.SizedLaws
set_option linter.unusedSimpArgs false
set_option linter.unusedVariables false
namespace Go.VS

/-- The fields' cells, one field behind the other: where the last ends. -/
def contigL (P : Program) : List Field → Nat → Option Nat
  | [], o => some o
  | g :: gs, o => if g.offset = o then contigL P gs (o + P.cellsOf g.type) else none

/-- Types of plain data. -/
def plain (P : Program) : Nat → TypeId → Bool
  | 0, _ => false
  | f + 1, t => match P.underlying t with
    | some .bool => true
    | some (.int _) => true
    | some .string => true
    | some (.slice e) => decide (0 < P.cellsOf e) && decide (0 < P.bytesOf e) && plain P f e
    | some (.struct fs) => decide (contigL P fs.toList 0 = some (P.cellsOf t)) && fs.toList.all fun g => plain P f g.type
    | some (.array n e) => decide (P.cellsOf t = n * P.cellsOf e) && plain P f e
    | _ => false

/-- The shape of a type's cells. -/
def Fits (P : Program) : Nat → TypeId → List V → Prop
  | 0, _, _ => False
  | f + 1, t, xs => match P.underlying t with
    | some .bool => ∃ b, xs = [.bool b]
    | some (.int k) => ∃ n, (k.min ≤ n ∧ n ≤ k.max) ∧ xs = [.int k n]
    | some .string => ∃ s : List UInt8, s.length ≤ reachBytes ∧ xs = [.str s]
    | some (.slice e) => ∃ yss : List (List V), yss.length ≤ reachBytes ∧ yss.length * P.bytesOf e ≤ reachBytes ∧ (∀ ys ∈ yss, Fits P f e ys) ∧ xs = [.sl yss.length yss.flatten]
    | some (.struct fs) => ∃ yss : List (List V), yss.length = fs.size ∧ (∀ (i : Nat) ys g, yss[i]? = some ys → fs[i]? = some g → Fits P f g.type ys) ∧ xs = yss.flatten
    | some (.array n e) => ∃ yss : List (List V), yss.length = n ∧ (∀ ys ∈ yss, Fits P f e ys) ∧ xs = yss.flatten
    | _ => False

theorem mapM_some {α β : Type} {f : α → Option β} : ∀ {l : List α} {ys : List β}, l.mapM f = some ys → ys.length = l.length ∧ ∀ (i : Nat) x, l[i]? = some x → ∃ y, ys[i]? = some y ∧ f x = some y
  | [], ys, h => by simp at h; subst h; simp
  | a :: l, ys, h => by
    rw [List.mapM_cons] at h
    cases ha : f a with
    | none => simp [ha] at h
    | some b =>
      cases hl : l.mapM f with
      | none => simp [ha, hl] at h
      | some bs =>
        simp [ha, hl] at h
        subst h
        obtain ⟨h1, h2⟩ := mapM_some hl
        refine ⟨by simp [h1], fun i x hx => ?_⟩
        cases i with
        | zero => simp at hx; subst hx; exact ⟨b, rfl, ha⟩
        | succ i => simpa using h2 i x (by simpa using hx)

section
variable {w : World} {ro : Nat → Prop} {ρ : Rho}

theorem rds_one {u : Value} {x : V} (h : Rd w ro ρ u x) : Rds w ro ρ [u] [x] :=
  ⟨rfl, fun i a b ha hb => by
    cases i with
    | zero => simp at ha hb; subst ha; subst hb; exact h
    | succ i => simp at ha⟩

theorem rds_flatten : ∀ {uss : List (List Value)} {yss : List (List V)}, uss.length = yss.length → (∀ (i : Nat) us ys, uss[i]? = some us → yss[i]? = some ys → Rds w ro ρ us ys) → Rds w ro ρ uss.flatten yss.flatten
  | [], [], _, _ => ⟨rfl, fun i u x h => by simp at h⟩
  | [], _ :: _, h, _ => by simp at h
  | _ :: _, [], h, _ => by simp at h
  | us :: uss, ys :: yss, h, hr => by
    rw [List.flatten_cons, List.flatten_cons]
    exact (hr 0 us ys rfl rfl).append (rds_flatten (by simpa using h) fun i a b ha hb => hr (i + 1) a b (by simpa using ha) (by simpa using hb))

/-- Choice, place by place. -/
theorem choose_list {α β : Type} {R : α → β → Prop} : ∀ {l : List α}, (∀ x ∈ l, ∃ y, R x y) → ∃ m : List β, m.length = l.length ∧ ∀ (i : Nat) x y, l[i]? = some x → m[i]? = some y → R x y
  | [], _ => ⟨[], rfl, fun i x y h => by simp at h⟩
  | a :: l, h => by
    obtain ⟨b, hb⟩ := h a (by simp)
    obtain ⟨m, h1, h2⟩ := choose_list (l := l) fun x hx => h x (by simp [hx])
    refine ⟨b :: m, by simp [h1], fun i x y hx hy => ?_⟩
    cases i with
    | zero => simp at hx hy; subst hx; subst hy; exact hb
    | succ i => exact h2 i x y (by simpa using hx) (by simpa using hy)

theorem chunks_flatten {α : Type} {l : List α} (c : Nat) : ∀ (n : Nat), l.length = n * c → ((List.range n).map fun i => (l.drop (i * c)).take c).flatten = l := by
  intro n
  induction n generalizing l with
  | zero => intro h; simp at h; subst h; rfl
  | succ n ih =>
    intro h
    rw [List.range_succ_eq_map, List.map_cons, List.flatten_cons, List.map_map]
    have := ih (l := l.drop c) (by rw [List.length_drop, h, Nat.succ_mul]; omega)
    simp only [List.drop_drop] at this
    have e : (fun i => (l.drop (i * c)).take c) ∘ Nat.succ = fun i => (l.drop (c + i * c)).take c := by
      funext i
      simp only [Function.comp, Nat.succ_mul, Nat.add_comm]
    rw [e, this]
    simp


theorem flatten_idx {α : Type} {c : Nat} : ∀ {l : List (List α)}, (∀ x ∈ l, x.length = c) → ∀ {i : Nat} {u : α}, l.flatten[i]? = some u → ∃ q r us, i = q * c + r ∧ r < c ∧ l[q]? = some us ∧ us[r]? = some u
  | [], _, i, u, h => by simp at h
  | a :: l, hl, i, u, h => by
    rw [List.flatten_cons, List.getElem?_append] at h
    have ha : a.length = c := hl a (by simp)
    split at h
    · exact ⟨0, i, a, by simp, by omega, rfl, h⟩
    · obtain ⟨q, r, us, h1, h2, h3, h4⟩ := flatten_idx (l := l) (fun x hx => hl x (by simp [hx])) h
      exact ⟨q + 1, r, us, by rw [Nat.succ_mul]; omega, h2, by simpa using h3, h4⟩

theorem contigL_flatten {P : Program} {cs : List Value} : ∀ {fs : List Field} {o e : Nat}, contigL P fs o = some e → o ≤ e ∧ (fs.map fun g => (cs.drop g.offset).take (P.cellsOf g.type)).flatten = (cs.drop o).take (e - o)
  | [], o, e, h => by simp [contigL] at h; subst h; simp
  | g :: gs, o, e, h => by
    simp only [contigL] at h
    split at h
    · rename_i hg
      obtain ⟨h1, h2⟩ := contigL_flatten (cs := cs) h
      refine ⟨by omega, ?_⟩
      rw [List.map_cons, List.flatten_cons, h2, hg, ← List.drop_drop, ← List.take_add]
      congr 1
      omega
    · simp at h

theorem weights_mem_all {H : Type} {P : Program} {e : TypeId} : ∀ {ds : List (DataW H)} {d : DataW H}, d ∈ ds → ∀ n ∈ d.weights P e, n ∈ DataW.weightsAll P e ds
  | a :: l, d, hd, n, hn => by
    simp only [DataW.weightsAll, List.mem_append]
    rcases List.mem_cons.1 hd with rfl | h
    · exact .inl hn
    · exact .inr (weights_mem_all h n hn)

theorem lit_wf_int {k : IntKind} {n : Int} (h : (Lit.int k n).wf = true) : k.min ≤ n ∧ n ≤ k.max := by
  simpa [Lit.wf] using h

theorem cell_spot {w : World} {a : Addr} {u : Value} (h : w.cell? a = some u) : a.spot = none ∧ a.block < w.heap.size := by
  unfold World.cell? at h
  split at h
  · rename_i c e fr hb
    split at h
    · simp at h
    · rename_i hs
      refine ⟨?_, (Array.getElem?_eq_some_iff.1 hb).1⟩
      cases hsp : a.spot with
      | none => rfl
      | some x => simp [hsp] at hs
  · simp at h

theorem addr_add {a : Addr} (h : a.spot = none) (n : Nat) : a.add n = ⟨a.block, a.off + n, none⟩ := by
  unfold Addr.add
  split
  · rename_i h0; subst h0; cases a; simp at h; subst h; rfl
  · rfl

theorem trod_fits {H : Type} {enc : TypeId × Value → H} {P : Program} {w : World} {base : Nat} {sp : Nat → Bool} {held : Bool} : ∀ (f : Nat) {fuel : Nat} {t : TypeId} {cs : List Value} {x : DataW H × List MemPlace}, plain P f t = true →
    DataW.trod enc P w base sp held fuel t cs = some x → (∀ n ∈ x.1.weights P t, n ≤ reachBytes) → ∃ xs, Rds w (fun b => b < w.heap.size) [] cs xs ∧ Fits P f t xs
  | 0, fuel, t, cs, x, hp, h, hw => by simp [plain] at hp
  | f + 1, fuel, t, cs, x, hp, h, hw => by
    simp only [plain] at hp
    split at hp
    · rename_i ht
      obtain ⟨b, rfl, rfl⟩ := DataW.trod_bool ht h
      exact ⟨[.bool b], rds_one .bool, by simp only [Fits, ht]; exact ⟨b, rfl⟩⟩
    · rename_i k ht
      obtain ⟨n, rfl, rfl, hn⟩ := DataW.trod_int ht h
      exact ⟨[.int k n], rds_one .int, by simp only [Fits, ht]; exact ⟨n, lit_wf_int hn, rfl⟩⟩
    · rename_i ht
      obtain ⟨s, rfl, rfl, hs⟩ := DataW.trod_string ht h
      refine ⟨[.str s.data.toList], rds_one ?_, by simp only [Fits, ht]; exact ⟨_, hw _ (by simp [DataW.weights]), rfl⟩⟩
      exact Rd.str (s := s.data.toList)
    · rename_i e ht
      simp only [Bool.and_eq_true, decide_eq_true_eq] at hp
      obtain ⟨⟨hc, hby⟩, hpe⟩ := hp
      rcases DataW.trod_slice ht h with ⟨rfl, rfl⟩ | ⟨a, len, cap, elems, rest, n, rfl, rfl, rfl, hb, hl, hm, hlen, hel, -, -⟩
      · exact ⟨[.sl 0 []], rds_one .sl0, by simp only [Fits, ht]; exact ⟨[], by simp, by simp, by simp, rfl⟩⟩
      · simp only [DataW.weights, ht, List.mem_cons, List.mem_append] at hw
        have hsum := hw _ (.inl rfl)
        simp only [List.length_map] at hsum
        have hlen2 : len * P.bytesOf e ≤ reachBytes := Nat.le_trans (Nat.mul_le_mul_right _ (by omega)) hsum
        have hlen1 : len ≤ reachBytes := Nat.le_trans (Nat.le_mul_of_pos_right _ hby) hlen2
        by_cases h0 : len = 0
        · subst h0
          exact ⟨[.sl 0 []], rds_one .slz, by simp only [Fits, ht]; exact ⟨[], by simp, by simp, by simp, rfl⟩⟩
        · have each : ∀ i ∈ List.range len, ∃ p : List Value × List V, w.cells? base (a.add (i * P.cellsOf e)) (P.cellsOf e) = some p.1 ∧ Rds w (fun b => b < w.heap.size) [] p.1 p.2 ∧ Fits P f e p.2 := by
            intro i hi
            have hi := List.mem_range.1 hi
            have hb := hel i hi
            have hy : elems[i]? = some (elems[i]'(by omega)) := List.getElem?_eq_getElem (by omega)
            rw [hy] at hb
            obtain ⟨cs', h1, h2⟩ := Option.bind_eq_some_iff.1 hb
            obtain ⟨xs, h3, h4⟩ := trod_fits f hpe h2 fun m hm => hw _ (.inr (.inl (weights_mem_all (List.mem_map.2 ⟨_, List.getElem_mem _, rfl⟩) m hm)))
            exact ⟨(cs', xs), h1, h3, h4⟩
          obtain ⟨m, hml, hm2⟩ := choose_list each
          simp only [List.length_range] at hml
          have hat : ∀ i p, m[i]? = some p → w.cells? base (a.add (i * P.cellsOf e)) (P.cellsOf e) = some p.1 ∧ Rds w (fun b => b < w.heap.size) [] p.1 p.2 ∧ Fits P f e p.2 := by
            intro i p hi
            have hlt := (List.getElem?_eq_some_iff.1 hi).1
            exact hm2 i i p (by rw [List.getElem?_range (by omega)]) hi
          have hspot : a.spot = none ∧ a.block < w.heap.size := by
            obtain ⟨p, hp⟩ := get_iff (l := m) (i := 0) (by omega)
            obtain ⟨-, hpl, hpc⟩ := World.cells?_some (hat 0 p hp).1
            have := hpc 0 hc
            obtain ⟨u, hu⟩ := get_iff (l := p.1) (i := 0) (by omega)
            rw [hu] at this
            have := cell_spot this
            simpa [Addr.add] using this
          refine ⟨[.sl len (m.map (·.2)).flatten], rds_one (Rd.sl (us := (m.map (·.1)).flatten) hspot.1 hspot.2 hl ?_ ?_ ?_), ?_⟩
          · refine (rds_flatten (w := w) (ro := fun b => b < w.heap.size) (ρ := []) (uss := m.map (·.1)) (yss := m.map (·.2)) (by simp) ?_).1
            intro i us ys hu hy
            simp only [List.getElem?_map, Option.map_eq_some_iff] at hu hy
            obtain ⟨p, hp, rfl⟩ := hu
            obtain ⟨p', hp', rfl⟩ := hy
            rw [hp] at hp'; cases hp'
            exact (hat i p hp).2.1
          · intro i u hu
            obtain ⟨q, r, us, rfl, hr, hq, hur⟩ := flatten_idx (c := P.cellsOf e) (l := m.map (·.1)) (by
              intro us hus
              obtain ⟨p, hp, rfl⟩ := List.mem_map.1 hus
              obtain ⟨i, hi⟩ := List.mem_iff_getElem?.1 hp
              exact (World.cells?_some (hat i p hi).1).2.1) hu
            simp only [List.getElem?_map, Option.map_eq_some_iff] at hq
            obtain ⟨p, hp, rfl⟩ := hq
            have := (World.cells?_some (hat q p hp).1).2.2 r hr
            rw [hur, addr_add hspot.1, addr_add rfl] at this
            rw [← this]
            simp [Nat.add_assoc]
          · refine (rds_flatten (w := w) (ro := fun b => b < w.heap.size) (ρ := []) (uss := m.map (·.1)) (yss := m.map (·.2)) (by simp) ?_).2
            intro i us ys hu hy
            simp only [List.getElem?_map, Option.map_eq_some_iff] at hu hy
            obtain ⟨p, hp, rfl⟩ := hu
            obtain ⟨p', hp', rfl⟩ := hy
            rw [hp] at hp'; cases hp'
            exact (hat i p hp).2.1
          · simp only [Fits, ht]
            refine ⟨m.map (·.2), by simp; omega, by simp [hml]; exact hlen2, ?_, by simp [hml]⟩
            intro ys hys
            obtain ⟨p, hp, rfl⟩ := List.mem_map.1 hys
            obtain ⟨i, hi⟩ := List.mem_iff_getElem?.1 hp
            exact (hat i p hi).2.2
    · rename_i fs ht
      simp only [Bool.and_eq_true, decide_eq_true_eq, List.all_eq_true] at hp
      obtain ⟨hc, hpf⟩ := hp
      obtain ⟨ys, n, rfl, rfl, hcl, hyl, hel⟩ := DataW.trod_struct ht h
      simp only [DataW.weights, ht] at hw
      have each : ∀ i ∈ List.range fs.size, ∃ xs : List V, ∀ g, fs[i]? = some g → Rds w (fun b => b < w.heap.size) [] ((cs.drop g.offset).take (P.cellsOf g.type)) xs ∧ Fits P f g.type xs := by
        intro i hi
        have hi := List.mem_range.1 hi
        have hg : fs[i]? = some fs[i] := Array.getElem?_eq_getElem hi
        have hb := hel i _ hg
        have hy : ys[i]? = some (ys[i]'(by omega)) := List.getElem?_eq_getElem (by omega)
        rw [hy] at hb
        obtain ⟨xs, h3, h4⟩ := trod_fits f (hpf fs[i] (by simp)) hb fun m hm => hw _ (DataW.weights_mem_each (j := i) (by simp [hi]) (by simp [hy]) m hm)
        refine ⟨xs, fun g hg' => ?_⟩
        rw [hg] at hg'; cases hg'
        exact ⟨h3, h4⟩
      obtain ⟨m, hml, hm2⟩ := choose_list each
      simp only [List.length_range] at hml
      have hat : ∀ (i : Nat) xs g, m[i]? = some xs → fs[i]? = some g → Rds w (fun b => b < w.heap.size) [] ((cs.drop g.offset).take (P.cellsOf g.type)) xs ∧ Fits P f g.type xs := by
        intro i xs g hi hg
        have hlt := (List.getElem?_eq_some_iff.1 hi).1
        exact hm2 i i xs (by rw [List.getElem?_range (by omega)]) hi g hg
      refine ⟨m.flatten, ?_, by simp only [Fits, ht]; exact ⟨m, hml, fun i ys g h1 h2 => (hat i ys g h1 h2).2, rfl⟩⟩
      have hfl := (contigL_flatten (cs := cs) hc).2
      rw [List.drop_zero, Nat.sub_zero, List.take_of_length_le (by omega)] at hfl
      rw [← hfl]
      refine rds_flatten (by simp [hml]) fun i us xs hu hx => ?_
      simp only [List.getElem?_map, Option.map_eq_some_iff, Array.getElem?_toList] at hu
      obtain ⟨g, hg, rfl⟩ := hu
      exact (hat i xs g hx hg).1
    · rename_i n e ht
      simp only [Bool.and_eq_true, decide_eq_true_eq] at hp
      obtain ⟨hc, hpe⟩ := hp
      obtain ⟨ys, k, rfl, rfl, hcl, hyl, hel⟩ := DataW.trod_array ht h
      simp only [DataW.weights, ht] at hw
      have each : ∀ i ∈ List.range n, ∃ xs : List V, Rds w (fun b => b < w.heap.size) [] ((cs.drop (i * P.cellsOf e)).take (P.cellsOf e)) xs ∧ Fits P f e xs := by
        intro i hi
        have hi := List.mem_range.1 hi
        have hb := hel i hi
        have hy : ys[i]? = some (ys[i]'(by omega)) := List.getElem?_eq_getElem (by omega)
        rw [hy] at hb
        exact trod_fits f hpe hb fun m hm => hw _ (weights_mem_all (List.mem_map.2 ⟨_, List.getElem_mem _, rfl⟩) m hm)
      obtain ⟨m, hml, hm2⟩ := choose_list each
      simp only [List.length_range] at hml
      have hat : ∀ (i : Nat) xs, m[i]? = some xs → Rds w (fun b => b < w.heap.size) [] ((cs.drop (i * P.cellsOf e)).take (P.cellsOf e)) xs ∧ Fits P f e xs := by
        intro i xs hi
        have hlt := (List.getElem?_eq_some_iff.1 hi).1
        exact hm2 i i xs (by rw [List.getElem?_range (by omega)]) hi
      refine ⟨m.flatten, ?_, ?_⟩
      · rw [← chunks_flatten (l := cs) (P.cellsOf e) n (by omega)]
        refine rds_flatten (by simp [hml]) fun i us xs hu hx => ?_
        simp only [List.getElem?_map, Option.map_eq_some_iff] at hu
        obtain ⟨j, hj, rfl⟩ := hu
        have hlt := (List.getElem?_eq_some_iff.1 hx).1
        rw [List.getElem?_range (by omega)] at hj
        cases hj
        exact (hat i xs hx).1
      · simp only [Fits, ht]
        refine ⟨m, hml, fun ys hys => ?_, rfl⟩
        obtain ⟨i, hi⟩ := List.mem_iff_getElem?.1 hys
        exact (hat i ys hi).2
    · simp at hp

end

end Go.VS
