/-
  VALUE SEMANTICS, 8: slice expressions, conversions, append, copy, min and max.
  Conditions: none; over any program.
-/
import Derived.Test.YtllehihgfbkgpaaVs7
set_option linter.unusedSimpArgs false
set_option linter.unusedVariables false
namespace Go.VS

def ORd (w : World) (ro : Nat → Prop) (ρ : Rho) : Option Value → Option V → Prop
  | none, none => True
  | some u, some x => Rd w ro ρ u x
  | _, _ => False

section
variable {P : Program} {c : Ctx} {rows : List Row} {w : World} {ro : Nat → Prop} {ρ : Rho} {k : KV}

theorem run_sliceBounds {lo hi : Option V} {ul uh : Option Value} {isS : Bool} {len cap : Nat} {K : Nat → Nat → Prop} (hl : ORd w ro ρ ul lo) (hh : ORd w ro ρ uh hi) (hc : len ≤ cap)
    (h : abound hi len fun h => abound lo 0 fun l => l ≤ h ∧ h ≤ len ∧ K l h) : ∃ l h, (Instr.sliceBounds isS len cap ul uh none).run P w = .ok (l, h, cap) w ∧ l ≤ h ∧ h ≤ len ∧ K l h := by
  have inner : ∀ q, abound lo 0 (fun l => l ≤ q ∧ q ≤ len ∧ K l q) → ∃ l, (∀ code, (match ul with | some v => Instr.sliceBound v q code | none => (pure 0 : Sem Nat)).run P w = .ok l w) ∧ l ≤ q ∧ q ≤ len ∧ K l q := by
    intro q hb
    cases lo with
    | none =>
      cases ul with
      | none => exact ⟨0, fun _ => rfl, hb⟩
      | some u => exact False.elim hl
    | some x =>
      cases ul with
      | none => exact False.elim hl
      | some u =>
        cases x with
        | int kd n =>
          obtain rfl := rd_int (show Rd w ro ρ u _ from hl)
          obtain ⟨h0, h1, h2⟩ := hb
          refine ⟨n.toNat, fun code => ?_, h1, h2⟩
          have : n ≤ q := by omega
          simp [Instr.sliceBound, asIntOf, h0, this]
        | _ => exact False.elim hb
  cases hi with
  | none =>
    cases uh with
    | none =>
      obtain ⟨l, r1, r2, r3, r4⟩ := inner len h
      refine ⟨l, len, ?_, r2, r3, r4⟩
      have := r1 .sliceB
      cases ul with
      | none => simp at this; subst this; simp [Instr.sliceBounds]
      | some u => simp only at this; simp [Instr.sliceBounds, this]
    | some u => exact False.elim hh
  | some x =>
    cases uh with
    | none => exact False.elim hh
    | some u =>
      cases x with
      | int kd n =>
        obtain rfl := rd_int (show Rd w ro ρ u _ from hh)
        obtain ⟨h0, h1⟩ := h
        obtain ⟨l, r1, r2, r3, r4⟩ := inner n.toNat h1
        refine ⟨l, n.toNat, ?_, r2, r3, r4⟩
        have hcap : n ≤ cap := by omega
        have hq : ∀ code, (Instr.sliceBound (.int kd n) cap code).run P w = .ok n.toNat w := fun code => by simp [Instr.sliceBound, asIntOf, h0, hcap]
        have := r1 .sliceB
        cases ul with
        | none => simp at this; subst this; cases isS <;> simp [Instr.sliceBounds, hq]
        | some u => simp only at this; cases isS <;> simp [Instr.sliceBounds, hq, this]
      | _ => exact False.elim h

theorem runs_aslice {t : TypeId} {x : V} {u : Value} {lo hi mx : Option V} {ul uh um : Option Value} (g : Good c rows w ro ρ) (hx : Rd w ro ρ u x) (hl : ORd w ro ρ ul lo) (hh : ORd w ro ρ uh hi) (hm : ORd w ro ρ um mx)
    (h : aslice P t x lo hi mx rows k) : Runs P (Instr.sliceAt t u ul uh um) c k w ro ρ := by
  obtain ⟨rfl, h⟩ := h
  cases um with
  | some u => exact False.elim hm
  | none =>
  cases x with
  | str s =>
    obtain ⟨hu, h⟩ := h
    obtain rfl := rd_str hx
    obtain ⟨l, e, r1, r2, r3, hk⟩ := run_sliceBounds (P := P) (isS := false) (cap := s.length) hl hh (Nat.le_refl _) h
    have hex : (⟨s.toArray⟩ : ByteArray).extract l e = ⟨((s.drop l).take (e - l)).toArray⟩ := by
      apply ByteArray.ext
      rw [ByteArray.data_extract]
      apply Array.ext'
      simp [List.take_drop]
    exact .same (v := .string ⟨((s.drop l).take (e - l)).toArray⟩) g (by simp [Instr.sliceAt, Instr.slice, run_underlying (ustr_under hu), str_size, r1, hex]) .str hk
  | nils =>
    obtain ⟨⟨e, hu, hs⟩, h⟩ := h
    obtain ⟨sz, hs⟩ := Option.isSome_iff_exists.1 hs
    obtain rfl := rd_nils hx
    obtain ⟨l, e, r1, r2, r3, hk⟩ := run_sliceBounds (P := P) (isS := true) (cap := 0) hl hh (Nat.le_refl _) h
    obtain rfl : e = 0 := by omega
    obtain rfl : l = 0 := by omega
    exact .same g (by simp [Instr.sliceAt, Instr.slice, run_underlying (uslice_under hu), r1, run_size hs]) .nils hk
  | sl n cs =>
    obtain ⟨e, sz, hu, hs, h⟩ := h
    rcases rd_sl hx with ⟨rfl, rfl, rfl⟩ | ⟨b, o, cap, rfl, hro, hcap, hat⟩ | ⟨a, cap, rfl, rfl, rfl⟩
    rotate_left 2
    · obtain ⟨l, e, r1, r2, r3, hk⟩ := run_sliceBounds (P := P) (isS := true) (cap := cap) hl hh (Nat.zero_le _) h
      obtain rfl : e = 0 := by omega
      obtain rfl : l = 0 := by omega
      by_cases hc : cap = 0
      · subst hc
        exact .same g (by simp [Instr.sliceAt, Instr.slice, run_underlying (uslice_under hu), r1, run_size hs]; exact ⟨rfl, rfl⟩) .slz (by simpa using hk)
      · exact .same g (by simp [Instr.sliceAt, Instr.slice, run_underlying (uslice_under hu), r1, run_size hs, hc]; exact ⟨rfl, rfl⟩) .slz (by simpa using hk)
    · obtain ⟨l, e, r1, r2, r3, hk⟩ := run_sliceBounds (P := P) (isS := true) (cap := 0) hl hh (Nat.le_refl _) h
      obtain rfl : e = 0 := by omega
      obtain rfl : l = 0 := by omega
      exact .same g (by simp [Instr.sliceAt, Instr.slice, run_underlying (uslice_under hu), r1, run_size hs]) .sl0 (by simpa using hk)
    · obtain ⟨l, e, r1, r2, r3, hk⟩ := run_sliceBounds (P := P) (isS := true) (cap := cap) hl hh hcap h
      by_cases hcl : cap = l
      · subst hcl
        have he : e = cap := by omega
        subst he
        refine .same (v := .slice (some ⟨b, o, none⟩) 0 0) g (by simp [Instr.sliceAt, Instr.slice, run_underlying (uslice_under hu), r1, run_size hs]) ?_ hk
        simp
        exact CellsAt.sl (fun i v hv => by simp at hv) hro (Nat.le_refl _)
      · refine .same (v := .slice (some ⟨b, o + l * sz, none⟩) (e - l) (cap - l)) g (by simp [Instr.sliceAt, Instr.slice, run_underlying (uslice_under hu), r1, run_size hs, hcl, add_eq]) ?_ hk
        exact ((hat.drop _).take _).sl hro (by omega)
  | osl id off n sz =>
    obtain ⟨e, hu, hs, h⟩ := h
    cases hx with
    | osl0 q1 q2 q3 =>
      obtain ⟨l, e, r1, r2, r3, hk⟩ := run_sliceBounds (P := P) (isS := true) (cap := 0) hl hh (Nat.le_refl _) h
      obtain rfl : e = 0 := by omega
      obtain rfl : l = 0 := by omega
      exact .same g (by simp [Instr.sliceAt, Instr.slice, run_underlying (uslice_under hu), r1, run_size hs]) (.osl0 q1 q2 q3) (by simpa using hk)
    | @osl _ _ _ _ _ a cap y q1 q2 q3 qle q4 =>
      obtain ⟨l, e, r1, r2, r3, hk⟩ := run_sliceBounds (P := P) (isS := true) (cap := cap) hl hh qle h
      refine .same (v := .slice (some (if cap = l then a else a.add (l * sz))) (e - l) (cap - l)) g (by simp [Instr.sliceAt, Instr.slice, run_underlying (uslice_under hu), r1, run_size hs]; split <;> rfl) ?_ hk
      refine .osl q1 q2 q3 (by omega) fun x hx => ?_
      obtain ⟨e1, e2, e3, e4, e5⟩ := q4 x hx
      obtain ⟨b, o, s⟩ := a
      simp at e1 e2 e3 e5
      subst e1; subst e2
      have hmul : cap * sz = l * sz + (cap - l) * sz := by rw [← Nat.add_mul, show l + (cap - l) = cap by omega]
      by_cases hcl : cap = l
      · rw [if_pos hcl]
        refine ⟨rfl, rfl, .inl (by omega), by omega, ?_⟩
        show o + _ ≤ _
        omega
      · rw [if_neg hcl, add_eq]
        refine ⟨rfl, rfl, ?_, by omega, ?_⟩
        · show cap - l = 0 ∨ o + l * sz = _
          omega
        · show o + l * sz + _ ≤ _
          omega
  | ref id off =>
    obtain ⟨n, e, sz, cs, hu, hs, hlv, hle, hne, h⟩ := h
    obtain ⟨x, hx', hat, rfl⟩ := rd_ref g hx hlv
    obtain ⟨l, e, r1, r2, r3, hk⟩ := run_sliceBounds (P := P) (isS := false) (cap := n) hl hh (Nat.le_refl _) h
    obtain ⟨C, t, fr, p1, p2, p3, p4, p5⟩ := hat
    refine .same (v := .slice (some (if n = l then ⟨x.b, x.o + off, none⟩ else ⟨x.b, x.o + off + l * sz, none⟩)) (e - l) (n - l)) g (by simp [Instr.sliceAt, Instr.sureAddr, run_underlying (uarr_under hu), r1, run_size hs, add_eq]) ?_ hk
    refine .osl hx' (fun h => by cases h) (fun h => by cases h) (by omega) fun y hy => ?_
    cases hy
    have hmul : n * sz = l * sz + (n - l) * sz := by rw [← Nat.add_mul, show l + (n - l) = n by omega]
    refine ⟨by split <;> rfl, by split <;> rfl, ?_, by omega, ?_⟩
    · by_cases hcl : n = l
      · left; omega
      · right; rw [if_neg hcl]; show x.o + off + l * sz = _; omega
    · split
      · show x.o + off + _ ≤ _
        rename_i hcl
        subst hcl
        simp; omega
      · show x.o + off + l * sz + _ ≤ _
        omega
  | _ => exact False.elim h

/-! ### What a slice or a string shows -/

theorem run_shown' {sz : Nat} {x : V} {u : Value} {K : Nat → List V → Prop} (g : Good c rows w ro ρ) (hx : Rd w ro ρ u x) (h : ashown sz x rows K) :
    ∃ n cs us, K n cs ∧ (Builtin.lenOf u).run P w = .ok n w ∧ (∀ w', w'.heap = w.heap → (Builtin.firstCells sz n u).run P w' = .ok us w') ∧ Rds w ro ρ us.toList cs ∧ us.size = n * sz := by
  have nilc : ∀ {K : Nat → List V → Prop}, K 0 [] → ∃ n cs us, K n cs ∧ (Builtin.lenOf (.slice none 0 0)).run P w = .ok n w ∧ (∀ w', w'.heap = w.heap → (Builtin.firstCells sz n (.slice none 0 0)).run P w' = .ok us w') ∧ Rds w ro ρ us.toList cs ∧ us.size = n * sz :=
    fun h => ⟨0, [], #[], h, rfl, fun _ _ => rfl, ⟨rfl, fun i u x hu => by simp at hu⟩, by simp⟩
  cases x with
  | nils => obtain rfl := rd_nils hx; exact nilc h
  | sl n cs =>
    obtain ⟨hlen, hk⟩ := h
    rcases rd_sl hx with ⟨rfl, rfl, rfl⟩ | ⟨b, o, cap, rfl, hro, hcap, hat⟩ | ⟨a, cap, rfl, rfl, rfl⟩
    · exact nilc hk
    rotate_left
    · exact ⟨0, [], #[], hk, rfl, fun _ _ => by simp [Builtin.firstCells, loadCells]; rfl, ⟨rfl, fun i u x hu => by simp at hu⟩, by simp⟩
    · obtain ⟨us, r1, r2⟩ := run_loadCells_at' (P := P) hat
      rw [hlen] at r1
      exact ⟨n, cs, us.toArray, hk, rfl, r1, ⟨by simpa using r2.1, fun i u x hu hx => (r2.2 i u x (by simpa using hu) hx).ofNil⟩, by have := r2.1; simp; omega⟩
  | osl id off n sz' =>
    obtain ⟨rfl, cs, hl, hle, hk⟩ := h
    rcases rd_osl g hx hl with ⟨rfl, rfl, rfl, -⟩ | ⟨y, o, cap, hy, hat, rfl, ho, hn, hm⟩
    · exact nilc (by simpa [sliceCells] using hk)
    · by_cases hc0 : cap = 0
      · subst hc0
        obtain rfl : n = 0 := by omega
        exact ⟨0, [], #[], by simpa [sliceCells] using hk, rfl, fun _ _ => by simp [Builtin.firstCells, loadCells, loadCellsFrom], ⟨rfl, fun i u x hu => by simp at hu⟩, by simp⟩
      · obtain rfl : o = y.o + off := by omega
        have hat' : CellsAt w ro ρ y.b (y.o + off) (sliceCells cs off (n * sz')) := (hat.cellsAt.drop off).take _
        obtain ⟨us, r1, r2⟩ := run_loadCells_at' (P := P) hat'
        have hlen : (sliceCells cs off (n * sz')).length = n * sz' := by simp [sliceCells]; omega
        rw [hlen] at r1
        exact ⟨n, _, us.toArray, hk, rfl, r1, by simpa using r2, by have := r2.1; simp; omega⟩
  | str s =>
    obtain ⟨rfl, hk⟩ := h
    obtain rfl := rd_str hx
    have hex : (⟨s.toArray⟩ : ByteArray).extract 0 s.length = ⟨s.toArray⟩ := by
      apply ByteArray.ext
      rw [ByteArray.data_extract]
      apply Array.ext'
      simp
    refine ⟨s.length, _, _, hk, by simp [Builtin.lenOf, str_size], fun _ _ => by simp [Builtin.firstCells, hex]; rfl, ⟨by simp, fun i u x hu hx => ?_⟩, by simp⟩
    simp at hu hx
    obtain ⟨b, hb, rfl⟩ := hu
    obtain ⟨b', hb', rfl⟩ := hx
    rw [hb] at hb'
    simp at hb'
    subst hb'
    exact .int
  | _ => exact False.elim h

theorem run_shown {sz : Nat} {x : V} {u : Value} {K : Nat → List V → Prop} (g : Good c rows w ro ρ) (hx : Rd w ro ρ u x) (h : ashown sz x rows K) :
    ∃ n cs us, K n cs ∧ (Builtin.lenOf u).run P w = .ok n w ∧ (Builtin.firstCells sz n u).run P w = .ok us w ∧ Rds w ro ρ us.toList cs ∧ us.size = n * sz := by
  obtain ⟨n, cs, us, h1, h2, h3, h4⟩ := run_shown' (P := P) g hx h
  exact ⟨n, cs, us, h1, h2, h3 w rfl, h4⟩

/-! ### Conversions -/

theorem rds_bytes : ∀ {us : List Value} {cs : List V}, Rds w ro ρ us cs → (∀ x ∈ cs, x.isByte = true) → ∃ ns : List Int, us = ns.map (Value.int .u8) ∧ cs.map toByte = ns.map fun n => UInt8.ofNat n.toNat
  | [], [], _, _ => ⟨[], rfl, rfl⟩
  | [], _ :: _, h, _ => by simp [Rds] at h
  | _ :: _, [], h, _ => by simp [Rds] at h
  | u :: us, x :: cs, h, hb => by
    obtain ⟨ns, r1, r2⟩ := rds_bytes (us := us) (cs := cs) ⟨by simpa using h.1, fun i a b ha hb => h.2 (i + 1) a b (by simpa using ha) (by simpa using hb)⟩ (fun y hy => hb y (by simp [hy]))
    have hx := h.2 0 u x rfl rfl
    have hxb := hb x (by simp)
    cases x with
    | int kd n =>
      cases kd <;> simp [V.isByte] at hxb
      obtain rfl := rd_int hx
      exact ⟨n :: ns, by simp [r1], by simp [toByte, r2]⟩
    | _ => simp [V.isByte] at hxb

theorem fold_push : ∀ (ns : List Int) (s : ByteArray), ns.foldl (fun r n => r.push (UInt8.ofNat n.toNat)) s = ⟨s.data ++ (ns.map fun n => UInt8.ofNat n.toNat).toArray⟩
  | [], s => by simp
  | n :: ns, s => by
    rw [List.foldl_cons, fold_push ns]
    apply ByteArray.ext
    apply Array.ext'
    simp [ByteArray.data_push]

theorem runs_bytesToString {u : Value} {x : V} (g : Good c rows w ro ρ) (hx : Rd w ro ρ u x) (hs : ∀ s, x ≠ .str s) (h : ashown 1 x rows fun _ cs => (∀ b ∈ cs, b.isByte = true) ∧ k (.str (cs.map toByte)) rows) : Runs P (Conv.bytesToString u) c k w ro ρ := by
  obtain ⟨n, cs, us, ⟨hb, hk⟩, r1, r2, r3, r4⟩ := run_shown (P := P) g hx h
  obtain ⟨ns, e1, e2⟩ := rds_bytes r3 hb
  have hus : us = (ns.map (Value.int .u8)).toArray := by apply Array.ext'; simpa using e1
  have hstr : Rd w ro ρ (.string ⟨(ns.map fun n => UInt8.ofNat n.toNat).toArray⟩) (.str (cs.map toByte)) := by rw [e2]; exact .str
  have hu : (∃ a n' cap, u = .slice (some a) n' cap) ∨ u = .slice none 0 0 := by
    cases hx <;> first | exact .inr rfl | exact .inl ⟨_, _, _, rfl⟩ | exact False.elim h | exact absurd rfl (hs _)
  rcases hu with ⟨a, n', cap, rfl⟩ | rfl
  · simp [Builtin.lenOf] at r1
    subst r1
    simp [Builtin.firstCells] at r2
    rw [hus] at r2
    have := run_bytesToString (P := P) w a n' cap ns r2
    refine .same g this ?_ hk
    rw [fold_push]
    simpa using hstr
  · simp [Builtin.lenOf] at r1
    subst r1
    simp [Builtin.firstCells] at r2
    rw [r2] at hus
    have : ns = [] := by cases ns <;> simp_all
    subst this
    refine .same (v := .string ByteArray.empty) g (by simp [Conv.bytesToString]) ?_ hk
    exact hstr

theorem World.freeze_heap (w : World) (a : Addr) (n k : Nat) (hk : k ≠ a.block) : (w.freeze a n).heap[k]? = w.heap[k]? := by
  unfold World.freeze
  split
  · rfl
  · simp only [Array.getElem?_modify]
    rw [if_neg (fun h => hk h.symm)]

theorem set_self {α : Type} {l : List α} {i : Nat} {x : α} (h : l[i]? = some x) : l.set i x = l := by
  apply List.ext_getElem?
  intro j
  rw [List.getElem?_set]
  split
  · rename_i e; subst e; rw [h]; simp [(List.getElem?_eq_some_iff.1 h).1]
  · rfl

theorem Good.freeLe' (g : Good c rows w ro ρ) {id : Nat} (hf : Free rows id) : id ≤ rows.length := by rw [← g.len]; exact g.freeLe hf

theorem runs_stringToBytes {s : List UInt8} {e : TypeId} {id : Nat} (g : Good c rows w ro ρ) (hf : Free rows id) (hk : k (.osl id 0 s.length 1) (rput rows id (.live (s.map byteV)))) :
    Runs P (Conv.stringToBytes e ⟨s.toArray⟩) c k w ro ρ := by
  obtain ⟨g1, e1⟩ := g.drew (w.drawn + 1)
  generalize hcap : (Question.appendCap s.length 0 e).cut (w.tape w.drawn (.appendCap s.length 0 e)) = cap
  have hle : s.length ≤ cap := by rw [← hcap]; simp [Question.cut]
  have hr0 : Rds { w with drawn := w.drawn + 1 } ro ρ (s.map fun b => Value.int .u8 b.toNat) (s.map byteV) := ⟨by simp, fun i u x hu hx => by
    simp at hu hx
    obtain ⟨b, hb, rfl⟩ := hu
    obtain ⟨b', hb', rfl⟩ := hx
    rw [hb] at hb'
    simp at hb'
    subst hb'
    exact .int⟩
  obtain ⟨g2, e2⟩ := g1.newRow hf hr0 (List.replicate (cap - s.length) (.int .u8 0)) e
  have hlen : (s.map fun b => Value.int .u8 b.toNat).length + (List.replicate (cap - s.length) (Value.int .u8 0)).length = cap := by simp; omega
  rw [hlen] at g2 e2
  generalize hw1 : World.alloc { w with drawn := w.drawn + 1 } (.cells ((s.map fun b => Value.int .u8 b.toNat) ++ List.replicate (cap - s.length) (Value.int .u8 0)).toArray e) = w1 at g2 e2
  have hb : w1.heap[w.heap.size]? = some (.cells ((s.map fun b => Value.int .u8 b.toNat) ++ List.replicate (cap - s.length) (Value.int .u8 0)).toArray e) := by rw [← hw1]; simp [World.alloc]
  have hsz : ((s.map fun b => Value.int .u8 b.toNat) ++ List.replicate (cap - s.length) (Value.int .u8 0)).toArray.size = cap := by simp; omega
  have hgr : (rput ρ id (.on ⟨w.heap.size, 0, cap⟩))[id]? = some (.on ⟨w.heap.size, 0, cap⟩) := get_rput g hf _
  have hrw : (rput rows id (.live (s.map byteV)))[id]? = some (.live (s.map byteV)) := by rw [rput_get (g.freeLe' hf), if_pos rfl]
  have hfz : (w1.freeze ⟨w.heap.size, cap, none⟩ 1).heap[w.heap.size]? = some (.cells ((s.map fun b => Value.int .u8 b.toNat) ++ List.replicate (cap - s.length) (Value.int .u8 0)).toArray e (cap, cap + 1)) := by
    unfold World.freeze
    rw [if_neg (by omega)]
    simp [Array.getElem?_modify, hb]
  have hst := g2.store (w' := w1.freeze ⟨w.heap.size, cap, none⟩ 1) hrw hgr (by simp [World.freeze]) (by simp [World.freeze]) (by simp [World.freeze]) (by simp [World.freeze]) (fun b hb => World.freeze_heap _ _ _ _ hb) (ds := s.map byteV)
    (fun hext => by
      obtain ⟨cs', h1, h2⟩ := g2.alive hgr
      rw [hrw] at h1
      simp at h1
      subst h1
      obtain ⟨C, t, fr, q1, q2, q3, q4, q5⟩ := h2
      rw [hb] at q1
      simp at q1
      obtain ⟨rfl, rfl, rfl⟩ := q1
      exact ⟨_, _, _, hfz, q2, (fun i hi => by simp at hi ⊢; omega), q4, fun i v hv => by
        obtain ⟨u, hu, hr⟩ := q5 i v hv
        exact ⟨u, hu, hr.ext hext⟩⟩)
  rw [set_self hrw] at hst
  obtain ⟨g3, e3⟩ := hst
  refine ⟨.slice (some ⟨w.heap.size, 0, none⟩) s.length cap, w1.freeze ⟨w.heap.size, cap, none⟩ 1, ?_, .osl id 0 s.length 1, _, ro, _, hk, g3, ?_, (e1.trans e2).trans e3⟩
  · have hsh : w1.shape? w.heap.size = some (e, cap) := by simp only [World.shape?, hb, hsz]
    have hsz' : (⟨s.toArray⟩ : ByteArray).size = s.length := str_size s
    have hwd : w.drew = { w with drawn := w.drawn + 1 } := rfl
    have hrep : (Array.map (fun b : UInt8 => Value.int .u8 b.toNat) s.toArray ++ Array.replicate (cap - s.length) (Value.int .u8 0)) = ((s.map fun b => Value.int .u8 b.toNat) ++ List.replicate (cap - s.length) (Value.int .u8 0)).toArray := by
      apply Array.ext'
      simp
    simp only [Conv.stringToBytes, hsz', Sem.run_bind, run_choose_drew, Question.forced, Bool.false_eq_true, if_false, Result.andThen_ok, hcap, hrep, Go.newRow, run_newObj_alloc, Sem.run_pure, hwd, hw1, markStringish, run_shape]
    have hsz2 : (World.heap { w with drawn := w.drawn + 1 }).size = w.heap.size := rfl
    simp only [hsz2, hsh, run_freeze, Result.andThen_ok]
  · exact .osl hgr (fun h => by cases h) (fun h => by cases h) hle (fun x hx => by cases hx; exact ⟨rfl, rfl, .inr rfl, hle, by simp⟩)

theorem runs_aconv {s d : TypeId} {x : V} {u : Value} {id : Nat} (g : Good c rows w ro ρ) (hx : Rd w ro ρ u x) (h : aconv P s d x id rows k) : Runs P (convert s d u) c k w ro ρ := by
  have other : (ustr P d = true ∧ (∃ e, uslice P s = some e ∧ uint P e = some .u8) ∧ ashown 1 x rows fun _ cs => (∀ c ∈ cs, c.isByte = true) ∧ k (.str (cs.map toByte)) rows) → (∀ s, x ≠ .str s) → Runs P (convert s d u) c k w ro ρ := by
    rintro ⟨hd, ⟨e, hs, he⟩, h⟩ hns
    obtain ⟨v, w', hr, hok⟩ := runs_bytesToString (P := P) g hx hns h
    have hu : ∃ a n cap, u = .slice a n cap := by
      cases hx <;> first | exact ⟨_, _, _, rfl⟩ | exact False.elim h | exact absurd rfl (hns _)
    obtain ⟨a, n, cap, rfl⟩ := hu
    exact ⟨v, w', by rw [run_convert_bytes_string w s d e a n cap (uslice_under hs) (uint_under he) (ustr_under hd)]; exact hr, hok⟩
  cases x with
  | int kd n =>
    obtain ⟨kd', hd, hs, hk⟩ := h
    obtain rfl := rd_int hx
    obtain ⟨ds, hs⟩ := Option.isSome_iff_exists.1 hs
    exact .same g (by simp [convert, run_underlying hs, run_underlying (uint_under hd), Conv.intToInt]) .int hk
  | str l =>
    obtain rfl := rd_str hx
    obtain ⟨hs, h⟩ := h
    obtain ⟨ds, hs⟩ := Option.isSome_iff_exists.1 hs
    split at h
    · rename_i hd
      exact .same g (by simp [convert, run_underlying hs, run_underlying (ustr_under hd)]) .str h
    · obtain ⟨e, hd, he, hf, hk⟩ := h
      obtain ⟨v, w', hr, hok⟩ := runs_stringToBytes (P := P) (e := e) g hf hk
      exact ⟨v, w', by simpa [convert, run_underlying hs, run_underlying (uslice_under hd), run_underlying (uint_under he)] using hr, hok⟩
  | _ => exact other h (fun s h => by cases h)

/-! ### Append -/

theorem growBy_le (m : Nat) : ∀ (r q : Nat), 256 ≤ q → q ≤ 2 * m → Builtin.growBy m r q ≤ 2 * m
  | 0, q, _, h => h
  | r + 1, q, h1, h2 => by
    unfold Builtin.growBy
    split
    · exact h2
    · exact growBy_le m r _ (by omega) (by omega)

theorem nextslicecap_le {m q : Nat} (h : q < m) : Builtin.nextslicecap m q ≤ 2 * m := by
  unfold Builtin.nextslicecap
  split
  · omega
  · split
    · omega
    · exact growBy_le m 4 q (by omega) (by omega)

theorem Rds.append {us vs : List Value} {xs ys : List V} (h : Rds w ro ρ us xs) (h' : Rds w ro ρ vs ys) : Rds w ro ρ (us ++ vs) (xs ++ ys) :=
  ⟨by simp [h.1, h'.1], fun i u x hu hx => by
    rw [List.getElem?_append] at hu hx
    rw [← h.1] at hx
    split at hu <;> rename_i hi
    · rw [if_pos hi] at hx; exact h.2 i u x hu hx
    · rw [if_neg hi] at hx; exact h'.2 _ u x hu hx⟩

/-- The way of 'append' that makes a new block. -/
theorem append_grow {t t' ty e : TypeId} {sz by' n m cap : Nat} {z : List V} {base : Option Addr} {ux : Value} {old new : List V} {id : Nat} (hu : uslice P t = some e) (hs : usz P e = some sz) (hb : ubytes P e = some by')
    (hz : uzero P e = some z) (hzl : z.length = sz) (ht : (uslice P t').isSome = true ∨ ustr P t' = true) (hb1 : (n + m) * by' ≤ 140737488355328) (hb2 : n + m ≤ 1099511627776) (hnc : cap < n + m)
    (hln : (Builtin.lenOf ux).run P w = .ok m w)
    (hnew : ∀ q, ∃ us, (Builtin.firstCells sz m ux).run P { w with drawn := q } = .ok us { w with drawn := q } ∧ Rds { w with drawn := q } ro ρ us.toList new ∧ us.size = m * sz)
    (hold : ∀ q, ∃ us, (Builtin.firstCells sz n (.slice base n cap)).run P { w with drawn := q } = .ok us { w with drawn := q } ∧ Rds { w with drawn := q } ro ρ us.toList old ∧ us.size = n * sz)
    (g : Good c rows w ro ρ) (hf : Free rows id) (hk : k (.osl id 0 (n + m) sz) (rput rows id (.live (old ++ new)))) :
    Runs P (Builtin.append_ #[t, t'] ty #[.slice base n cap, ux]) c k w ro ρ := by
  obtain ⟨v, hv, rfl, i, hi⟩ := uzero_run (P := P) (w := { w with drawn := w.drawn + 1 }) hz
  have hvs : v.cells.size = sz := by simpa using hzl
  have hbi : i.bytes = by' := by simpa [ubytes, hi] using hb
  have hsi : i.size = sz := by simpa [usz, hi] using hs
  obtain ⟨uo, ho1, ho2, ho3⟩ := hold (w.drawn + 1)
  obtain ⟨un, hn1, hn2, hn3⟩ := hnew (w.drawn + 1)
  generalize hcap : (Question.appendCap (n + m) cap e).cut (w.tape w.drawn (.appendCap (n + m) cap e)) = nc
  have hle : n + m ≤ nc := by rw [← hcap]; simp [Question.cut]
  obtain ⟨g1, e1⟩ := g.drew (w.drawn + 1)
  have hOk := runs_newSlice (k := k) (e := e) (n := n + m) (cap := nc) (sz := sz) (rest := (Builtin.zeroCells v.cells (nc - (n + m))).toList) g1 hf (ho2.append hn2) hle
    (by simp [Builtin.zeroCells, hvs, ho3, hn3]; rw [← Nat.add_mul, ← Nat.add_mul]; exact Nat.le_of_eq (by congr 1; omega)) hk
  obtain ⟨r, rows', ro', ρ', q1, q2, q3, q4⟩ := hOk
  refine ⟨_, _, ?_, r, rows', ro', ρ', q1, q2, q3, e1.trans q4⟩
  have hcapN := nextslicecap_le hnc
  have hbig : ¬ 2 ^ 48 < Builtin.nextslicecap (n + m) cap * by' := by
    have h2 : Builtin.nextslicecap (n + m) cap * by' ≤ 2 * (n + m) * by' := Nat.mul_le_mul_right _ hcapN
    rw [Nat.mul_assoc] at h2
    omega
  have hmax : ¬ (IntKind.i64.max < ((n + m : Nat) : Int)) := by simp [IntKind.max, IntKind.signed, IntKind.bits]; omega
  have hnle : ¬ (n + m ≤ cap) := by omega
  have hwd : w.drew = { w with drawn := w.drawn + 1 } := rfl
  have hsz2 : (World.heap { w with drawn := w.drawn + 1 }).size = w.heap.size := rfl
  have harr : uo ++ un ++ Builtin.zeroCells v.cells (nc - (n + m)) = (uo.toList ++ un.toList ++ (Builtin.zeroCells v.cells (nc - (n + m))).toList).toArray := by
    apply Array.ext'
    simp
  have hfc : Question.forced (.appendCap (n + m) cap e) = false := rfl
  have key : ∀ dt, P.underlying t' = some dt → (dt = .string ∨ ∃ e', dt = .slice e') → (Builtin.append_ #[t, t'] ty #[.slice base n cap, ux]).run P w =
      .ok (.slice (some ⟨w.heap.size, 0, none⟩) (n + m) nc) ((World.alloc { w with drawn := w.drawn + 1 }) (.cells (uo.toList ++ un.toList ++ (Builtin.zeroCells v.cells (nc - (n + m))).toList).toArray e)) := by
    intro dt hdt hk
    rcases hk with rfl | ⟨e', rfl⟩ <;>
    simp only [Builtin.append_, List.getElem?_toArray, List.getElem?_cons_zero, List.getElem?_cons_succ, Sem.run_bind, run_underlying (uslice_under hu), Result.andThen_ok, run_size hs, run_underlying hdt, Sem.run_pure,
      Bool.false_eq_true, if_false, hln, Bool.not_false, if_true, hnle, typeInfo, run_program, hi, hbi, hbig, hmax, false_and, run_choose_drew, hfc, hcap, hwd, run_askRoom, ho1, hn1, hv, Go.newRow, run_newObj_alloc, hsz2, harr, gt_iff_lt, Sem.run_ite]
  rcases ht with ht | ht
  · obtain ⟨e', he'⟩ := Option.isSome_iff_exists.1 ht
    exact key _ (uslice_under he') (.inr ⟨_, rfl⟩)
  · exact key _ (ustr_under ht) (.inl rfl)

end
end Go.VS
