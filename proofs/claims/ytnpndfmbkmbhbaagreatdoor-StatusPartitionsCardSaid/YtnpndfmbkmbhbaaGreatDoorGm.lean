/-
 VALUE SEMANTICS, 30: contracts of Go's library (the kit's shelf) as contracts of this layer; a law whose row lists variables.
 Conditions: none.
-/
import Derived.LaidLaws
import Derived.Shelf.Vars
import Derived.Test.YtnpndfmbkmbhbaaGreatDoorGi
import Derived.LoopN
import Derived.Scope
set_option linter.all false
namespace Go.VS
open Go.ChangeShapes Go.WideShapes Go.RowKit

section
variable {P : Program} {f : FuncId} {args : List V} {r : V}

end

theorem gok_shaped {P : Program} {W : World} {g : Nat} {t : TypeId} {zero : Array Value} (h : W.ShapedOpen P) (hn : P.globalNamed "internal/bytealg.MaxLen" = some g) (hg : g < P.globals.size)
  (h0 : ((begin P (fun _ _ => 0) default).world.heap[g]?).bind Obj.row? = some (zero, t)) (hz : zero.size = 1)
  (hb : P.buildable t = true) (hc : P.cellTypes P.depth t = some [t]) (hu : P.underlying t = some (.int .i64)) : GOk P ⟨W, fun b => b < W.heap.size, []⟩ := by
 intro k hk
 rw [hn] at hk
 obtain rfl := Option.some.inj hk
 obtain ⟨m, hm⟩ := Go.Proofs.cell_of_shapedOpen_int h hg h0 hz hb hc hu
 refine ⟨?_, m, hm⟩
 show _ < W.heap.size
 unfold World.cell? at hm
 cases hw : W.heap[(⟨g, 0, none⟩ : Addr).block]? with
 | none => rw [hw] at hm; simp at hm
 | some o => exact (Array.getElem?_eq_some_iff.1 hw).1

theorem law_laid {C : Checked} {f : FuncId} {fn : Func} {s : ChangeSpec} {conds : List PathCond} {K : Nat} {tb : TypeId} {laid : List (String × DataW Unit)} (own : ownKnob C.prog.godebug = none) (hl : laidOutB C.prog = true) (noInit : C.prog.inits.idxOf? f = none)
  (hfn : C.prog.funcs[f]? = some fn) (hvars : s.vars = []) (hspec : ∀ (H : Type) (ds : List (DataW H)), ds.length = fn.params.toList.length → s.fn H ds = { results := [.lit (.bool true)], args := ds })
  (hres : fn.resultTypes = #[tb]) (htb : C.prog.underlying tb = some .bool) (hpl : (fn.params.toList.all fun t => plain C.prog K t && C.prog.readableRec t && decide (t < C.prog.types.size)) = true)
  (hgo : ∀ W : World, W.ShapedOpen C.prog → GOk C.prog ⟨W, fun b => b < W.heap.size, []⟩)
  (call : ∀ xs, FitsAll C.prog K fn.params.toList xs → PCall C.prog f xs (.bool true)) (os : Os) (started : os.Started) (H : Type) (enc : TypeId × Value → H)
  (witness : ∃ (w : World) (tape : Tape) (i : Input), w.os = os ∧ (w.forCall tape i).Shaped C.prog ∧ i.vars = [] ∧ Input.okWide C.prog (w.forCall tape i) .any w.heap.size f i ∧
   ((s.pre enc C.prog fn conds false (w.forCall tape i).memory i.args ∧ laidMetH C.prog laid (w.forCall tape i).memory) ∧ sizedMet enc C.prog fn (OpenSpec.ofChange s) false (w.forCall tape i).memory i.args) ∧ ({} : Assume).holds C.prog (lone (Frame.enter C.prog f i.args .normal) [] (w.forCall tape i))) :
  ReturnsInHanded {} C os f .any (fun w args => (s.pre enc C.prog fn conds false w args ∧ laidMetH C.prog laid w) ∧ sizedMet enc C.prog fn (OpenSpec.ofChange s) false w args) (s.post enc C.prog fn false true false false) := by
 refine returnsInHanded_of_calls own started noInit witness ?_
 intro w tape i _ hsh _ hok hpre hholds
 obtain ⟨_, _, _, fn', hfn', _, _, _, _, hval⟩ := hok
 have e : fn' = fn := Option.some.inj (hfn'.symm.trans hfn)
 subst e
 obtain ⟨⟨⟨ds, gs, before, hw, hcnd⟩, hx⟩, hz⟩ := hpre
 have hW := DataW.Whole.of_heap (w' := w.forCall tape i) (by rfl) hw
 have hsz := hz.weights hw
 generalize w.forCall tape i = W at *
 generalize i.args = args at *
 clear hw
 suffices hs : Calls C.prog f args W fun e W' => ∃ v, e = .returned v ∧ s.post enc C.prog fn' false true false false W args v W' by
  refine hs.mono fun e W' ⟨v, he, hp⟩ => ?_
  subst he
  exact ChangeSpec.post_blind hp
 have hW' := hW
 obtain ⟨p, q, hA, hV, rfl, hfz, hnd⟩ := hW
 rw [hvars] at hV
 obtain ⟨rfl, rfl⟩ := trodVars_none hV
 simp only [List.append_nil] at hW' hsz hfz
 have hpl' : ∀ t ∈ fn'.params.toList, plain C.prog K t = true ∧ C.prog.readableRec t = true ∧ t < C.prog.types.size := by
  intro t ht
  have := List.all_eq_true.1 hpl t ht
  simp only [Bool.and_eq_true, decide_eq_true_eq] at this
  exact ⟨this.1.1, this.1.2, this.2⟩
 have hvt : s.plain.varTypes C.prog = [] := by simp [DataSpec.varTypes, ChangeSpec.plain, hvars]
 have hvt2 : (OpenSpec.ofChange s).bare.plain.varTypes C.prog = [] := hvt
 rw [hvt2, List.append_nil] at hsz
 have hwt : ∀ n ∈ DataW.weightsEach C.prog fn'.params.toList ds, n ≤ reachBytes := fun n hn => by simpa using List.all_eq_true.1 hsz n hn
 obtain ⟨xs, hxs, hfit⟩ := trodAll_fits (fun t ht => (hpl' t ht).1) (fun j t v h1 h2 => hval j t v (by simpa using h1) (by simpa using h2)) hA hwt
 refine ((call xs hfit).below (w := W) (vs := args) hxs (hgo W hsh)).mono ?_
 rintro e W' ⟨rfl, hb⟩
 have hlt : ∀ x ∈ p, x.block < W.heap.size := fun x hx => hW'.lt x hx
 have hsp := hspec H ds (trodAll_len hA)
 have hold : ∀ x ∈ p, decide (x.block < W.heap.size) = true := fun x hx => by simpa using hlt x hx
 refine ⟨_, rfl, ds, [], p, [], p, [], hW', ?_, ?_, ?_, World.keptBut_mono (fun x hx => ⟨hx, .inr (by simpa using hx)⟩) (hb.frame (· ∈ p)), fun h => by cases h⟩
 ·rw [hres]
  simp only [List.append_nil]
  rw [hsp]
  exact trodAll_cons_mk (shut_bool htb _) trodAll_mk0
 ·simp only [List.append_nil]
  rw [hsp]
  exact trodAll_stays hl (fun t ht => (hpl' t ht).2) hA (fun x hx => hb.same (hlt x hx)) hold
 ·simp only [List.append_nil]
  rw [hsp, hvars]
  rfl

end Go.VS
set_option linter.all false
namespace Go.VS

section
variable {P : Program} {ops : Array Oper} {F : List (Nat × Nat × V)} {mk : Nat → Nat} {idf : Nat → Nat} {K : KS}

theorem acallF_alloc {f : FuncId} {args : List V} {rows : List Row} {k : KV} {id : Nat} (hres : rows[id]? = some .resv) (h : acallF P f args rows k) :
  ∃ v r, k v r ∧ r[id]? = some .resv ∧ ∀ cs (k2 : KV), k2 v (r.set id (.live cs)) → acallF P f args (rows.set id (.live cs)) k2 := by
 obtain ⟨m, args1, rows1, r1, rows1', r, rows', h1, h2, h3, h4, h5, h6, h7⟩ := h
 have hlt : id < rows.length := (List.getElem?_eq_some_iff.1 hres).1
 have hm : id ∉ m := by
  intro hm
  obtain ⟨j, hj⟩ := List.getElem?_of_mem hm
  have hl := h2.len
  have hjl : j < m.length := (List.getElem?_eq_some_iff.1 hj).1
  obtain ⟨r', hr'⟩ := get_iff (l := rows1) (i := j) (by rw [hl]; simpa [-opNew, -aeffP, -aeffW] using hjl)
  obtain ⟨q, hq, hren⟩ := h2.old j id r' (by simp [-opNew, -aeffP, -aeffW, hj]) hr'
  rw [hres] at hq
  obtain rfl := Option.some.inj hq
  cases r' with
  | resv => exact hren
  | dead => exact hren.1 rfl
  | live _ => exact hren
 have hk := h5.keep id hlt hm
 refine ⟨r, rows', h7, by rw [hk, hres], fun cs k2 hk2 => ⟨m, args1, rows1, r1, rows1', r, _, h1, ⟨h2.len, h2.inj, fun j i r' hj hr' => ?_, h2.new⟩, h3, h4, ⟨h5.le, by simpa [-opNew, -aeffP, -aeffW] using h5.len, fun j i r1' hj hr1 => ?_, fun i hi him => ?_⟩, by simpa [-opNew, -aeffP, -aeffW] using h6, hk2⟩⟩
 ·obtain ⟨q, hq, hren⟩ := h2.old j i r' hj hr'
  refine ⟨q, ?_, hren⟩
  have : id ≠ i := by
   rintro rfl
   rw [List.getElem?_map] at hj
   cases hx : m[j]? with
   | none => rw [hx] at hj; simp [-opNew, -aeffP, -aeffW] at hj
   | some x => rw [hx] at hj; simp [-opNew, -aeffP, -aeffW] at hj; subst hj; exact hm (List.mem_of_getElem? hx)
  rw [List.getElem?_set_ne this]
  exact hq
 ·rw [List.length_set] at hj ⊢
  obtain ⟨q, hq, hren⟩ := h5.upd j i r1' hj hr1
  refine ⟨q, ?_, hren⟩
  have : id ≠ i := by
   rintro rfl
   rw [behind_get] at hj
   split at hj
   ·cases hx : m[j]? with
    | none => rw [hx] at hj; simp [-opNew, -aeffP, -aeffW] at hj
    | some x => rw [hx] at hj; simp [-opNew, -aeffP, -aeffW] at hj; subst hj; exact hm (List.mem_of_getElem? hx)
   ·split at hj
    ·simp [-opNew, -aeffP, -aeffW] at hj; omega
    ·simp [-opNew, -aeffP, -aeffW] at hj
  rw [List.getElem?_set_ne this]
  exact hq
 ·rw [List.length_set] at hi
  by_cases hid : id = i
  ·subst hid
   have hl := h5.len
   rw [List.getElem?_set_self hlt, List.getElem?_set_self (by omega)]
  ·rw [List.getElem?_set_ne hid, List.getElem?_set_ne hid]
   exact h5.keep i hi him

theorem aeffW_alloc {op : Op} {s : List V} {rows : List Row} {k : KV} {id : Nat} (hres : rows[id]? = some .resv) (h : aeffW P op s rows k) :
  ∃ v r, k v r ∧ r[id]? = some .resv ∧ ∀ cs (k2 : KV), k2 v (r.set id (.live cs)) → aeffW P op s (rows.set id (.live cs)) k2 := by
 unfold aeffW at h ⊢
 split at h
 ·split at h
  ·split at h
   ·exact acallF_alloc hres h
   ·exact h.elim
  ·exact h.elim
 ·exact h.elim

theorem aeffW_resv {op : Op} {s : List V} {rows ri : List Row} {vi : V} {id : Nat} (hlt : id < rows.length) (hri : ri[id]? = some .resv) (h : aeffW P op s rows fun v r => v = vi ∧ r = ri) : rows[id]? = some .resv := by
 unfold aeffW at h
 split at h
 ·split at h
  ·split at h
   ·obtain ⟨m, args1, rows1, r1, rows1', r, rows', h1, h2, h3, h4, h5, h6, rfl, rfl⟩ := h
    by_cases hm : id ∈ m
    ·exfalso
     obtain ⟨j, hj⟩ := List.getElem?_of_mem hm
     have hjl : j < m.length := (List.getElem?_eq_some_iff.1 hj).1
     have hle := h5.le
     obtain ⟨q1, hq1⟩ := get_iff (l := rows1') (i := j) (by omega)
     obtain ⟨q, hq, hren⟩ := h5.upd j id q1 (by rw [behind_get, if_pos hjl, hj]; rfl) hq1
     rw [hri] at hq
     obtain rfl := Option.some.inj hq
     cases q1 with
     | resv => exact hren
     | dead => exact hren.1 rfl
     | live _ => exact hren
    ·rw [← h5.keep id hlt hm, hri]
   ·exact h.elim
  ·exact h.elim
 ·exact h.elim

def isApp : Op → Bool
 | .call c => (match c.callee with
  | .builtin .append => true
  | _ => false)
 | _ => false
def slides (m : Nat) (op : Op) : Bool := m == 2 || (m == 0 && isApp op)

theorem facts_set {rows : List Row} {id : Nat} {cs : List V} (hF : Facts F rows) (h : rows[id]? = some .resv) : Facts F (rows.set id (.live cs)) := by
 intro p hp
 obtain ⟨cs', q1, q2⟩ := hF p hp
 refine ⟨cs', ?_, q2⟩
 rw [List.getElem?_set_ne]
 ·exact q1
 ·rintro e; rw [← e, h] at q1; cases q1

theorem ashown_cont {sz : Nat} {x : V} {rows : List Row} {K : Nat → List V → Prop} (h : ashown sz x rows K) :
  ∃ m new, True ∧ (∀ (cs : List V) {id : Nat} (K2 : Nat → List V → Prop), rows[id]? = some .resv → K2 m new → ashown sz x (rows.set id (.live cs)) K2) ∧ K m new := by
 cases x with
 | nils => exact ⟨0, [], trivial, fun cs id K2 hr hk => hk, h⟩
 | sl n cs => exact ⟨n, cs, trivial, fun _ id K2 hr hk => ⟨h.1, hk⟩, h.2⟩
 | osl id0 off n sz' =>
  obtain ⟨h1, cs, h2, h3, h4⟩ := h
  refine ⟨n, _, trivial, fun cs' id K2 hr hk => ⟨h1, cs, ?_, h3, hk⟩, h4⟩
  rw [List.getElem?_set_ne]
  ·exact h2
  ·rintro rfl; rw [h2] at hr; cases hr
 | str s => exact ⟨_, _, trivial, fun cs id K2 hr hk => ⟨h.1, hk⟩, h.2⟩
 | val v => exact ⟨0, [], trivial, fun cs id K2 hr hk => ⟨h.1, hk⟩, h.2⟩
 | _ => exact h.elim

theorem aeffM_slide {op : Op} {m id : Nat} {s : List V} {rows ri : List Row} {vi : V} {id2 : Nat} (hf : slides m op = true) (hid : opAllocs P op = true → id < rows.length) (h : aeffM P F m op id s rows fun v r => v = vi ∧ r = ri) (hlt : id2 < rows.length) (hri : ri[id2]? = some .resv) :
  rows[id2]? = some .resv ∧ ∀ cs (k2 : KV), k2 vi (ri.set id2 (.live cs)) → aeffM P F m op id s (rows.set id2 (.live cs)) k2 := by
 unfold slides at hf
 rcases Bool.or_eq_true _ _ ▸ hf with hf | hf
 ·obtain rfl : m = 2 := by simpa [-opNew, -aeffP, -aeffW] using hf
  have h := aeffM_i2.1 h
  obtain ⟨v, r, ⟨hF, rfl, rfl⟩, -, h1⟩ := aeffW_one h
  have hres := aeffW_resv hlt hri (h1 (fun v' r' => v' = v ∧ r' = r) ⟨rfl, rfl⟩)
  refine ⟨hres, fun cs k2 hk => ?_⟩
  obtain ⟨vi', ri', ⟨rfl, rfl⟩, -, hback⟩ := aeffW_alloc hres (h1 (fun v' r' => v' = v ∧ r' = r) ⟨rfl, rfl⟩)
  exact aeffM_i2.2 (hback cs _ ⟨facts_set hF hri, hk⟩)
 ·simp only [Bool.and_eq_true, beq_iff_eq] at hf
  obtain ⟨rfl, hf⟩ := hf
  cases op with
  | call c =>
   have hc : c.callee = .builtin .append := by
    unfold isApp at hf
    dsimp only at hf
    split at hf
    ·assumption
    ·cases hf
   have hlt1 := hid (by simp [-opNew, -aeffP, -aeffW, opAllocs, hc])
   have h := aeffM_i0.1 h
   simp only [aeff, hc] at h
   have goalE : ∀ (rows' : List Row) (k2 : KV), aeffM P F 0 (.call c) id s rows' k2 ↔ abuiltin P .append c.argTypes (c.args.toList.map (oval s)) id rows' fun v r => (opKind (.call c) = 3 → Facts F r) ∧ k2 v r := by
    intro rows' k2
    rw [aeffM_i0]
    simp only [aeff, hc]
   simp only [goalE]
   generalize c.args.toList.map (oval s) = args at *
   match args, h with
   | [a, x], h =>
    simp only [abuiltin] at h ⊢
    obtain ⟨t, t', h1, h2, h3, e, sz, by', z, g1, g2, g3, g4, g5, h⟩ := h
    obtain ⟨m, new, -, hk, hone, h⟩ := ashown_cont h
    cases a with
    | nils =>
     obtain ⟨q1, q2, q3, hF, rfl, rfl⟩ := h
     have hne : id2 ≠ id := by
      rintro rfl
      rw [rput_get (Nat.le_of_lt hlt1), if_pos rfl] at hri
      cases hri
     rw [rput_get (Nat.le_of_lt hlt1), if_neg hne] at hri
     refine ⟨hri, fun cs k2 hk2 => ⟨t, t', h1, h2, h3, e, sz, by', z, g1, g2, g3, g4, g5, hk cs (id := id2) _ hri ⟨hone, q1, q2, ?_, ?_, ?_⟩⟩⟩
     ·rcases q3 with q3 | q3
      ·omega
      ·right; rw [List.getElem?_set_ne hne]; exact q3
     ·intro hk3
      rw [rput_set (by simpa [-opNew, -aeffP, -aeffW] using hlt1), List.set_comm _ _ hne]
      have hF := hF hk3
      rw [rput_set hlt1] at hF
      exact facts_set hF (by rw [List.getElem?_set_ne (Ne.symm hne)]; exact hri)
     ·rw [rput_set (by simpa [-opNew, -aeffP, -aeffW] using hlt1), List.set_comm _ _ hne]
      rw [rput_set hlt1] at hk2
      exact hk2
    | osl id0 off n sz' =>
     obtain ⟨q0, q1, q2, q3, cs0, q4, q5, hF, rfl, rfl⟩ := h
     have hlt2 : id < (rows.set id0 Row.dead).length := by simpa [-opNew, -aeffP, -aeffW] using hlt1
     have hne : id2 ≠ id := by
      rintro rfl
      rw [rput_get (Nat.le_of_lt hlt2), if_pos rfl] at hri
      cases hri
     rw [rput_get (Nat.le_of_lt hlt2), if_neg hne] at hri
     have hne0 : id2 ≠ id0 := by
      rintro rfl
      rw [List.getElem?_set_self hlt] at hri
      cases hri
     have hres : rows[id2]? = some .resv := by rwa [List.getElem?_set_ne (Ne.symm hne0)] at hri
     have e1 : ∀ cs, rput ((rows.set id2 (.live cs)).set id0 .dead) id (.live (sliceCells cs0 off (n * sz) ++ new)) = (rput (rows.set id0 .dead) id (.live (sliceCells cs0 off (n * sz) ++ new))).set id2 (.live cs) := by
      intro cs
      rw [rput_set (by simpa [-opNew, -aeffP, -aeffW] using hlt1), rput_set hlt2, List.set_comm _ _ hne0, List.set_comm _ _ hne]
     refine ⟨hres, fun cs k2 hk2 => ⟨t, t', h1, h2, h3, e, sz, by', z, g1, g2, g3, g4, g5, hk cs (id := id2) _ hres ⟨hone, q0, q1, q2, ?_, cs0, ?_, q5, ?_, ?_⟩⟩⟩
     ·rcases q3 with q3 | q3
      ·omega
      ·right; rw [List.getElem?_set_ne hne]; exact q3
     ·rw [List.getElem?_set_ne hne0]; exact q4
     ·intro hk3
      rw [e1]
      refine facts_set (hF hk3) ?_
      rw [rput_get (Nat.le_of_lt hlt2), if_neg hne]
      exact hri
     ·rw [e1]; exact hk2
    | _ => exact h.elim
  | _ => simp [-opNew, -aeffP, -aeffW, isApp] at hf

def compatA (mk : Nat → Nat) (ops : Array Oper) (i j : Nat) : Bool :=
 compat mk ops i j || match ops[i]?, ops[j]? with
 | some oi, some oj => oi.apart ops oj && slides (mk i) oi.op && mk j == 0 && opKind oj.op == 1
 | _, _ => false

theorem aop1_swapA {i j : Nat} {s : List V} {rows : List Row} (hc : compatA mk ops i j = true)
  (hid : ∀ (k : Nat) o, ops[k]? = some o → opAllocs P o.op = true → idf k < rows.length) (hw : Wf P F s rows) (h : aop1 P F mk ops idf i (aop1 P F mk ops idf j K) s rows) : aop1 P F mk ops idf j (aop1 P F mk ops idf i K) s rows := by
 unfold compatA at hc
 rcases Bool.or_eq_true _ _ ▸ hc with hc | hc
 ·obtain ⟨oi, oj, hi, hj, q1, q2, q3⟩ := compat_spec hc
  exact aop1_swap hi hj q1 q2 q3 hid hw h
 split at hc
 ·rename_i oi oj hi hj
  simp only [Bool.and_eq_true, beq_iff_eq] at hc
  obtain ⟨⟨⟨hap, m2⟩, m0⟩, k1⟩ := hc
  obtain ⟨a1, a2, a3⟩ := Oper.apart_spec hap
  have hlt : idf j < rows.length := hid j oj hj (by cases hop : oj.op <;> rw [hop] at k1 <;> simp [-opNew, -aeffP, -aeffW, opKind] at k1 <;> (try rfl) <;> (split at k1 <;> simp [-opNew, -aeffP, -aeffW] at k1))
  rcases (aop1_some hi).1 h with ⟨hg, h⟩ | ⟨hg, h⟩
  ·obtain ⟨vi, ri, h2, h1⟩ := aeffM_cont h
   obtain ⟨-, hlen⟩ : True ∧ rows.length ≤ ri.length := by
    obtain ⟨v', r', ⟨⟨-, rfl⟩, hl⟩, -⟩ := aeffM_cont (aeffM_len (fun ha => hid i oi hi ha) (h1 (fun v r => v = vi ∧ r = ri) ⟨rfl, rfl⟩))
    exact ⟨trivial, hl⟩
   rcases (aop1_some hj).1 h2 with ⟨hgj, h2⟩ | ⟨hgj, h2⟩
   ·rw [m0] at h2
    obtain ⟨vj, cs, hf, h3, h4⟩ := aeff_alloc k1 (aeffM_i0.1 h2)
    have hri : ri[idf j]? = some .resv := by
     rcases hf with hf | hf
     ·omega
     ·exact hf
    obtain ⟨hres, hback⟩ := aeffM_slide m2 (fun ha => hid i oi hi ha) (h1 (fun v r => v = vi ∧ r = ri) ⟨rfl, rfl⟩) hlt hri
    have hs1 := sameLook_sput (ops := ops) (s := s) (v := vi) a1
    have hs3 := sameLook_sput (ops := ops) (s := s) (v := vj) a3
    refine (aop1_some hj).2 (.inl ⟨by rw [← hs1.1]; exact hgj, ?_⟩)
    rw [m0]
    refine aeffM_i0.2 (aeff_congr hs1.2 (h4 rows _ (.inr hres) ⟨fun e => by omega, ?_⟩))
    refine (aop1_some hi).2 (.inl ⟨by rw [hs3.1]; exact hg, ?_⟩)
    refine aeffM_congr hs3.symm.2 ?_
    rw [rput_set hlt]
    refine hback cs _ ?_
    rw [sput_comm (fun d hd he => a2 d he hd)]
    have := h3.2
    rw [rput_set (by omega)] at this
    exact this
   ·have hs1 := sameLook_sput (ops := ops) (s := s) (v := vi) a1
    have hs3 := sameLook_sput (ops := ops) (s := s) (v := V.junk) a3
    refine (aop1_some hj).2 (.inr ⟨by rw [← hs1.1]; exact hgj, (aop1_some hi).2 (.inl ⟨by rw [hs3.1]; exact hg, ?_⟩)⟩)
    refine aeffM_congr hs3.symm.2 (h1 _ ?_)
    rw [sput_comm (fun d hd he => a2 d he hd)]
    exact h2
  ·rcases (aop1_some hj).1 h with ⟨hgj, h2⟩ | ⟨hgj, h2⟩
   ·rw [m0] at h2
    obtain ⟨vj, cs, hf, h3, h4⟩ := aeff_alloc k1 (aeffM_i0.1 h2)
    have hs1 := sameLook_sput (ops := ops) (s := s) (v := V.junk) a1
    have hs3 := sameLook_sput (ops := ops) (s := s) (v := vj) a3
    refine (aop1_some hj).2 (.inl ⟨by rw [← hs1.1]; exact hgj, ?_⟩)
    rw [m0]
    refine aeffM_i0.2 (aeff_congr hs1.2 (h4 rows _ hf ⟨fun e => by omega, ?_⟩))
    refine (aop1_some hi).2 (.inr ⟨by rw [hs3.1]; exact hg, ?_⟩)
    rw [sput_comm (fun d hd he => a2 d he hd)]
    exact h3.2
   ·have hs1 := sameLook_sput (ops := ops) (s := s) (v := V.junk) a1
    have hs3 := sameLook_sput (ops := ops) (s := s) (v := V.junk) a3
    refine (aop1_some hj).2 (.inr ⟨by rw [← hs1.1]; exact hgj, (aop1_some hi).2 (.inr ⟨by rw [hs3.1]; exact hg, ?_⟩)⟩)
    rw [sput_comm (fun d hd he => a2 d he hd)]
    exact h2
 ·cases hc

theorem aruns_frontA {i n : Nat} {l2 : List Nat} (hid : ∀ (k : Nat) o, ops[k]? = some o → opAllocs P o.op = true → idf k < n) :
  ∀ (l1 : List Nat) (s : List V) (rows : List Row), n ≤ rows.length → (∀ j ∈ l1, compatA mk ops j i = true) → Wf P F s rows → aruns P F mk ops idf (l1 ++ i :: l2) K s rows → aop1 P F mk ops idf i (aruns P F mk ops idf (l1 ++ l2) K) s rows
 | [], s, rows, _, _, _, h => h
 | j :: l1, s, rows, hl, hc, hw, h => by
  have hid' : ∀ (k : Nat) o, ops[k]? = some o → opAllocs P o.op = true → idf k < rows.length := fun k o h1 h2 => Nat.lt_of_lt_of_le (hid k o h1 h2) hl
  refine aop1_swapA (hc j (by simp [-opNew, -aeffP, -aeffW])) hid' hw (aop1_mono (fun s' r' hw' ⟨h1, h2⟩ => ?_) hw (aop1_len hid' h))
  exact aruns_frontA hid l1 s' r' (Nat.le_trans hl h2) (fun k hk => hc k (by simp [-opNew, -aeffP, -aeffW, hk])) hw' h1

def indepByA (mk : Nat → Nat) (ops : Array Oper) (bs : Array Nat) : Bool :=
 closOk ops bs && (List.range ops.size).all fun i => (List.range i).all fun j => (bs.getD i 0).testBit j || compatA mk ops j i
def indepA (mk : Nat → Nat) (ops : Array Oper) : Bool := indepByA mk ops (clos ops)

theorem any_done {c : Ctx} {Q : Exit → KS} {listed : Array Bool} {a : Act} {w : World} {s : List V} {rows : List Row} (hr : ∀ j, listed.getD j true = false → False) (hc : Conc c s rows a w) (h : K s rows) : ∀ fuel, wpAny P .any ops (lift c (athen K Q)) fuel listed a w
 | 0 => ⟨List.eq_nil_iff_forall_not_mem.2 fun j hj => hr j (mem_ready.1 hj).1, s, rows, h, hc⟩
 | fuel + 1 => ⟨fun _ => ⟨s, rows, h, hc⟩, fun i hi => (hr i (mem_ready.1 hi).1).elim⟩

theorem any_soundT {bs : Array Nat} {n z : Nat} {c : Ctx} {Q : Exit → KS} (go : GOk P c) (hid : ∀ (k : Nat) o, ops[k]? = some o → opAllocs P o.op = true → idf k < n) (hb : indepByA mk ops bs = true) (hz : z + 1 = ops.size) (hzb : ∀ j, j < z → (bs.getD z 0).testBit j = true) :
  ∀ (fuel : Nat) (r : List Nat) (listed : Array Bool) (a : Act) (w : World) (s : List V) (rows : List Row), r.length + 1 ≤ fuel → n ≤ rows.length → Facts F rows → listed.size = ops.size →
   (∀ j, j ∈ r ++ [z] ↔ listed.getD j true = false) → (r ++ [z]).Pairwise (· < ·) → Closed ops listed → Conc c s rows a w → aruns P F mk ops idf r (aruns P [] mk ops idf [z] K) s rows →
   wpAny P .any ops (lift c (athen K Q)) fuel listed a w := by
 have hb1 : closOk ops bs = true := by
  unfold indepByA at hb
  exact (Bool.and_eq_true _ _ ▸ hb).1
 have hb2 : ∀ i j, i < ops.size → j < i → (bs.getD i 0).testBit j = true ∨ compatA mk ops j i = true := by
  intro i j hi hj
  unfold indepByA at hb
  have := (Bool.and_eq_true _ _ ▸ hb).2
  rw [List.all_eq_true] at this
  have := this i (List.mem_range.2 hi)
  rw [List.all_eq_true] at this
  have := this j (List.mem_range.2 hj)
  rwa [Bool.or_eq_true] at this
 have hcs := closSpec_of hb1
 have hoz : ops[z]? = some (ops[z]'(by omega)) := Array.getElem?_eq_getElem (by omega)
 intro fuel
 induction fuel with
 | zero =>
  intro r listed a w s rows hf hl hF hsz hr hp hcl hc h
  omega
 | succ fuel ih =>
  intro r listed a w s rows hf hl hF hsz hr hp hcl hc h
  have hzl : listed.getD z true = false := (hr z).1 (by simp [-opNew, -aeffP, -aeffW])
  refine ⟨fun hnil => ?_, fun i hi => ?_⟩
  ·exfalso
   obtain ⟨j, r', hjr⟩ : ∃ j r', r ++ [z] = j :: r' := by
    cases r with
    | nil => exact ⟨z, [], rfl⟩
    | cons j r => exact ⟨j, r ++ [z], rfl⟩
   rw [hjr] at hr hp
   have hj := (hr j).1 (by simp [-opNew, -aeffP, -aeffW])
   have hjs : j < ops.size := hsz ▸ getD_false_lt hj
   have hoj : ops[j]? = some (ops[j]'hjs) := Array.getElem?_eq_getElem hjs
   have : j ∈ Region.ready .any ops listed := by
    refine mem_ready.2 ⟨hj, _, hoj, fun e he hbd => ?_⟩
    have hlt := hcs.lt j _ e hoj he hbd
    have hnot : e.on ∉ j :: r' := by
     intro hm
     rcases List.mem_cons.1 hm with hm | hm
     ·omega
     ·have := (List.pairwise_cons.1 hp).1 _ hm
      omega
    rw [getD_size (by omega) false true]
    cases hv : listed.getD e.on true with
    | true => rfl
    | false => exact absurd ((hr e.on).2 hv) hnot
   rw [hnil] at this
   cases this
  ·obtain ⟨hi1, o, ho, hpre⟩ := mem_ready.1 hi
   by_cases hiz : i = z
   ·subst hiz
    have hrn : r = [] := by
     refine List.eq_nil_iff_forall_not_mem.2 fun j hj => ?_
     have hlt : j < i := (List.pairwise_append.1 hp).2.2 j hj i (by simp [-opNew, -aeffP, -aeffW])
     have h1 := before_listed hsz hcs hcl i o ho hpre j hlt (hzb j hlt)
     have h2 := (hr j).1 (by simp [-opNew, -aeffP, -aeffW, hj])
     rw [getD_size (getD_false_lt h2) false true, h2] at h1
     cases h1
    subst hrn
    have h0 : aop1 P [] mk ops idf i K s rows := h
    have hW : Wf P [] s rows := ⟨⟨c, a, w, go, hc⟩, facts_nil.2 trivial⟩
    have hlen := aop1_len (idf := idf) (fun k o hk ha => Nat.lt_of_lt_of_le (hid k o hk ha) hl) h0
    have ih' : ∀ a' w' s' rows', n ≤ rows'.length → Conc c s' rows' a' w' → K s' rows' → wpAny P .any ops (lift c (athen K Q)) fuel (listed.setIfInBounds i true) a' w' := by
     intro a' w' s' rows' hl' hc' h'
     refine any_done (fun j hj => ?_) hc' h' fuel
     by_cases hij : i = j
     ·subst hij
      rw [getD_set_self true (getD_false_lt hi1)] at hj
      cases hj
     ·rw [getD_set_ne true hij] at hj
      have := (hr j).2 hj
      simp [-opNew, -aeffP, -aeffW] at this
      exact absurd this.symm hij
    obtain ⟨ro, ρ, g, hs⟩ := hc
    unfold wpOp
    simp only [ho]
    unfold aop1 at hlen
    simp only [ho] at hlen
    rcases wanted_of (c := c) hs hlen with ⟨hw, h⟩ | ⟨hw, h⟩
    ·rw [if_pos hw]
     obtain ⟨draw, id', hae⟩ := aeffM_aeff (facts_nil.2 trivial) h
     refine .inl (oper_wp (c := c) go hs g hae ?_)
     intro v w' r rows' ro' ρ' h1 h2 h3
     exact ih' _ _ _ _ (Nat.le_trans hl h1.2) ⟨ro', ρ', h2, h3⟩ h1.1
    ·rw [if_neg (by simp [-opNew, -aeffP, -aeffW, hw])]
     exact ih' _ _ _ _ hl ⟨ro, ρ, g, hs.put .junk o.dst⟩ h.1
   ·have hir : i ∈ r := by
     have := (hr i).2 hi1
     simp [-opNew, -aeffP, -aeffW] at this
     exact this.resolve_right hiz
    obtain ⟨l1, l2, rfl⟩ := List.append_of_mem hir
    have hp1 := (List.pairwise_append.1 hp).1
    have hlt1 : ∀ j ∈ l1, j < i := fun j hj => (List.pairwise_append.1 hp1).2.2 j hj i (by simp [-opNew, -aeffP, -aeffW])
    have hio : i < ops.size := (Array.getElem?_eq_some_iff.1 ho).1
    have hcomp : ∀ j ∈ l1, compatA mk ops j i = true := by
     intro j hj
     refine (hb2 i j hio (hlt1 j hj)).resolve_left fun hbit => ?_
     have h1 := before_listed hsz hcs hcl i o ho hpre j (hlt1 j hj) hbit
     have h2 := (hr j).1 (by simp [-opNew, -aeffP, -aeffW, hj])
     rw [getD_size (getD_false_lt h2) false true, h2] at h1
     cases h1
    have hW : Wf P F s rows := ⟨⟨c, a, w, go, hc⟩, hF⟩
    have hfront := aop1_mono (K2 := fun s' r' => (aruns P F mk ops idf (l1 ++ l2) (aruns P [] mk ops idf [z] K) s' r' ∧ rows.length ≤ r'.length) ∧ Facts F r') (fun s' r' hw' h' => ⟨h', hw'.2⟩) hW (aop1_len (idf := idf) (fun k o hk ha => Nat.lt_of_lt_of_le (hid k o hk ha) hl) (aruns_frontA hid l1 s rows hl hcomp hW h))
    have ih' : ∀ a' w' s' rows', n ≤ rows'.length → Facts F rows' → Conc c s' rows' a' w' → aruns P F mk ops idf (l1 ++ l2) (aruns P [] mk ops idf [z] K) s' rows' → wpAny P .any ops (lift c (athen K Q)) fuel (listed.setIfInBounds i true) a' w' := by
     intro a' w' s' rows' hl' hF' hc' h'
     have hnod := hp.imp (S := (· ≠ ·)) (fun h => Nat.ne_of_lt h)
     refine ih (l1 ++ l2) _ a' w' s' rows' (by simp [-opNew, -aeffP, -aeffW] at hf ⊢; omega) hl' hF' (by simpa [-opNew, -aeffP, -aeffW] using hsz) (fun j => ?_) ?_ (closed_set hcl ho hpre) hc' h'
     ·by_cases hij : i = j
      ·subst hij
       rw [getD_set_self true (getD_false_lt hi1)]
       constructor
       ·intro hm
        exfalso
        have h1 := List.pairwise_append.1 (List.pairwise_append.1 hnod).1
        rcases List.mem_append.1 hm with hm | hm
        ·rcases List.mem_append.1 hm with hm | hm
         ·exact h1.2.2 i hm i (by simp [-opNew, -aeffP, -aeffW]) rfl
         ·exact (List.pairwise_cons.1 h1.2.1).1 i hm rfl
        ·simp [-opNew, -aeffP, -aeffW] at hm; exact hiz hm
       ·intro h; cases h
      ·rw [getD_set_ne true hij, ← hr j]
       simp [-opNew, -aeffP, -aeffW, Ne.symm hij]
     ·refine hp.sublist ?_
      exact List.Sublist.append (List.Sublist.append (List.Sublist.refl _) (List.sublist_cons_self _ _)) (List.Sublist.refl _)
    obtain ⟨ro, ρ, g, hs⟩ := hc
    unfold wpOp
    simp only [ho]
    unfold aop1 at hfront
    simp only [ho] at hfront
    rcases wanted_of (c := c) hs hfront with ⟨hw, h⟩ | ⟨hw, h⟩
    ·rw [if_pos hw]
     obtain ⟨draw, id', hae⟩ := aeffM_aeff hF h
     refine .inl (oper_wp (c := c) go hs g hae ?_)
     intro v w' r rows' ro' ρ' h1 h2 h3
     exact ih' _ _ _ _ (Nat.le_trans hl h1.1.2) h1.2 ⟨ro', ρ', h2, h3⟩ h1.1.1
    ·rw [if_neg (by simp [-opNew, -aeffP, -aeffW, hw])]
     exact ih' _ _ _ _ hl hF ⟨ro, ρ, g, hs.put .junk o.dst⟩ h.1.1
end

section
variable {P : Program} {ops : Array Oper} {F : List (Nat × Nat × V)} {s : List V} {rows : List Row} {K : KS}

theorem arunD_arunsP (base : Nat) (ms : List Nat) {K' : KS} (hk : ∀ s rows, K s rows → K' s rows) : ∀ (os os2 : List Oper) (t : Nat), ops.toList.drop t = os ++ os2 → ∀ (s : List V) (rows : List Row), arunD P ops F (ms.drop t) os (idAt ops base t) s rows K → aruns P F (markAt ms) ops (idAt ops base) (List.range' t os.length) K' s rows
 | [], os2, t, hd, s, rows, h => hk _ _ h
 | o :: os, os2, t, hd, s, rows, h => by
  have ht : ops.toList[t]? = some o := by
   have := congrArg (fun l => l[0]?) hd
   simpa [-opNew, -aeffP, -aeffW] using this
  have hd' : ops.toList.drop (t + 1) = os ++ os2 := by
   have := congrArg List.tail hd
   simpa [-opNew, -aeffP, -aeffW] using this
  have hid : (if opNew o.op = true then idAt ops base t + 1 else idAt ops base t) = idAt ops base (t + 1) := by
   unfold idAt
   rw [List.take_add_one, ht]
   by_cases hn : opNew o.op = true
   ·simp [-opNew, -aeffP, -aeffW, hn, List.filter_append]; omega
   ·simp [-opNew, -aeffP, -aeffW, hn, List.filter_append]
  have ho : ops[t]? = some o := by simpa [-opNew, -aeffP, -aeffW] using ht
  have ih := fun s rows => arunD_arunsP base ms hk os os2 (t + 1) hd' s rows
  have hm : (ms.drop t).headD 0 = markAt ms t := by
   unfold markAt
   rw [List.headD_eq_head?_getD, List.head?_drop, List.getD_eq_getElem?_getD]
  simp only [arunD, hid, hm, List.tail_drop] at h
  simp only [List.length_cons, List.range'_succ, aruns]
  refine (aop1_some ho).2 ?_
  rcases aguard_iff.1 h with ⟨h1, h2⟩ | ⟨h1, h2⟩
  ·obtain ⟨v, rows', h3, h4⟩ := aeffM_cont h2
   exact .inl ⟨h1, h4 (fun v r => aruns P F (markAt ms) ops (idAt ops base) (List.range' (t + 1) os.length) K' (sput s o.dst v) r) (ih _ _ h3)⟩
  ·exact .inr ⟨h1, ih _ _ h2⟩

theorem awp_region_drawT {n0 id m z : Nat} {Q : Exit → KS} (F : List (Nat × Nat × V)) (hF : Facts F rows) (hn : opsNew ops = m) (ms : List Nat) (os : List Oper) (o : Oper) (id2 : Nat) (hz : ops.toList = os ++ [o]) (hzn : os.length = z) (hid2 : idAt ops rows.length z = id2) (hm : P.follows .mixedOrders = true) (hi : indepA (markAt ms) ops = true)
  (hzb : ((List.range z).all fun j => ((clos ops).getD z 0).testBit j) = true)
  (h : arunD P ops F ms os rows.length s (rows ++ List.replicate m .resv) fun s rows => arunD P ops [] (ms.drop z) [o] id2 s rows (Q .normal)) : AWp P n0 (.region id ops true) Q s rows := by
 subst hn
 subst hzn
 subst hid2
 have hsz : os.length + 1 = ops.size := by have := congrArg List.length hz; simpa [-opNew, -aeffP, -aeffW] using this.symm
 intro c a w hn0 hc
 obtain ⟨ro, ρ, g, hs⟩ := hc
 have hF0 : Facts F (rows ++ List.replicate (opsNew ops) .resv) := fun p hp => by
  obtain ⟨cs, h1, h2⟩ := hF p hp
  exact ⟨cs, by rw [List.getElem?_append_left (List.getElem?_eq_some_iff.1 h1).1]; exact h1, h2⟩
 have hr := arunD_arunsP (P := P) (F := F) rows.length ms (K' := aruns P [] (markAt ms) ops (idAt ops rows.length) [os.length] (Q .normal)) (fun s rows h => ?_) os [o] 0 hz s _ (by simpa [-opNew, -aeffP, -aeffW, idAt] using h)
 refine wp_mono (Q := lift c (athen (Q .normal) Q)) (wp_region_any hm ?_) ?_
 ·refine any_soundT hn0.2 (idf := idAt ops rows.length) (n := rows.length + opsNew ops) (bs := clos ops) ?_ hi hsz (fun j hj => (List.all_eq_true.1 hzb) j (List.mem_range.2 hj)) ops.size (List.range' 0 os.length) _ a _ s _ (by simp [-opNew, -aeffP, -aeffW]; omega) (by simp [-opNew, -aeffP, -aeffW]) hF0 (by simp [-opNew, -aeffP, -aeffW]) ?_ ?_ ?_ ?_ hr
  ·intro k o ho ha
   have hk : k < ops.size := (Array.getElem?_eq_some_iff.1 ho).1
   have hnew := opNew_of ha
   unfold idAt opsNew
   have : ops.toList = ops.toList.take k ++ o :: ops.toList.drop (k + 1) := by
    have hk' : k < ops.toList.length := by simpa [-opNew, -aeffP, -aeffW] using hk
    have he : ops.toList[k]'hk' = o := by
     have := (Array.getElem?_eq_some_iff.1 ho).2
     simpa [-opNew, -aeffP, -aeffW] using this
    rw [← he, List.getElem_cons_drop, List.take_append_drop]
   have h2 := congrArg (fun l => (l.filter fun o => opNew o.op).length) this
   simp only [List.filter_append, List.length_append, List.filter_cons, hnew, if_true, List.length_cons] at h2
   omega
  ·intro j
   rw [List.mem_append, List.mem_range'_1, List.mem_singleton]
   constructor
   ·intro hj
    have : j < ops.size := by omega
    simp [-opNew, -aeffP, -aeffW, this]
   ·intro hj
    have := getD_false_lt hj
    simp [-opNew, -aeffP, -aeffW] at this
    omega
  ·refine List.pairwise_append.2 ⟨List.pairwise_lt_range', by simp [-opNew, -aeffP, -aeffW], fun a ha b hb => ?_⟩
   rw [List.mem_range'_1] at ha
   simp [-opNew, -aeffP, -aeffW] at hb
   omega
  ·intro i o ho hl
   have hi : i < ops.size := (Array.getElem?_eq_some_iff.1 ho).1
   simp [-opNew, -aeffP, -aeffW, hi] at hl
  ·obtain ⟨g1, e1⟩ := g.drew (w.drawn + 1)
   obtain ⟨g2, e2⟩ := g1.reserve (opsNew ops)
   exact ⟨ro, _, g2, (hs.ext e1).ext e2⟩
 ·rintro e a' w' ⟨s', rows', hQ, hc'⟩
  cases e <;> exact ⟨s', rows', hQ, hc'⟩
 ·exact arunD_arunsP (P := P) (F := []) _ ms (fun _ _ h => h) [o] [] os.length (by rw [hz]; simp [-opNew, -aeffP, -aeffW]) s rows h

theorem awp_region_drawL {n0 id m : Nat} {Q : Exit → KS} (F : List (Nat × Nat × V)) (hF : Facts F rows) (hn : opsNew ops = m) (ms : List Nat) (z : Nat) (hz : ops.toList.length = z + 1) (hm : P.follows .mixedOrders = true) (hi : indepA (markAt ms) ops = true)
  (hzb : ((List.range z).all fun j => ((clos ops).getD z 0).testBit j) = true)
  (h : arunD P ops F ms (ops.toList.take z) rows.length s (rows ++ List.replicate m .resv) fun s rows2 => arunD P ops [] (ms.drop z) (ops.toList.drop z) (idAt ops rows.length z) s rows2 (Q .normal)) : AWp P n0 (.region id ops true) Q s rows := by
 obtain ⟨o, ho⟩ : ∃ o, ops.toList.drop z = [o] := List.length_eq_one_iff.1 (by rw [List.length_drop]; omega)
 rw [ho] at h
 exact awp_region_drawT F hF hn ms _ o _ (by rw [← ho, List.take_append_drop]) (by rw [List.length_take]; omega) rfl hm hi hzb h
end
end Go.VS
set_option linter.all false
namespace Go.VS

def EG (P : Program) (f : FuncId) (args : List V) (rows : List (List V)) (R : V → List (List V) → Prop) : Prop :=
 ACalls P f args (lives rows) fun r' rs => ∃ rows', R r' rows' ∧ r'.Pure ∧ rows'.length = rows.length ∧ (∀ x ∈ rows', Pures x) ∧ rs = lives rows'

section
variable {P : Program} {f : FuncId} {args : List V} {rows : List (List V)} {R : V → List (List V) → Prop}

theorem EG.mono {R' : V → List (List V) → Prop} (h : EG P f args rows R) (hr : ∀ r rows', R r rows' → R' r rows') : EG P f args rows R' :=
 ACalls.mono h fun r rs ⟨rows', h1, h2⟩ => ⟨rows', hr _ _ h1, h2⟩

end
end Go.VS
set_option linter.all false
namespace Go.VS
structure Join (n0 : Nat) (K : KS) : Prop where
 le : ∀ s rows s' rows', Le n0 s rows s' rows' → K s' rows' → K s rows
 fz : ∀ (id : Nat) {cs : List V} {s s' : List V} {rows rows' : List Row}, rows[id]? = some (.live cs) → Pures cs → s.map (VS.fz id cs) = s' → (rows.set id .dead).map (fzRow id cs) = rows' → K s' rows' → K s rows
 nz : ∀ {s : List V} {rows rows' : List Row}, rows.map nzRow = rows' → K s rows' → K s rows
theorem awp_seqJ {n0 : Nat} {P : Program} {Q : Exit → KS} {s : List V} {rows : List Row} {x y : Code}
  (h : ∀ K : KS, (∀ s rows, AWp P n0 y Q s rows → K s rows) → Join n0 K → AWp P n0 x (athen K Q) s rows) : AWp P n0 (.seq x y) Q s rows := by
 refine awp_seq fun Ka hKa => awp_mono (h (AWp P n0 y Q) (fun _ _ h => h) ⟨fun _ _ _ _ hl h => awp_le hl h, @fun id cs s s' rows rows' hl hp hs hr h => awp_freeze' id hl hp hs hr h, @fun s rows rows' e h => awp_nz (by rw [e]; exact h)⟩) fun e s rows he => ?_
 cases e <;> first | exact he | exact hKa _ _ he
end Go.VS
set_option linter.all false
namespace Go.VS
theorem Conc.freeze {c : Ctx} {s : List V} {rows : List Row} {a : Act} {w : World} (hc : Conc c s rows a w) (id : Nat) {cs : List V} (hl : rows[id]? = some (.live cs)) (hp : Pures cs) : Conc c (s.map (fz id cs)) ((rows.set id .dead).map (fzRow id cs)) a w := by
 obtain ⟨ro, ρ, g, hs⟩ := hc
 obtain ⟨ro', ρ', g', hr⟩ := g.freeze hl hp
 refine ⟨ro', ρ', g', ?_, hs.nodefer⟩
 refine ⟨by simpa using hs.rds.1, fun i u x hu hx => ?_⟩
 rw [List.getElem?_map] at hx
 cases hq : s[i]? with
 | none => rw [hq] at hx; simp at hx
 | some v =>
  rw [hq] at hx
  simp at hx
  subst hx
  exact hr u v (hs.rds.2 i u v hu hq)
end Go.VS
set_option linter.all false
namespace Go.VS
def aTree (P : Program) (ops : Array Oper) (K : KS) : Nat → Array Bool → KS
 | 0, listed => fun s rows => Region.ready .any ops listed = [] ∧ K s rows
 | n + 1, listed => fun s rows => (Region.ready .any ops listed = [] → K s rows) ∧ ∀ i ∈ Region.ready .any ops listed, ∀ o, ops[i]? = some o → arun P ops [o] s rows (aTree P ops K n (listed.setIfInBounds i true))
theorem aTree_sound {P : Program} {ops : Array Oper} {K : KS} {Q : Exit → KS} {c : Ctx} (go : GOk P c) : ∀ (n : Nat) (listed : Array Bool) (s : List V) (rows : List Row) (a : Act) (w : World), aTree P ops K n listed s rows → Conc c s rows a w → wpAny P .any ops (lift c (athen K Q)) n listed a w := by
 intro n
 induction n with
 | zero => exact fun listed s rows a w h hc => ⟨h.1, s, rows, h.2, hc⟩
 | succ n ih =>
  intro listed s rows a w h hc
  refine ⟨fun hn => ⟨s, rows, h.1 hn, hc⟩, fun i hi => ?_⟩
  obtain ⟨hi1, o, ho, hpre⟩ := mem_ready.1 hi
  have h := h.2 i hi o ho
  obtain ⟨ro, ρ, g, hs⟩ := hc
  unfold wpOp
  simp only [ho]
  simp only [arun] at h
  rcases wanted_of (c := c) hs h with ⟨hw, h⟩ | ⟨hw, h⟩
  ·rw [if_pos hw]
   refine .inl (oper_wp (c := c) go hs g h ?_)
   intro v w' r rows' ro' ρ' h1 h2 h3
   exact ih _ _ _ _ _ h1 ⟨ro', ρ', h2, h3⟩
  ·rw [if_neg (by simp [hw])]
   exact ih _ _ _ _ _ h ⟨ro, ρ, g, hs.put .junk o.dst⟩
theorem awp_region_any {P : Program} {n0 id : Nat} {Q : Exit → KS} {s : List V} {rows : List Row} {ops : Array Oper} (hm : P.follows .mixedOrders = true) (h : aTree P ops (Q .normal) ops.size (Array.replicate ops.size false) s rows) : AWp P n0 (.region id ops true) Q s rows := by
 intro c a w hn0 hc
 obtain ⟨ro, ρ, g, hs⟩ := hc
 refine wp_mono (Q := lift c (athen (Q .normal) Q)) (wp_region_any hm ?_) ?_
 ·obtain ⟨g1, e1⟩ := g.drew (w.drawn + 1)
  exact aTree_sound hn0.2 _ _ s rows a _ h ⟨ro, ρ, g1, hs.ext e1⟩
 ·rintro e a' w' ⟨s', rows', hQ, hc'⟩
  cases e <;> exact ⟨s', rows', hQ, hc'⟩
theorem aTree_one {P : Program} {ops : Array Oper} {K : KS} {n : Nat} {listed : Array Bool} {s : List V} {rows : List Row} (i : Nat) (o : Oper) (hr : Region.ready .any ops listed = [i]) (ho0 : ops.toList[i]? = some o) (h : arun P ops [o] s rows (aTree P ops K n (listed.setIfInBounds i true))) : aTree P ops K (n + 1) listed s rows := by
 have ho : ops[i]? = some o := by simpa using ho0
 refine ⟨fun h0 => by simp [hr] at h0, fun j hj o' ho' => ?_⟩
 rw [hr] at hj
 obtain rfl : j = i := by simpa using hj
 rw [ho] at ho'
 obtain rfl := Option.some.inj ho'
 exact h
theorem aTree_two {P : Program} {ops : Array Oper} {K : KS} {n : Nat} {listed : Array Bool} {s : List V} {rows : List Row} (i j : Nat) (o p : Oper) (hr : Region.ready .any ops listed = [i, j]) (ho0 : ops.toList[i]? = some o) (hp0 : ops.toList[j]? = some p) (h : arun P ops [o] s rows (aTree P ops K n (listed.setIfInBounds i true))) (h2 : arun P ops [p] s rows (aTree P ops K n (listed.setIfInBounds j true))) : aTree P ops K (n + 1) listed s rows := by
 have ho : ops[i]? = some o := by simpa using ho0
 have hp : ops[j]? = some p := by simpa using hp0
 refine ⟨fun h0 => by simp [hr] at h0, fun k hk o' ho' => ?_⟩
 rw [hr] at hk
 rcases (show k = i ∨ k = j by simpa using hk) with rfl | rfl
 ·rw [ho] at ho'
  obtain rfl := Option.some.inj ho'
  exact h
 ·rw [hp] at ho'
  obtain rfl := Option.some.inj ho'
  exact h2
theorem aTree_end {P : Program} {ops : Array Oper} {K : KS} {n : Nat} {listed : Array Bool} {s : List V} {rows : List Row} (hr : Region.ready .any ops listed = []) (h : K s rows) : aTree P ops K n listed s rows := by
 cases n with
 | zero => exact ⟨hr, h⟩
 | succ n => exact ⟨fun _ => h, fun i hi => by rw [hr] at hi; simp at hi⟩
end Go.VS
set_option linter.all false
namespace Go.VS

section
variable {P : Program} {n0 : Nat} {Q : Exit → KS}

def arounds (P : Program) (n0 : Nat) (code : Code) (Q : Exit → KS) : Nat → KS
 | 0 => fun _ _ => False
 | n + 1 => fun s rows => AWp P n0 code (athen (arounds P n0 code Q n) Q) s rows

theorem arounds_sound {code : Code} {c : Ctx} (hn : c.ρ.length = n0 ∧ GOk P c) : ∀ (n : Nat) (s : List V) (rows : List Row) (a : Act) (w : World), arounds P n0 code Q n s rows → Conc c s rows a w → Code.rounds P code (lift c Q) n a w
 | 0, _, _, _, _, h, _ => h.elim
 | n + 1, s, rows, a, w, h, hc => by
  rw [rounds_succ]
  refine wp_mono (h c a w hn hc) ?_
  rintro e a' w' ⟨s', rows', hQ, hc'⟩
  cases e with
  | normal => exact arounds_sound hn n s' rows' a' w' hQ hc'
  | exit id => exact ⟨s', rows', hQ, hc'⟩
  | goto l => exact ⟨s', rows', hQ, hc'⟩
  | ret => exact ⟨s', rows', hQ, hc'⟩
  | panic ch => exact ⟨s', rows', hQ, hc'⟩
  | outgrown => exact ⟨s', rows', hQ, hc'⟩

theorem awp_rounds {code : Code} {s : List V} {rows : List Row} (n : Nat) (h : ∀ KL : Nat → KS, (∀ m s rows, AWp P n0 code (athen (KL m) Q) s rows → KL (m + 1) s rows) → AWp P n0 code (athen (KL n) Q) s rows) : AWp P n0 (.loop code) Q s rows := by
 intro c a w hn hc
 refine wp_loop_rounds (n + 1) (arounds_sound hn (n + 1) s rows a w ?_ hc)
 exact h (arounds P n0 code Q) fun m s rows h => h
end
end Go.VS
set_option linter.all false
namespace Go.VS
section
variable {P : Program} {n0 : Nat} {Q : Exit → KS} {s : List V} {rows : List Row}
theorem awp_scope {x : Code} (hQ : ∀ l s rows, ¬ Q (.goto l) s rows) (h : AWp P n0 x Q s rows) : AWp P n0 (.scope x) Q s rows := by
 intro c a w hn hc
 refine wp_scope_straight (wp_mono (h c a w hn hc) ?_)
 rintro e a' w' ⟨s', rows', hq, hc'⟩
 cases e with
 | goto l => exact absurd hq (hQ l s' rows')
 | normal => exact ⟨s', rows', hq, hc'⟩
 | exit id => exact ⟨s', rows', hq, hc'⟩
 | ret => exact ⟨s', rows', hq, hc'⟩
 | panic ch => exact ⟨s', rows', hq, hc'⟩
 | outgrown => exact ⟨s', rows', hq, hc'⟩
theorem awp_scope_end {x : Code} {rs : List ResultVar} {R : V → List Row → Prop} (h : AWp P n0 x (aend P rs R) s rows) : AWp P n0 (.scope x) (aend P rs R) s rows :=
 awp_scope (fun l s rows h => h) h
end
end Go.VS
set_option linter.all false
namespace Go.VS
theorem fz_own {id n sz : Nat} {cs : List V} (h : n * sz = cs.length) : fz id cs (.osl id 0 n sz) = .sl n cs := by
 simp only [fz]
 rw [if_pos ⟨trivial, by omega⟩, List.drop_zero, List.take_of_length_le (by omega)]
theorem fz_osln {id j off n sz : Nat} {cs : List V} (h : j ≠ id) : fz id cs (.osl j off n sz) = .osl j off n sz := by
 simp only [fz]
 rw [if_neg (fun e => h e.1)]
theorem fz_refn {id j off : Nat} {cs : List V} (h : j ≠ id) : fz id cs (.ref j off) = .ref j off := by
 simp only [fz]
 rw [if_neg (fun e => h e.1)]
end Go.VS

set_option linter.all false
namespace Go.VS
theorem Zz {P : Program} {n0 : Nat} {Q : Exit → KS} {s s' : List V} {rows rows' : List Row} {code : Code} (id : Nat) {cs : List V} (h : AWp P n0 code Q s' rows') (hl : rows[id]? = some (.live cs) := by rfl) (hp : Pures cs := by simp) (hs : s.map (fz id cs) = s' := by simp [fz_pure, fz_own, fz_osln, fz_refn]; rfl) (hr : (rows.set id .dead).map (fzRow id cs) = rows' := by simp [fzRow, fz_pure, fz_own, fz_osln, fz_refn]; rfl) : AWp P n0 code Q s rows := awp_freeze' id hl hp hs hr h
end Go.VS
