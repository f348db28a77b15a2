/-
 STEP: copies of slices.
 Conditions: none.
-/
import Derived.Test.YtnpndfmbkmbhbaaGreatDoorGi
import Derived.Test.YtnpndfmbkmbhbaaGreatDoorGh
set_option maxRecDepth 100000
set_option maxHeartbeats 32000000
namespace Go.Proofs.YtnpndfmbkmbhbaaGreatDoor
open Go.Proofs.Tryz
open Go.VS
set_option linter.all false
attribute [local irreducible] arun arunD AWp aend
theorem pcall_nz {P : Program} {f : FuncId} {args : List V} (h : PCall P f args .nils) : PCall P f args (.sl 0 []) :=
 ⟨.sl, h.2.1, fun w ro ρ vs g go ha => (h.2.2 w ro ρ vs g go ha).mono fun e w' ⟨v, r', rows', ro', ρ', h1, h2, h3, h4⟩ => by
  subst h2
  obtain rfl := rd_nils h4
  exact ⟨_, _, rows', ro', ρ', h1, rfl, h3, .sl0⟩⟩
theorem acalls_empty {P : Program} {f : FuncId} {args : List V} {rows : List Row} {R : V → List Row → Prop} (h1 : ACalls P f (.nils :: args) rows R) (h2 : ∀ (a : Addr) (c : Nat), ACalls P f (.val (.slice (some a) 0 c) :: args) rows R) : ACalls P f (.sl 0 [] :: args) rows R := by
 refine ⟨h1.1, fun w ro ρ vs g go ha => ?_⟩
 obtain ⟨l, hl⟩ : ∃ l, vs.toList = l := ⟨_, rfl⟩
 match l, hl with
 | [], hl => exact absurd ha.1 (by simp [hl])
 | u :: us, hl =>
  have hu := ha.2 0 u (.sl 0 []) (by simp [hl]) rfl
  have htl : ∀ x, Rd w ro ρ u x → Rds w ro ρ vs.toList (x :: args) := fun x hx => ⟨by simpa using ha.1, fun i v y hv hy => by
   cases i with
   | zero => simp [hl] at hv hy; subst hv; subst hy; exact hx
   | succ i => exact ha.2 (i + 1) v y hv (by simpa using hy)⟩
  cases hu with
  | sl0 => exact h1.2 w ro ρ vs g go (htl _ .nils)
  | @slz _ a cap => exact (h2 a cap).2 w ro ρ vs g go (htl _ .val)
  | @sl _ a _ cap us' q1 q2 q3 q4 q5 q6 => exact (h2 a cap).2 w ro ρ vs g go (htl _ .val)
theorem aeq_val_nils {P : Program} {t d e n c : Nat} {a : Addr} (h : uslice P t = some e) : aeq P (d + 1) t (.val (.slice (some a) n c)) .nils = some false := by simp [aeq, uslice_of h]
theorem pcall_empty {P : Program} {f : FuncId} {args : List V} {r : V} (h1 : PCall P f (.nils :: args) r) (h2 : ∀ (a : Addr) (c : Nat), PCall P f (.val (.slice (some a) 0 c) :: args) r) : PCall P f (.sl 0 [] :: args) r :=
 ⟨h1.1, acalls_empty h1.2 fun a c => (h2 a c).2⟩
theorem gcall_empty {P : Program} {f : FuncId} {args : List V} {rows rows' : List (List V)} {r : V} (h1 : GCall P f (.nils :: args) rows rows' r) (h2 : ∀ (a : Addr) (c : Nat), GCall P f (.val (.slice (some a) 0 c) :: args) rows rows' r) : GCall P f (.sl 0 [] :: args) rows rows' r :=
 acalls_empty h1 h2


theorem aeqn_rdns (d : Nat) : aeq prog (d + 1) 26 .nils .nils = some true := aeq_nils (e := 91) (by kernel_rfl)
theorem aeqs_rdns (d n : Nat) (c : List V) : aeq prog (d + 1) 26 (.sl (n + 1) c) .nils = some false := aeq_sl_nils (e := 91) (by kernel_rfl)
theorem aeqv_rdns (d n c : Nat) (a : Addr) : aeq prog (d + 1) 26 (.val (.slice (some a) n c)) .nils = some false := aeq_val_nils (e := 91) (by kernel_rfl)
theorem clonew_rdns (n : Nat) (cells : List V) (hl : cells.length = n * 1) (hn : n ≤ 1048576) (h1 : ∀ x ∈ cells, x.one = true) (hp : Pures cells) : GCall prog 182 [.sl n cells] [] [cells] (.osl 0 0 n 1) := by
 cases n with
 | zero =>
  obtain rfl : cells = [] := List.eq_nil_of_length_eq_zero (by simpa using hl)
  refine gcall_empty ?_ fun a c => ?_
  ·refine gcall_body func182 rfl call182 ?_
   refine awp_slots (s' := (.nils : V) :: zJ 7) rfl ?_; dsimp only [zJ]
   refine awp_rows (rows' := []) rfl ?_
   repeat' (first | (refine Zu ?_; intro K9 h9; simp (disch := first | exact dd | fail) [aeqn_rdns, aeqv_rdns]; refine Zm ?_; refine Zf h9 ?_; clear h9 K9) | refine Zt ?_ | refine Y8 fun K hK => ?_ | (apply hK; clear hK K) | (refine Yb rfl ?_ ?_ <;> intro hcnd <;> (try simp at hcnd) <;> try exact dc) | refine Zx ?_ | clear hK K)
   exact Yr [none] (by simp [rowsOver])
  ·refine gcall_body func182 rfl call182 ?_
   refine awp_slots (s' := (.val (.slice (some a) 0 c) : V) :: zJ 7) rfl ?_; dsimp only [zJ]
   refine awp_rows (rows' := []) rfl ?_
   repeat' (first | (refine Zu ?_; intro K9 h9; simp (disch := first | exact dd | fail) [aeqn_rdns, aeqv_rdns]; refine Zm ?_; refine Zf h9 ?_; clear h9 K9) | refine Zt ?_ | refine Y8 fun K hK => ?_ | (apply hK; clear hK K) | (refine Yb rfl ?_ ?_ <;> intro hcnd <;> (try simp at hcnd) <;> try exact dc) | refine Zx ?_ | clear hK K)
   exact Yr [some 1] (by simp [rowsOver])
 | succ n =>
  refine gcall_body func182 rfl call182 ?_
  refine awp_slots (s' := (.sl (n + 1) cells : V) :: zJ 7) rfl ?_; dsimp only [zJ]
  refine awp_rows (rows' := []) rfl ?_
  repeat' (first | (refine Zu ?_; intro K9 h9; simp (disch := first | exact dd | fail) [hl, h1, aeqs_rdns]; refine Zm ?_; refine Zf h9 ?_; clear h9 K9) | refine Zt ?_ | refine Y8 fun K hK => ?_ | (apply hK; clear hK K) | (refine Yb rfl ?_ ?_ <;> intro hcnd <;> (try simp at hcnd) <;> try exact dc) | refine Zx ?_ | clear hK K)
  exact Yr [some 1] (by simp [rowsOver, rowRen_live, rens_pures hp])

theorem aeqn_atts (d : Nat) : aeq prog (d + 1) 91 .nils .nils = some true := aeq_nils (e := 90) (by kernel_rfl)
theorem aeqs_atts (d n : Nat) (c : List V) : aeq prog (d + 1) 91 (.sl (n + 1) c) .nils = some false := aeq_sl_nils (e := 90) (by kernel_rfl)
theorem aeqv_atts (d n c : Nat) (a : Addr) : aeq prog (d + 1) 91 (.val (.slice (some a) n c)) .nils = some false := aeq_val_nils (e := 90) (by kernel_rfl)
theorem clone_atts (n : Nat) (cells : List V) (hl : cells.length = n * 3) (hn : n ≤ 1048576) (h1 : ∀ x ∈ cells, x.one = true) (hp : Pures cells) : PCall prog 183 [.sl n cells] (.sl n cells) := by
 cases n with
 | zero =>
  obtain rfl : cells = [] := List.eq_nil_of_length_eq_zero (by simpa using hl)
  refine pcall_empty (pcall_nz ?_) fun a c => ?_
  ·refine pcall_body func183 rfl call183 ?_ ?_
   rotate_left 1
   refine awp_slots (s' := (.nils : V) :: zJ 7) rfl ?_; dsimp only [zJ]
   repeat' (first | (refine Zu ?_; intro K9 h9; simp (disch := first | exact dd | fail) [aeqn_atts, aeqv_atts]; refine Zm ?_; refine Zf h9 ?_; clear h9 K9) | refine Zt ?_ | refine Y8 fun K hK => ?_ | (apply hK; clear hK K) | (refine Yb rfl ?_ ?_ <;> intro hcnd <;> (try simp at hcnd) <;> try exact dc) | refine Zx ?_ | clear hK K)
   ·exact .pure .nils
   ·exact .nils
  ·refine pcall_body func183 rfl call183 ?_ ?_
   rotate_left 1
   refine awp_slots (s' := (.val (.slice (some a) 0 c) : V) :: zJ 7) rfl ?_; dsimp only [zJ]
   repeat' (first | (refine Zu ?_; intro K9 h9; simp (disch := first | exact dd | fail) [aeqn_atts, aeqv_atts]; refine Zm ?_; refine Zf h9 ?_; clear h9 K9) | refine Zt ?_ | refine Y8 fun K hK => ?_ | (apply hK; clear hK K) | (refine Yb rfl ?_ ?_ <;> intro hcnd <;> (try simp at hcnd) <;> try exact dc) | refine Zx ?_ | clear hK K)
   ·exact view_row rfl (by simp) (by simp)
   ·exact .sl
 | succ n =>
  refine pcall_body func183 rfl call183 ?_ ?_
  rotate_left 1
  refine awp_slots (s' := (.sl (n + 1) cells : V) :: zJ 7) rfl ?_; dsimp only [zJ]
  repeat' (first | (refine Zu ?_; intro K9 h9; simp (disch := first | exact dd | fail) [hl, h1, aeqs_atts]; refine Zm ?_; refine Zf h9 ?_; clear h9 K9) | refine Zt ?_ | refine Y8 fun K hK => ?_ | (apply hK; clear hK K) | (refine Yb rfl ?_ ?_ <;> intro hcnd <;> (try simp at hcnd) <;> try exact dc) | refine Zx ?_ | clear hK K)
  ·exact view_row rfl (by simp [hl]) hp
  ·exact .sl
theorem aeqn_gens (d : Nat) : aeq prog (d + 1) 29 .nils .nils = some true := aeq_nils (e := 145) (by kernel_rfl)
theorem aeqs_gens (d n : Nat) (c : List V) : aeq prog (d + 1) 29 (.sl (n + 1) c) .nils = some false := aeq_sl_nils (e := 145) (by kernel_rfl)
theorem aeqv_gens (d n c : Nat) (a : Addr) : aeq prog (d + 1) 29 (.val (.slice (some a) n c)) .nils = some false := aeq_val_nils (e := 145) (by kernel_rfl)
theorem clonew_gens (n : Nat) (cells : List V) (hl : cells.length = n * 3) (hn : n ≤ 1048576) (h1 : ∀ x ∈ cells, x.one = true) (hp : Pures cells) : GCall prog 214 [.sl n cells] [] [cells] (.osl 0 0 n 3) := by
 cases n with
 | zero =>
  obtain rfl : cells = [] := List.eq_nil_of_length_eq_zero (by simpa using hl)
  refine gcall_empty ?_ fun a c => ?_
  ·refine gcall_body func214 rfl call214 ?_
   refine awp_slots (s' := (.nils : V) :: zJ 7) rfl ?_; dsimp only [zJ]
   refine awp_rows (rows' := []) rfl ?_
   repeat' (first | (refine Zu ?_; intro K9 h9; simp (disch := first | exact dd | fail) [aeqn_gens, aeqv_gens]; refine Zm ?_; refine Zf h9 ?_; clear h9 K9) | refine Zt ?_ | refine Y8 fun K hK => ?_ | (apply hK; clear hK K) | (refine Yb rfl ?_ ?_ <;> intro hcnd <;> (try simp at hcnd) <;> try exact dc) | refine Zx ?_ | clear hK K)
   exact Yr [none] (by simp [rowsOver])
  ·refine gcall_body func214 rfl call214 ?_
   refine awp_slots (s' := (.val (.slice (some a) 0 c) : V) :: zJ 7) rfl ?_; dsimp only [zJ]
   refine awp_rows (rows' := []) rfl ?_
   repeat' (first | (refine Zu ?_; intro K9 h9; simp (disch := first | exact dd | fail) [aeqn_gens, aeqv_gens]; refine Zm ?_; refine Zf h9 ?_; clear h9 K9) | refine Zt ?_ | refine Y8 fun K hK => ?_ | (apply hK; clear hK K) | (refine Yb rfl ?_ ?_ <;> intro hcnd <;> (try simp at hcnd) <;> try exact dc) | refine Zx ?_ | clear hK K)
   exact Yr [some 1] (by simp [rowsOver])
 | succ n =>
  refine gcall_body func214 rfl call214 ?_
  refine awp_slots (s' := (.sl (n + 1) cells : V) :: zJ 7) rfl ?_; dsimp only [zJ]
  refine awp_rows (rows' := []) rfl ?_
  repeat' (first | (refine Zu ?_; intro K9 h9; simp (disch := first | exact dd | fail) [hl, h1, aeqs_gens]; refine Zm ?_; refine Zf h9 ?_; clear h9 K9) | refine Zt ?_ | refine Y8 fun K hK => ?_ | (apply hK; clear hK K) | (refine Yb rfl ?_ ?_ <;> intro hcnd <;> (try simp at hcnd) <;> try exact dc) | refine Zx ?_ | clear hK K)
  exact Yr [some 1] (by simp [rowsOver, rowRen_live, rens_pures hp])
end Go.Proofs.YtnpndfmbkmbhbaaGreatDoor
namespace Go.Stp
open Go.VS

structure At where
 t : List UInt8
 k : Int
 v : List UInt8
 deriving DecidableEq
abbrev Nm := List (List At)
structure Gn where
 kind : Int
 text : List UInt8
 name : Nm
 deriving DecidableEq
structure Sb where
 p : List Gn
 x : List Gn
 deriving DecidableEq
structure Ky where
 h : Int
 id : List UInt8
 root : List UInt8
 deriving DecidableEq
structure An where
 n : Nm
 k : Ky
 deriving DecidableEq

def At.c (a : At) : List V := [.str a.t, .int .i64 a.k, .str a.v]
def atsV (r : List At) : V := .sl r.length (r.flatMap At.c)
def Gn.c (g : Gn) : List V := [.int .i64 g.kind, .str g.text, .sl g.name.length (g.name.map atsV)]
def gnsV (l : List Gn) : V := .sl l.length (l.flatMap Gn.c)
def Sb.c (s : Sb) : List V := [gnsV s.p, gnsV s.x]
def sbsV (l : List Sb) : V := .sl l.length (l.flatMap Sb.c)
def Ky.c (k : Ky) : List V := [.int .i64 k.h, .str k.id, .str k.root]
def nmV (n : Nm) : V := .sl n.length (n.map atsV)
def An.c (a : An) : List V := [nmV a.n, .int .i64 a.k.h, .str a.k.id, .str a.k.root]
def ansV (l : List An) : V := .sl l.length (l.flatMap An.c)

theorem flat_len {α β : Type} {f : α → List β} {m : Nat} (h : ∀ a, (f a).length = m) : ∀ l : List α, (l.flatMap f).length = l.length * m
 | [] => by simp
 | a :: l => by rw [List.flatMap_cons, List.length_append, h, flat_len h l, List.length_cons, Nat.succ_mul]; omega
theorem flat_at {α β : Type} {f : α → List β} {m : Nat} (h : ∀ a, (f a).length = m) : ∀ (l : List α) (i : Nat) (hi : i < l.length), ((l.flatMap f).drop (i * m)).take m = f l[i]
 | [], i, hi => by simp at hi
 | a :: l, 0, hi => by simp [h]
 | a :: l, i + 1, hi => by
  have := flat_at h l i (by simpa using hi)
  rw [List.flatMap_cons, Nat.succ_mul, Nat.add_comm, ← List.drop_drop, ← h a, List.drop_left, h a]
  simpa using this
theorem take_drop_split {β : Type} (l : List β) (i m : Nat) : l = l.take i ++ ((l.drop i).take m ++ l.drop (i + m)) := by
 rw [← List.drop_drop, List.take_append_drop, List.take_append_drop]
theorem lput_same (cs : List V) (off : Nat) (new : List V) (h : (cs.drop off).take new.length = new) (hl : off + new.length ≤ cs.length) : lput cs off new = cs := by
 rw [lput_eq hl]
 conv => rhs; rw [take_drop_split cs off new.length, h]
 rw [List.append_assoc]
theorem acallF_nsl {P : Program} {f : FuncId} {args2 row : List V} {n sz : Nat} {rows : List Row} {k : KV} (hc : GCall P f args2 [] [row] (.osl 0 0 n sz)) (hp : Pures row) (ha : ∀ x ∈ args2, x.Pure) (hk : k (.osl rows.length 0 n sz) (rows ++ [.live row])) : acallF P f args2 rows k :=
 acallF_gen (rows' := []) (news := [row]) (rc := .osl rows.length 0 n sz) [] [] [row] hc List.nodup_nil (by simp [rowsOver]) (rens_self ha) rfl rfl (by simp [rens_pures hp]) (by simp [behind]) (by simpa using hk)
theorem acall_nsl {P : Program} {f : FuncId} {cap args2 row : List V} {n sz : Nat} {rows : List Row} {k : KV} (hc : GCall P f (args2 ++ cap) [] [row] (.osl 0 0 n sz)) (hp : Pures row) (ha : ∀ x ∈ args2 ++ cap, x.Pure) (hk : k (.osl rows.length 0 n sz) (rows ++ [.live row])) : acall P false (.fn (.func f) cap) args2 rows k :=
 .inr ⟨rfl, acallF_acallW (acallF_nsl hc hp ha hk)⟩

@[simp] theorem At.c_len (a : At) : a.c.length = 3 := rfl
@[simp] theorem Gn.c_len (a : Gn) : a.c.length = 3 := rfl
@[simp] theorem Sb.c_len (a : Sb) : a.c.length = 2 := rfl
@[simp] theorem An.c_len (a : An) : a.c.length = 4 := rfl
@[simp] theorem ats_len (r : List At) : (r.flatMap At.c).length = r.length * 3 := flat_len At.c_len r
@[simp] theorem gns_len (r : List Gn) : (r.flatMap Gn.c).length = r.length * 3 := flat_len Gn.c_len r
@[simp] theorem sbs_len (r : List Sb) : (r.flatMap Sb.c).length = r.length * 2 := flat_len Sb.c_len r
@[simp] theorem ans_len (r : List An) : (r.flatMap An.c).length = r.length * 4 := flat_len An.c_len r
@[simp] theorem atsV_pure (r : List At) : (atsV r).Pure := .sl
@[simp] theorem gnsV_pure (r : List Gn) : (gnsV r).Pure := .sl
@[simp] theorem sbsV_pure (r : List Sb) : (sbsV r).Pure := .sl
@[simp] theorem ansV_pure (r : List An) : (ansV r).Pure := .sl
@[simp] theorem nmV_pure (r : Nm) : (nmV r).Pure := .sl
@[simp] theorem atsV_one (r : List At) : (atsV r).one = true := rfl
@[simp] theorem gnsV_one (r : List Gn) : (gnsV r).one = true := rfl
@[simp] theorem sbsV_one (r : List Sb) : (sbsV r).one = true := rfl
@[simp] theorem ansV_one (r : List An) : (ansV r).one = true := rfl
@[simp] theorem nmV_one (r : Nm) : (nmV r).one = true := rfl
theorem flat_pures {α : Type} {f : α → List V} (h : ∀ a, Pures (f a)) (l : List α) : Pures (l.flatMap f) := fun x hx => by
 obtain ⟨a, _, ha⟩ := List.mem_flatMap.1 hx
 exact h a x ha
theorem flat_one {α : Type} {f : α → List V} (h : ∀ a, ∀ x ∈ f a, x.one = true) (l : List α) : ∀ x ∈ l.flatMap f, x.one = true := fun x hx => by
 obtain ⟨a, _, ha⟩ := List.mem_flatMap.1 hx
 exact h a x ha
@[simp] theorem At.c_pures (a : At) : Pures a.c := by simp [At.c]
@[simp] theorem Gn.c_pures (a : Gn) : Pures a.c := by simp [Gn.c]
@[simp] theorem Sb.c_pures (a : Sb) : Pures a.c := by simp [Sb.c]
@[simp] theorem An.c_pures (a : An) : Pures a.c := by simp [An.c]
theorem At.c_one (a : At) : ∀ x ∈ a.c, x.one = true := by simp [At.c, V.one]
theorem Gn.c_one (a : Gn) : ∀ x ∈ a.c, x.one = true := by simp [Gn.c, V.one]
theorem Sb.c_one (a : Sb) : ∀ x ∈ a.c, x.one = true := by simp [Sb.c]
theorem An.c_one (a : An) : ∀ x ∈ a.c, x.one = true := by simp [An.c]
@[simp] theorem ats_pures (r : List At) : Pures (r.flatMap At.c) := flat_pures At.c_pures r
@[simp] theorem gns_pures (r : List Gn) : Pures (r.flatMap Gn.c) := flat_pures Gn.c_pures r
@[simp] theorem sbs_pures (r : List Sb) : Pures (r.flatMap Sb.c) := flat_pures Sb.c_pures r
@[simp] theorem ans_pures (r : List An) : Pures (r.flatMap An.c) := flat_pures An.c_pures r
@[simp] theorem nms_pures (n : Nm) : Pures (n.map atsV) := fun x hx => by
 obtain ⟨a, _, rfl⟩ := List.mem_map.1 hx
 exact .sl
theorem nms_one (n : Nm) : ∀ x ∈ n.map atsV, x.one = true := fun x hx => by
 obtain ⟨a, _, rfl⟩ := List.mem_map.1 hx
 rfl

def WN (n : Nm) : Prop := n.length ≤ 65536 ∧ ∀ r ∈ n, r.length ≤ 65536 ∧ ∀ a ∈ r, a.v.length ≤ 65536
def WE (g : Gn) : Prop := WN g.name ∧ g.text.length ≤ 65536
def WG (l : List Gn) : Prop := l.length ≤ 65536 ∧ ∀ g ∈ l, WE g
def WS (s : Sb) : Prop := WG s.p ∧ WG s.x
def WA (l : List An) : Prop := l.length ≤ 65536 ∧ ∀ a ∈ l, WN a.n
end Go.Stp
namespace Go.Proofs.YtnpndfmbkmbhbaaGreatDoor
open Go.Proofs.Tryz
open Go.VS Go.Stp
set_option linter.all false
attribute [local irreducible] arun arunD AWp aend
theorem cname_call (n : Nm) (hn : WN n) : PCall prog 154 [.agg [nmV n]] (.agg [nmV n]) := by
 unfold nmV
 refine pcall_body func154 rfl call154 ?_ ?_
 rotate_left 1
 refine awp_slots (s' := (.agg [.sl n.length (n.map atsV)] : V) :: zJ 24) rfl ?_; dsimp only [zJ]
 have hc := clonew_rdns n.length (n.map atsV) (by simp) (by have := hn.1; omega) (nms_one n) (nms_pures n)
 repeat' (first | (refine Zu ?_; intro K9 h9; refine Zd ?_; ((first | refine acall_nsl hc (nms_pures n) (by simp) ?_ | skip) <;> (refine Zf h9 ?_; clear h9 K9))) | refine Zt ?_ | refine Y8 fun K hK => ?_ | (apply hK; clear hK K) | (refine Zk 0 [] ?_; refine Zl ?_) | (refine Yb rfl ?_ ?_ <;> intro hcnd <;> (try simp at hcnd) <;> try exact dc) | refine Zx ?_ | clear hK K)
 ·refine awp_countU (fun i => (some V.junk :: zN 2 (zS 7 (zN 2 (some (V.int .i64 i) :: zS 12 []))))) (fun i => [.live [.osl 2 0 n.length 1], .live [.nils], .live (n.map atsV)]) n.length ?_ fun i hi KL hL => ?_
  ·dsimp only [ups, zN, zS]
   exact Yr [some 0, some 1, some 2] (by simp [rowsOver, rowRen_live, rens_pures (nms_pures n)])
  dsimp only [ups, zN, zS]
  have hln := hn.1
  rcases Nat.lt_or_ge i n.length with hi | hi
  ·have hcl := clone_atts n[i].length (n[i].flatMap At.c) (ats_len _) (by have := (hn.2 _ (List.getElem_mem hi)).1; omega) (flat_one At.c_one _) (ats_pures _)
   have hset : (n.map atsV).set i (atsV n[i]) = n.map atsV := set_self (by simp [hi])
   obtain ⟨x, hxx⟩ : ∃ x, n[i] = x := ⟨_, rfl⟩
   rw [hxx] at hcl hset
   have hset2 : (n.map atsV).set i (.sl x.length (x.flatMap At.c)) = n.map atsV := hset
   repeat' (first | (refine Zu ?_; intro K9 h9; simp (disch := first | exact dd | fail) [hxx, atsV, hset2]; refine Zm ?_; ((first | refine ⟨_, hcl, ?_⟩ | skip) <;> (refine Zf h9 ?_; clear h9 K9))) | refine Zt ?_ | refine Y8 fun K hK => ?_ | (apply hK; clear hK K) | ((first | refine Zk 0 [0, 0, 0, 0, 1, 0, 0] ?_ | refine Zk 0 [] ?_); refine Zl ?_) | (refine Yb rfl ?_ ?_ <;> intro hcnd <;> (try simp at hcnd) <;> try exact dc) | refine Zx ?_ | clear hK K)
   refine hL _ _ hi ?_
   exact Yr [some 0, some 1, some 2] (by simp [rowsOver, rowRen_live, hset2, rens_pures (nms_pures n)])
  ·obtain rfl : i = n.length := by omega
   repeat' (first | refine Zq ?_ | refine Zt ?_ | refine Y8 fun K hK => ?_ | (apply hK; clear hK K) | (refine Zk 0 [] ?_; refine Zl ?_) | (refine Yb rfl ?_ ?_ <;> intro hcnd <;> (try simp at hcnd) <;> try exact dc) | refine Zx ?_ | clear hK K)
   simp
   exact view_agg ⟨view_row rfl (by simp) (nms_pures n), trivial⟩
 ·simp



theorem cgen_call (x : Gn) (hx : WN x.name) : PCall prog 181 [.agg x.c] (.agg x.c) := by
 have hn := cname_call x.name hx
 show PCall _ _ [.agg [.int .i64 x.kind, .str x.text, .sl x.name.length (x.name.map atsV)]] (.agg [.int .i64 x.kind, .str x.text, .sl x.name.length (x.name.map atsV)])
 unfold nmV at hn
 refine pcall_body func181 rfl call181 ?_ ?_
 rotate_left 1
 refine awp_slots (s' := (.agg [.int .i64 x.kind, .str x.text, .sl x.name.length (x.name.map atsV)] : V) :: zJ 7) rfl ?_; dsimp only [zJ]
 repeat' (first | (refine Zu ?_; intro K9 h9; refine Zd ?_; ((first | refine Ap hn ?_ | skip) <;> (refine Zf h9 ?_; clear h9 K9))) | refine Zt ?_ | refine Y8 fun K hK => ?_ | (apply hK; clear hK K) | refine Zx ?_ | clear hK K)
 ·simp
  exact .pure (by simp)
 ·simp


theorem gens_at (r : List Gn) (i : Nat) (h : i < r.length) : ((r.flatMap Gn.c).drop (i * 3)).take 3 = r[i].c := flat_at Gn.c_len r i h
theorem each_gens_call (l : List Gn) (hl : l.length ≤ 65536) (hw : ∀ x ∈ l, WN x.name) : PCall prog 180 [.sl l.length (l.flatMap Gn.c), .fn (.func 181) []] (.sl l.length (l.flatMap Gn.c)) := by
 refine pcall_body func180 rfl call180 ?_ ?_
 rotate_left 1
 refine awp_slots (s' := (.sl l.length (l.flatMap Gn.c) : V) :: (.fn (.func 181) [] : V) :: zJ 22) rfl ?_; dsimp only [zJ]
 have hc := clonew_gens l.length (l.flatMap Gn.c) (flat_len Gn.c_len l) (by omega) (flat_one Gn.c_one l) (gns_pures l)
 have hll := flat_len Gn.c_len l
 have hcells : ∀ i (h : i < l.length), ((l.flatMap Gn.c).drop (i * 3)).take 3 = l[i].c := gens_at l
 have hcall : ∀ x ∈ l, PCall prog 181 [.agg x.c] (.agg x.c) := fun x hx => cgen_call x (hw x hx)
 have hpu := gns_pures l
 generalize l.flatMap Gn.c = cells at *
 repeat' (first | (refine Zu ?_; intro K9 h9; refine Zd ?_; ((first | refine acall_nsl hc hpu (by simp) ?_ | skip) <;> (refine Zf h9 ?_; clear h9 K9))) | refine Zt ?_ | refine Y8 fun K hK => ?_ | (apply hK; clear hK K) | (refine Yb rfl ?_ ?_ <;> intro hcnd <;> (try simp at hcnd) <;> try exact dc) | refine Zx ?_ | clear hK K)
 ·refine awp_countU (fun i => (zN 4 (zS 5 (zN 2 (some (V.int .i64 i) :: zS 12 []))))) (fun i => [.live cells]) l.length ?_ fun i hi KL hL => ?_
  ·dsimp only [ups, zN, zS]
   exact Yr [some 0] (by simp [rowsOver, rowRen_live, rens_pures hpu])
  dsimp only [ups, zN, zS]
  rcases Nat.lt_or_ge i l.length with hi | hi
  ·have hg := hcells i hi
   have hcl := hcall l[i] (List.getElem_mem hi)
   obtain ⟨x, hxx⟩ : ∃ x, l[i] = x := ⟨_, rfl⟩
   rw [hxx] at hcl hg
   have hput := lput_same cells (i * 3) x.c (by simpa using hg) (by simp; omega)
   have e : x.c = [.int .i64 x.kind, .str x.text, .sl x.name.length (x.name.map atsV)] := rfl
   rw [e] at hput hg hcl
   simp only [lput, Nat.add_assoc] at hput
   repeat' (first | (refine Zu ?_; intro K9 h9; simp (disch := first | exact dd | fail) [hg, hput]; refine Zm ?_; ((first | refine Ap hcl ?_ | skip) <;> (refine Zf h9 ?_; clear h9 K9))) | refine Zt ?_ | refine Y8 fun K hK => ?_ | (apply hK; clear hK K) | (refine Yb rfl ?_ ?_ <;> intro hcnd <;> (try simp at hcnd) <;> try exact dc) | refine Zx ?_ | clear hK K)
   refine hL _ _ hi ?_
   exact Yr [some 0] (by simp [rowsOver, rowRen_live, rens_pures hpu])
  ·obtain rfl : i = l.length := by omega
   repeat' (first | refine Zq ?_ | refine Zt ?_ | refine Y8 fun K hK => ?_ | (apply hK; clear hK K) | (refine Yb rfl ?_ ?_ <;> intro hcnd <;> (try simp at hcnd) <;> try exact dc) | refine Zx ?_ | clear hK K)
   exact view_row rfl (by omega) hpu
 ·exact .sl


theorem cgens_call (l : List Gn) (hl : WG l) : PCall prog 153 [gnsV l] (gnsV l) := by
 have hn := each_gens_call l hl.1 fun g hg => (hl.2 g hg).1
 unfold gnsV
 refine pcall_body func153 rfl call153 ?_ ?_
 rotate_left 1
 refine awp_slots (s' := (.sl l.length (l.flatMap Gn.c) : V) :: zJ 4) rfl ?_; dsimp only [zJ]
 repeat' (first | (refine Zu ?_; intro K9 h9; refine Zd ?_; ((first | refine Ap hn ?_ | skip) <;> (refine Zf h9 ?_; clear h9 K9))) | refine Zt ?_ | refine Y8 fun K hK => ?_ | (apply hK; clear hK K) | refine Zx ?_ | clear hK K)
 ·exact .pure .sl
 ·exact .sl
end Go.Proofs.YtnpndfmbkmbhbaaGreatDoor
namespace Go.Stp
open Go.VS
def lowF (c : UInt8) : UInt8 := if 65 ≤ c.toNat ∧ c.toNat ≤ 90 then c + 32 else c
def fstep (st : List UInt8 × Bool) (c : UInt8) : List UInt8 × Bool :=
 if c = 32 then (st.1, decide (0 < st.1.length)) else (st.1 ++ (if st.2 then [32] else []) ++ [lowF c], false)
def fst (s : List UInt8) (i : Nat) : List UInt8 × Bool := (s.take i).foldl fstep ([], false)
def foldB (s : List UInt8) : List UInt8 := (fst s s.length).1
theorem fst_succ (s : List UInt8) (i : Nat) (h : i < s.length) : fst s (i + 1) = fstep (fst s i) s[i] := by
 rw [fst, List.take_succ_eq_append_getElem h, List.foldl_append]; rfl
theorem fst_len (s : List UInt8) : ∀ i, (fst s i).1.length ≤ 2 * i
 | 0 => by simp [fst]
 | i + 1 => by
  have := fst_len s i
  rcases Nat.lt_or_ge i s.length with h | h
  ·rw [fst_succ s i h]
   unfold fstep
   split
   ·simp; omega
   ·split <;> simp <;> omega
  ·have : fst s (i + 1) = fst s i := by rw [fst, fst, List.take_of_length_le h, List.take_of_length_le (by omega)]
   rw [this]; omega
theorem lowF_id (c : UInt8) (h : ¬ (65 ≤ c.toNat ∧ c.toNat ≤ 90)) : lowF c = c := by rw [lowF, if_neg h]
theorem lowF_up (c : UInt8) (h : 65 ≤ c.toNat ∧ c.toNat ≤ 90) : (lowF c).toNat = c.toNat + 32 := by rw [lowF, if_pos h]; simp; omega
theorem fst_gap (s : List UInt8) (i : Nat) : (fst s i).2 = true → 0 < (fst s i).1.length := by
 induction i with
 | zero => simp [fst]
 | succ i ih =>
  rcases Nat.lt_or_ge i s.length with h | h
  ·rw [fst_succ s i h]
   unfold fstep
   split
   ·simp
   ·simp
  ·have : fst s (i + 1) = fst s i := by rw [fst, fst, List.take_of_length_le h, List.take_of_length_le (by omega)]
   rw [this]; exact ih
end Go.Stp
namespace Go.Proofs.YtnpndfmbkmbhbaaGreatDoor
open Go.Proofs.Tryz
open Go.VS Go.Stp
set_option linter.all false
attribute [local irreducible] arun arunD AWp aend
theorem fold_call (s : List UInt8) (hs : s.length ≤ 1000000) : PCall prog 219 [.str s] (.str (foldB s)) := by
 refine pcall_body func219 rfl call219 ?_ ?_
 rotate_left 1
 refine awp_slots (s' := (.str s : V) :: zJ 37) rfl ?_; dsimp only [zJ]
 repeat' (first | refine Zr ?_ | refine Zt ?_ | refine Y8 fun K hK => ?_ | (apply hK; clear hK K) | (refine Yb rfl ?_ ?_ <;> intro hcnd <;> (try simp at hcnd) <;> try exact dc) | refine Zo ?_ | refine Zx ?_ | clear hK K)
 ·refine awp_countU (fun i => (some V.junk :: none :: some V.junk :: some (V.osl 1 0 (fst s i).1.length 1) :: some (V.bool (fst s i).2) :: none :: zS 2 (zN 2 (some (V.int .i64 i) :: zS 27 [])))) (fun i => [.live (s.map byteV), .live ((fst s i).1.map byteV)]) s.length ?_ fun i hi KL hL => ?_
  ·dsimp only [ups, zN, zS]
   exact Le.mk [some 0, none] (by simp [fst]) (rowsRen_of (by simp) (by simp [rowsOver, fst])) (by simp)
  dsimp only [ups, zN, zS]
  rcases Nat.lt_or_ge i s.length with hi | hi
  ·have hl := fst_len s i
   have hsucc := fst_succ s i hi
   have hgap := fst_gap s i
   have hc : (s[i]).toNat < 256 := UInt8.toNat_lt _
   rw [hsucc] at hL
   clear hsucc
   generalize fst s i = st at *
   obtain ⟨out, gap⟩ := st
   dsimp only at hl hgap
   obtain ⟨c, hcc⟩ : ∃ c, s[i] = c := ⟨_, rfl⟩
   rw [hcc] at hL hc
   by_cases h32 : c = 32
   ·subst h32
    rw [show fstep (out, gap) 32 = (out, decide (0 < out.length)) from by simp [fstep]] at hL
    repeat' (first | ((first | refine Zu ?_ | (refine Zv ?_ ?_; (focus (simp [hcc]; done)))); intro K9 h9; simp (disch := first | exact dd | fail) [hcc]; refine Zm ?_; refine Zf h9 ?_; clear h9 K9) | refine Zt ?_ | refine Y8 fun K hK => ?_ | (apply hK; clear hK K) | (refine Yb rfl ?_ ?_ <;> intro hcnd <;> (try simp at hcnd) <;> try exact dc) | (refine Zn ?_ ?_; (focus (simp [hcc]; done)); refine Zs ?_) | refine Zx ?_ | clear hK K)
    refine hL _ _ hi ?_
    exact Yr [some 0, some 1] (by simp [rowsOver, List.take_of_length_le])
   have h32i : ¬ ((c.toNat : Int) = 32) := fun e => h32 (by apply UInt8.toNat_inj.1; simp; omega)
   have e1 : fstep (out, gap) c = (out ++ (if gap then [32] else []) ++ [lowF c], false) := by simp [fstep, h32]
   rw [e1] at hL
   clear e1
   cases gap
   ·by_cases a1 : (65 : Int) ≤ c.toNat <;> by_cases a2 : (c.toNat : Int) ≤ 90 <;> (try (exfalso; omega))
    ·have hu := lowF_up c ⟨by omega, by omega⟩
     rw [show (out ++ (if false = true then [32] else []) ++ [lowF c]) = out ++ [lowF c] from by simp] at hL
     repeat' (first | ((first | refine Zu ?_ | (refine Zv ?_ ?_; (focus (simp [hcc, h32i, a1, a2]; done)))); intro K9 h9; simp (disch := first | exact dd | fail) [hcc, h32i, a1, a2]; refine Zm ?_; refine Zf h9 ?_; clear h9 K9) | refine Zt ?_ | refine Y8 fun K hK => ?_ | (apply hK; clear hK K) | (refine Yb rfl ?_ ?_ <;> intro hcnd <;> (try simp at hcnd) <;> try exact dc) | (refine Zn ?_ ?_; (focus (simp [hcc, h32i, a1, a2]; done)); refine Zs ?_) | refine Zx ?_ | clear hK K)
     refine hL _ _ hi ?_
     exact Yr [some 0, some 3] (by simp [rowsOver, List.take_of_length_le, byteV, hu])
    all_goals
     have hid := lowF_id c (by omega)
     rw [show (out ++ (if false = true then [32] else []) ++ [lowF c]) = out ++ [lowF c] from by simp] at hL
     repeat' (first | ((first | refine Zu ?_ | (refine Zv ?_ ?_; (focus (simp [hcc, h32i, a1, a2]; done)))); intro K9 h9; simp (disch := first | exact dd | fail) [hcc, h32i, a1, a2]; refine Zm ?_; refine Zf h9 ?_; clear h9 K9) | refine Zt ?_ | refine Y8 fun K hK => ?_ | (apply hK; clear hK K) | (refine Yb rfl ?_ ?_ <;> intro hcnd <;> (try simp at hcnd) <;> try exact dc) | (refine Zn ?_ ?_; (focus (simp [hcc, h32i, a1, a2]; done)); refine Zs ?_) | refine Zx ?_ | clear hK K)
     rw [hid] at hL
     refine hL _ _ hi ?_
     exact Yr [some 0, some 3] (by simp [rowsOver, List.take_of_length_le, byteV])
   ·by_cases a1 : (65 : Int) ≤ c.toNat <;> by_cases a2 : (c.toNat : Int) ≤ 90 <;> (try (exfalso; omega))
    ·have hu := lowF_up c ⟨by omega, by omega⟩
     rw [show (out ++ (if true = true then [32] else []) ++ [lowF c]) = out ++ [32] ++ [lowF c] from by simp] at hL
     repeat' (first | ((first | refine Zu ?_ | (refine Zv ?_ ?_; (focus (simp [hcc, h32i, a1, a2]; done)))); intro K9 h9; simp (disch := first | exact dd | fail) [hcc, h32i, a1, a2]; refine Zm ?_; refine Zf h9 ?_; clear h9 K9) | refine Zt ?_ | refine Y8 fun K hK => ?_ | (apply hK; clear hK K) | (refine Yb rfl ?_ ?_ <;> intro hcnd <;> (try simp at hcnd) <;> try exact dc) | (refine Zn ?_ ?_; (focus (simp [hcc, h32i, a1, a2]; done)); refine Zs ?_) | refine Zx ?_ | clear hK K)
     refine hL _ _ hi ?_
     exact Yr [some 0, some 5] (by simp [rowsOver, List.take_of_length_le, byteV, hu])
    all_goals
     have hid := lowF_id c (by omega)
     rw [show (out ++ (if true = true then [32] else []) ++ [lowF c]) = out ++ [32] ++ [lowF c] from by simp] at hL
     repeat' (first | ((first | refine Zu ?_ | (refine Zv ?_ ?_; (focus (simp [hcc, h32i, a1, a2]; done)))); intro K9 h9; simp (disch := first | exact dd | fail) [hcc, h32i, a1, a2]; refine Zm ?_; refine Zf h9 ?_; clear h9 K9) | refine Zt ?_ | refine Y8 fun K hK => ?_ | (apply hK; clear hK K) | (refine Yb rfl ?_ ?_ <;> intro hcnd <;> (try simp at hcnd) <;> try exact dc) | (refine Zn ?_ ?_; (focus (simp [hcc, h32i, a1, a2]; done)); refine Zs ?_) | refine Zx ?_ | clear hK K)
     rw [hid] at hL
     refine hL _ _ hi ?_
     exact Yr [some 0, some 5] (by simp [rowsOver, List.take_of_length_le, byteV])
  ·obtain rfl : i = s.length := by omega
   have hl := fst_len s s.length
   obtain ⟨X, hX⟩ : ∃ X, (fst s s.length).1 = X := ⟨_, rfl⟩
   rw [hX] at hl
   have hB := bytes_full (l := X) (n := X.length) (by omega)
   have hB2 : List.take X.length X = X := List.take_of_length_le (by omega)
   repeat' (first | ((first | refine Zu ?_ | (refine Zv ?_ ?_; (focus (simp [hX, hB, hB2]; done)))); intro K9 h9; simp (disch := first | exact dd | fail) [hX, hB, hB2]; refine Zm ?_; refine Zf h9 ?_; clear h9 K9) | refine Zt ?_ | refine Y8 fun K hK => ?_ | (apply hK; clear hK K) | (refine Yb rfl ?_ ?_ <;> intro hcnd <;> (try simp at hcnd) <;> try exact dc) | (refine Zn ?_ ?_; (focus (simp [hX, hB, hB2]; done)); refine Zs ?_) | refine Zx ?_ | clear hK K)
   rw [show foldB s = X from hX]
   exact .pure .str
 ·exact .str

theorem tmatch_call (a b : List UInt8) (ha : a.length ≤ 65536) (hb : b.length ≤ 65536) : PCall prog 191 [.str a, .str b] (.bool (foldB a == foldB b)) := by
 have h1 := fold_call a (by omega)
 have h2 := fold_call b (by omega)
 refine pcall_body func191 rfl call191 ?_ ?_
 rotate_left 1
 refine awp_slots (s' := (.str a : V) :: (.str b : V) :: zJ 8) rfl ?_; dsimp only [zJ]
 repeat' (first | (refine Zu ?_; intro K9 h9; refine Zd ?_; ((first | refine Ap h1 ?_ | refine Ap h2 ?_ | skip) <;> (refine Zf h9 ?_; clear h9 K9))) | refine Zt ?_ | refine Y8 fun K hK => ?_ | (apply hK; clear hK K) | refine Zx ?_ | clear hK K)
 ·exact .pure .bool
 ·exact .bool
end Go.Proofs.YtnpndfmbkmbhbaaGreatDoor
namespace Go.Stp
open Go.VS
def eqA (a b : At) : Bool := a.t == b.t && foldB a.v == foldB b.v
def hasB (r : List At) (a : At) : Bool := r.any fun b => eqA a b
def sameB (a b : List At) : Bool := decide (a.length = b.length) && (a.all (hasB b) && b.all (hasB a))
def withinB (n base : Nm) : Bool := decide (base.length ≤ n.length) && (List.zipWith sameB n base).all id
def nameB (a b : Nm) : Bool := decide (a.length = b.length) && withinB a b
theorem any_false {α : Type} {l : List α} {p : α → Bool} (h : ∀ j (h : j < l.length), p l[j] = false) : l.any p = false := by
 rw [List.any_eq_false]
 intro x hx
 obtain ⟨j, hj, rfl⟩ := List.getElem_of_mem hx
 simp [h j hj]
theorem any_true {α : Type} {l : List α} {p : α → Bool} {i : Nat} (hi : i < l.length) (h : p l[i] = true) : l.any p = true := by
 rw [List.any_eq_true]
 exact ⟨l[i], List.getElem_mem _, h⟩
theorem all_false {α : Type} {l : List α} {p : α → Bool} {i : Nat} (hi : i < l.length) (h : p l[i] = false) : l.all p = false := by
 rw [List.all_eq_false]
 exact ⟨l[i], List.getElem_mem _, by simp [h]⟩
theorem all_true {α : Type} {l : List α} {p : α → Bool} (h : ∀ j (h : j < l.length), p l[j] = true) : l.all p = true := by
 rw [List.all_eq_true]
 intro x hx
 obtain ⟨j, hj, rfl⟩ := List.getElem_of_mem hx
 exact h j hj
theorem ats_at (r : List At) (i : Nat) (h : i < r.length) : ((r.flatMap At.c).drop (i * 3)).take 3 = r[i].c := flat_at At.c_len r i h
theorem zip_false {n base : Nm} {i : Nat} (h1 : i < base.length) (h2 : base.length ≤ n.length) (h : sameB n[i] base[i] = false) : withinB n base = false := by
 simp only [withinB, Bool.and_eq_false_iff]
 right
 rw [List.all_eq_false]
 refine ⟨sameB n[i] base[i], ?_, by simp [h]⟩
 have : (List.zipWith sameB n base)[i]'(by simp; omega) = sameB n[i] base[i] := by simp
 rw [← this]
 exact List.getElem_mem _
theorem zip_true {n base : Nm} (h2 : base.length ≤ n.length) (h : ∀ j (h : j < base.length), sameB n[j] base[j] = true) : withinB n base = true := by
 simp only [withinB, Bool.and_eq_true, decide_eq_true_eq]
 refine ⟨h2, ?_⟩
 rw [List.all_eq_true]
 intro x hx
 obtain ⟨j, hj, rfl⟩ := List.getElem_of_mem hx
 simp at hj
 simp [h j (by omega)]
end Go.Stp
namespace Go.Proofs.YtnpndfmbkmbhbaaGreatDoor
open Go.Proofs.Tryz
open Go.VS Go.Stp
set_option linter.all false
attribute [local irreducible] arun arunD AWp aend
theorem dhas_call (r : List At) (a : At) (hl : r.length ≤ 65536) (hr : ∀ b ∈ r, b.v.length ≤ 65536) (ha : a.v.length ≤ 65536) : PCall prog 160 [atsV r, .agg a.c] (.bool (hasB r a)) := by
 show PCall _ _ [.sl r.length (r.flatMap At.c), .agg [.str a.t, .int .i64 a.k, .str a.v]] _
 refine pcall_body func160 rfl call160 ?_ ?_
 rotate_left 1
 refine awp_slots (s' := (.sl r.length (r.flatMap At.c) : V) :: (.agg [.str a.t, .int .i64 a.k, .str a.v] : V) :: zJ 24) rfl ?_; dsimp only [zJ]
 have hll := ats_len r
 have hcells := ats_at r
 generalize r.flatMap At.c = cells at *
 repeat' (first | refine Zr ?_ | refine Zt ?_ | refine Y8 fun K hK => ?_ | (apply hK; clear hK K) | (refine Yb rfl ?_ ?_ <;> intro hcnd <;> (try simp at hcnd) <;> try exact dc) | refine Zo ?_ | refine Zx ?_ | clear hK K)
 ·refine awp_loopU (α := Nat) (fun i => (zS 2 (zN 2 (some V.junk :: none :: some V.junk :: zN 2 (some (V.int .i64 i) :: zS 16 []))))) (fun i => [.live [.str a.t, .int .i64 a.k, .str a.v]]) (fun i => i ≤ r.length ∧ ∀ j (h : j < r.length), j < i → eqA a r[j] = false) (fun i => r.length - i) 0 ⟨by omega, fun j _ h => by omega⟩ ?_ ?_
  ·dsimp only [ups, zN, zS]
   exact Yr [some 0] (by simp [rowsOver])
  rintro i ⟨hi, hall⟩ KL hL
  dsimp only [ups, zN, zS]
  rcases Nat.lt_or_ge i r.length with hi | hi
  ·have hstep : eqA a r[i] = false → i + 1 ≤ r.length ∧ ∀ j (h : j < r.length), j < i + 1 → eqA a r[j] = false := fun hx => ⟨by omega, fun j hj h => by
    rcases Nat.lt_or_ge j i with h3 | h3
    ·exact hall j hj h3
    ·obtain rfl : j = i := by omega
     exact hx⟩
   have htrue : eqA a r[i] = true → hasB r a = true := any_true hi
   have hg := hcells i hi
   have hx : r[i].v.length ≤ 65536 := hr _ (List.getElem_mem _)
   obtain ⟨x, hxx⟩ : ∃ x, r[i] = x := ⟨_, rfl⟩
   rw [hxx] at hstep htrue hg hx
   rw [show x.c = [.str x.t, .int .i64 x.k, .str x.v] from rfl] at hg
   have hm := tmatch_call a.v x.v ha hx
   by_cases h1 : a.t = x.t
   ·by_cases h2 : foldB a.v = foldB x.v
    ·repeat' (first | ((first | refine Zu ?_ | (refine Zv ?_ ?_; (focus (simp [hg, h1, h2]; done)))); intro K9 h9; simp (disch := first | exact dd | fail) [hg, h1, h2]; refine Zm ?_; ((first | refine Ap hm ?_ | skip) <;> (refine Zf h9 ?_; clear h9 K9))) | refine Zt ?_ | refine Y8 fun K hK => ?_ | (apply hK; clear hK K) | (refine Yb rfl ?_ ?_ <;> intro hcnd <;> (try simp at hcnd) <;> try exact dc) | (refine Zn ?_ ?_; (focus (simp [hg, h1, h2]; done)); refine Zs ?_) | refine Zx ?_ | clear hK K)
     rw [htrue (by simp [eqA, h1, h2])]
     exact .pure .bool
    ·have h3 : ¬ foldB x.v = foldB a.v := fun e => h2 e.symm
     repeat' (first | ((first | refine Zu ?_ | (refine Zv ?_ ?_; (focus (simp [hg, h1, h2, h3]; done)))); intro K9 h9; simp (disch := first | exact dd | fail) [hg, h1, h2, h3]; refine Zm ?_; ((first | refine Ap hm ?_ | skip) <;> (refine Zf h9 ?_; clear h9 K9))) | refine Zt ?_ | refine Y8 fun K hK => ?_ | (apply hK; clear hK K) | (refine Yb rfl ?_ ?_ <;> intro hcnd <;> (try simp at hcnd) <;> try exact dc) | (refine Zn ?_ ?_; (focus (simp [hg, h1, h2, h3]; done)); refine Zs ?_) | refine Zx ?_ | clear hK K)
     refine hL (i + 1) _ _ (hstep (by simp [eqA, h2])) (by omega) ?_
     exact Yr [some 0] (by simp [rowsOver, h1])
   ·have h3 : ¬ x.t = a.t := fun e => h1 e.symm
    repeat' (first | ((first | refine Zu ?_ | (refine Zv ?_ ?_; (focus (simp [hg, h1, h3]; done)))); intro K9 h9; simp (disch := first | exact dd | fail) [hg, h1, h3]; refine Zm ?_; ((first | refine Ap hm ?_ | skip) <;> (refine Zf h9 ?_; clear h9 K9))) | refine Zt ?_ | refine Y8 fun K hK => ?_ | (apply hK; clear hK K) | (refine Yb rfl ?_ ?_ <;> intro hcnd <;> (try simp at hcnd) <;> try exact dc) | (refine Zn ?_ ?_; (focus (simp [hg, h1, h3]; done)); refine Zs ?_) | refine Zx ?_ | clear hK K)
    refine hL (i + 1) _ _ (hstep (by simp [eqA, h1])) (by omega) ?_
    exact Yr [some 0] (by simp [rowsOver])
  ·repeat' (first | refine Zr ?_ | refine Zt ?_ | refine Y8 fun K hK => ?_ | (apply hK; clear hK K) | (refine Yb rfl ?_ ?_ <;> intro hcnd <;> (try simp at hcnd) <;> try exact dc) | refine Zo ?_ | refine Zx ?_ | clear hK K)
   rw [show hasB r a = false from any_false fun j hj => hall j hj (by omega)]
   exact .pure .bool
 ·exact .bool

theorem dsame_call (a b : List At) (hla : a.length ≤ 65536) (ha : ∀ x ∈ a, x.v.length ≤ 65536) (hlb : b.length ≤ 65536) (hb : ∀ x ∈ b, x.v.length ≤ 65536) : PCall prog 122 [atsV a, atsV b] (.bool (sameB a b)) := by
 show PCall _ _ [.sl a.length (a.flatMap At.c), .sl b.length (b.flatMap At.c)] _
 refine pcall_body func122 rfl call122 ?_ ?_
 rotate_left 1
 refine awp_slots (s' := (.sl a.length (a.flatMap At.c) : V) :: (.sl b.length (b.flatMap At.c) : V) :: zJ 31) rfl ?_; dsimp only [zJ]
 by_cases h0 : ¬ (a.length : Int) = b.length
 ·repeat' (first | ((first | refine Zu ?_ | (refine Zv ?_ ?_; (focus (simp [h0]; done)))); intro K9 h9; simp (disch := first | exact dd | fail) [h0]; refine Zm ?_; refine Zf h9 ?_; clear h9 K9) | refine Zt ?_ | refine Y8 fun K hK => ?_ | (apply hK; clear hK K) | (refine Yb rfl ?_ ?_ <;> intro hcnd <;> (try simp at hcnd) <;> try exact dc) | (refine Zn ?_ ?_; (focus (simp [h0]; done)); refine Zs ?_) | refine Zx ?_ | clear hK K)
  rw [show sameB a b = false by simp [sameB]; omega]
  exact .pure .bool
 replace h0 : (a.length : Int) = b.length := by omega
 have hE : sameB a b = (a.all (hasB b) && b.all (hasB a)) := by simp [sameB]; omega
 rw [hE]
 have hm1 : ∀ x ∈ a, PCall prog 160 [.sl b.length (b.flatMap At.c), .agg [.str x.t, .int .i64 x.k, .str x.v]] (.bool (hasB b x)) := fun x hx => dhas_call b x hlb hb (ha _ hx)
 have hm2 : ∀ x ∈ b, PCall prog 160 [.sl a.length (a.flatMap At.c), .agg [.str x.t, .int .i64 x.k, .str x.v]] (.bool (hasB a x)) := fun x hx => dhas_call a x hla ha (hb _ hx)
 have hll := ats_len a
 have hcells := ats_at a
 have hll2 := ats_len b
 have hcells2 := ats_at b
 generalize a.flatMap At.c = ca at *
 generalize b.flatMap At.c = cb at *
 repeat' (first | ((first | refine Zu ?_ | (refine Zv ?_ ?_; (focus (simp [h0]; done)))); intro K9 h9; simp (disch := first | exact dd | fail) [h0]; refine Zm ?_; refine Zf h9 ?_; clear h9 K9) | refine Zt ?_ | refine Y8 fun K hK => ?_ | (apply hK; clear hK K) | (refine Yb rfl ?_ ?_ <;> intro hcnd <;> (try simp at hcnd) <;> try exact dc) | (refine Zn ?_ ?_; (focus (simp [h0]; done)); refine Zs ?_) | refine Zx ?_ | clear hK K)
 ·refine awp_loopU (α := Nat) (fun i => (zN 4 (zS 8 (none :: some (V.int .i64 i) :: zS 19 [])))) (fun i => []) (fun i => i ≤ b.length ∧ ∀ j (h : j < b.length), j < i → hasB b (a[j]'(by omega)) = true ∧ hasB a b[j] = true) (fun i => b.length - i) 0 ⟨by omega, fun j _ h => by omega⟩ ?_ ?_
  ·dsimp only [ups, zN, zS]
   exact Yr [] (by simp [rowsOver])
  rintro i ⟨hi, hall⟩ KL hL
  dsimp only [ups, zN, zS]
  rcases Nat.lt_or_ge i b.length with hi | hi
  ·have hia : i < a.length := by omega
   have hstep : hasB b a[i] = true → hasB a b[i] = true → i + 1 ≤ b.length ∧ ∀ j (h : j < b.length), j < i + 1 → hasB b (a[j]'(by omega)) = true ∧ hasB a b[j] = true := fun hx hy => ⟨by omega, fun j hj h => by
    rcases Nat.lt_or_ge j i with h3 | h3
    ·exact hall j hj h3
    ·obtain rfl : j = i := by omega
     exact ⟨hx, hy⟩⟩
   have hf1 : hasB b a[i] = false → (a.all (hasB b) && b.all (hasB a)) = false := fun h => by rw [all_false hia h]; rfl
   have hf2 : hasB a b[i] = false → (a.all (hasB b) && b.all (hasB a)) = false := fun h => by rw [all_false hi h, Bool.and_false]
   have hg := hcells i hia
   have hg2 := hcells2 i hi
   have hm := hm1 a[i] (List.getElem_mem _)
   have hm2 := hm2 b[i] (List.getElem_mem _)
   obtain ⟨x, hxx⟩ : ∃ x, a[i] = x := ⟨_, rfl⟩
   obtain ⟨y, hyy⟩ : ∃ x, b[i] = x := ⟨_, rfl⟩
   rw [hxx] at hstep hg hm hf1
   rw [hyy] at hstep hg2 hm2 hf2
   rw [show x.c = [.str x.t, .int .i64 x.k, .str x.v] from rfl] at hg
   rw [show y.c = [.str y.t, .int .i64 y.k, .str y.v] from rfl] at hg2
   cases h1 : hasB b x
   ·rw [h1] at hm
    repeat' (first | ((first | refine Zu ?_ | (refine Zv ?_ ?_; (focus (simp [h0, hg, hg2, h1]; done)))); intro K9 h9; simp (disch := first | exact dd | fail) [h0, hg, hg2, h1]; refine Zm ?_; ((first | refine Ap hm ?_ | refine Ap hm2 ?_ | skip) <;> (refine Zf h9 ?_; clear h9 K9))) | refine Zt ?_ | refine Y8 fun K hK => ?_ | (apply hK; clear hK K) | (refine Yb rfl ?_ ?_ <;> intro hcnd <;> (try simp at hcnd) <;> try exact dc) | (refine Zn ?_ ?_; (focus (simp [h0, hg, hg2, h1]; done)); refine Zs ?_) | refine Zx ?_ | clear hK K)
    rw [hf1 h1]
    exact .pure .bool
   ·cases h2 : hasB a y
    ·rw [h1] at hm
     rw [h2] at hm2
     repeat' (first | ((first | refine Zu ?_ | (refine Zv ?_ ?_; (focus (simp [h0, hg, hg2, h1, h2]; done)))); intro K9 h9; simp (disch := first | exact dd | fail) [h0, hg, hg2, h1, h2]; refine Zm ?_; ((first | refine Ap hm ?_ | refine Ap hm2 ?_ | skip) <;> (refine Zf h9 ?_; clear h9 K9))) | refine Zt ?_ | refine Y8 fun K hK => ?_ | (apply hK; clear hK K) | (refine Yb rfl ?_ ?_ <;> intro hcnd <;> (try simp at hcnd) <;> try exact dc) | (refine Zn ?_ ?_; (focus (simp [h0, hg, hg2, h1, h2]; done)); refine Zs ?_) | refine Zx ?_ | clear hK K)
     rw [hf2 h2]
     exact .pure .bool
    ·rw [h1] at hm
     rw [h2] at hm2
     repeat' (first | ((first | refine Zu ?_ | (refine Zv ?_ ?_; (focus (simp [h0, hg, hg2, h1, h2]; done)))); intro K9 h9; simp (disch := first | exact dd | fail) [h0, hg, hg2, h1, h2]; refine Zm ?_; ((first | refine Ap hm ?_ | refine Ap hm2 ?_ | skip) <;> (refine Zf h9 ?_; clear h9 K9))) | refine Zt ?_ | refine Y8 fun K hK => ?_ | (apply hK; clear hK K) | (refine Yb rfl ?_ ?_ <;> intro hcnd <;> (try simp at hcnd) <;> try exact dc) | (refine Zn ?_ ?_; (focus (simp [h0, hg, hg2, h1, h2]; done)); refine Zs ?_) | refine Zx ?_ | clear hK K)
     refine hL (i + 1) _ _ (hstep h1 h2) (by omega) ?_
     exact Yr [] (by simp [rowsOver])
  ·repeat' (first | ((first | refine Zu ?_ | (refine Zv ?_ ?_; (focus (simp [h0]; done)))); intro K9 h9; simp (disch := first | exact dd | fail) [h0]; refine Zm ?_; refine Zf h9 ?_; clear h9 K9) | refine Zt ?_ | refine Y8 fun K hK => ?_ | (apply hK; clear hK K) | (refine Yb rfl ?_ ?_ <;> intro hcnd <;> (try simp at hcnd) <;> try exact dc) | (refine Zn ?_ ?_; (focus (simp [h0]; done)); refine Zs ?_) | refine Zx ?_ | clear hK K)
   rw [all_true fun j hj => (hall j (by omega) (by omega)).1, all_true fun j hj => (hall j hj (by omega)).2]
   exact .pure .bool
 ·exact .bool

theorem dwithin_call (a b : Nm) (ha : WN a) (hb : WN b) : PCall prog 74 [.agg [nmV a], .agg [nmV b]] (.bool (withinB a b)) := by
 unfold nmV
 refine pcall_body func74 rfl call74 ?_ ?_
 rotate_left 1
 refine awp_slots (s' := (.agg [.sl a.length (a.map atsV)] : V) :: (.agg [.sl b.length (b.map atsV)] : V) :: zJ 30) rfl ?_; dsimp only [zJ]
 by_cases h0 : (a.length : Int) < b.length
 ·repeat' (first | (refine Zu ?_; intro K9 h9; simp (disch := first | exact dd | fail) [h0]; refine Zm ?_; refine Zf h9 ?_; clear h9 K9) | refine Zt ?_ | refine Y8 fun K hK => ?_ | (apply hK; clear hK K) | (refine Zk 0 [] ?_; refine Zl ?_) | (refine Yb rfl ?_ ?_ <;> intro hcnd <;> (try simp at hcnd) <;> try exact dc) | refine Zx ?_ | clear hK K)
  rw [show withinB a b = false by simp [withinB]; omega]
  exact .pure .bool
 have hla := ha.1
 have hlb := hb.1
 have h0' : b.length ≤ a.length := by omega
 repeat' (first | (refine Zu ?_; intro K9 h9; simp (disch := first | exact dd | fail) [h0]; refine Zm ?_; refine Zf h9 ?_; clear h9 K9) | refine Zt ?_ | refine Y8 fun K hK => ?_ | (apply hK; clear hK K) | (refine Zk 0 [] ?_; refine Zl ?_) | (refine Yb rfl ?_ ?_ <;> intro hcnd <;> (try simp at hcnd) <;> try exact dc) | refine Zx ?_ | clear hK K)
 ·refine awp_loopU (α := Nat) (fun i => (zS 2 (zN 2 (zS 11 (none :: some (V.int .i64 i) :: zS 15 []))))) (fun i => [.live [.sl a.length (a.map atsV)], .live [.sl b.length (b.map atsV)]]) (fun i => i ≤ b.length ∧ ∀ j (h : j < b.length), j < i → sameB (a[j]'(by omega)) b[j] = true) (fun i => b.length - i) 0 ⟨by omega, fun j _ h => by omega⟩ ?_ ?_
  ·dsimp only [ups, zN, zS]
   exact Yr [some 0, some 1] (by simp [rowsOver])
  rintro i ⟨hi, hall⟩ KL hL
  dsimp only [ups, zN, zS]
  rcases Nat.lt_or_ge i b.length with hi | hi
  ·have hia : i < a.length := by omega
   have hstep : sameB a[i] b[i] = true → i + 1 ≤ b.length ∧ ∀ j (h : j < b.length), j < i + 1 → sameB (a[j]'(by omega)) b[j] = true := fun hx => ⟨by omega, fun j hj h => by
    rcases Nat.lt_or_ge j i with h3 | h3
    ·exact hall j hj h3
    ·obtain rfl : j = i := by omega
     exact hx⟩
   have hf := zip_false hi h0'
   have hm := dsame_call a[i] b[i] (ha.2 _ (List.getElem_mem _)).1 (ha.2 _ (List.getElem_mem _)).2 (hb.2 _ (List.getElem_mem _)).1 (hb.2 _ (List.getElem_mem _)).2
   obtain ⟨x, hxx⟩ : ∃ x, a[i] = x := ⟨_, rfl⟩
   obtain ⟨y, hyy⟩ : ∃ x, b[i] = x := ⟨_, rfl⟩
   rw [hxx, hyy] at hstep hm hf
   cases h1 : sameB x y
   ·rw [h1] at hm
    repeat' (first | (refine Zu ?_; intro K9 h9; simp (disch := first | exact dd | fail) [h0, hxx, hyy, h1]; refine Zm ?_; ((first | refine ⟨_, hm, ?_⟩ | skip) <;> (refine Zf h9 ?_; clear h9 K9))) | refine Zt ?_ | refine Y8 fun K hK => ?_ | (apply hK; clear hK K) | ((first | refine Zk 0 [0, 0, 0, 0, 1, 0, 0, 0, 0, 1, 1] ?_ | refine Zk 0 [] ?_); refine Zl ?_) | (refine Yb rfl ?_ ?_ <;> intro hcnd <;> (try simp at hcnd) <;> try exact dc) | refine Zx ?_ | clear hK K)
    rw [hf h1]
    exact .pure .bool
   ·rw [h1] at hm
    repeat' (first | (refine Zu ?_; intro K9 h9; simp (disch := first | exact dd | fail) [h0, hxx, hyy, h1]; refine Zm ?_; ((first | refine ⟨_, hm, ?_⟩ | skip) <;> (refine Zf h9 ?_; clear h9 K9))) | refine Zt ?_ | refine Y8 fun K hK => ?_ | (apply hK; clear hK K) | ((first | refine Zk 0 [0, 0, 0, 0, 1, 0, 0, 0, 0, 1, 1] ?_ | refine Zk 0 [] ?_); refine Zl ?_) | (refine Yb rfl ?_ ?_ <;> intro hcnd <;> (try simp at hcnd) <;> try exact dc) | refine Zx ?_ | clear hK K)
    refine hL (i + 1) _ _ (hstep h1) (by omega) ?_
    exact Yr [some 0, some 1] (by simp [rowsOver])
  ·repeat' (first | (refine Zu ?_; intro K9 h9; simp (disch := first | exact dd | fail) [h0]; refine Zm ?_; refine Zf h9 ?_; clear h9 K9) | refine Zt ?_ | refine Y8 fun K hK => ?_ | (apply hK; clear hK K) | (refine Zk 0 [] ?_; refine Zl ?_) | (refine Yb rfl ?_ ?_ <;> intro hcnd <;> (try simp at hcnd) <;> try exact dc) | refine Zx ?_ | clear hK K)
   rw [zip_true h0' fun j hj => hall j hj (by omega)]
   exact .pure .bool
 ·exact .bool

theorem dmatch_call (a b : Nm) (ha : WN a) (hb : WN b) : PCall prog 41 [.agg [nmV a], .agg [nmV b]] (.bool (nameB a b)) := by
 have hm := dwithin_call a b ha hb
 unfold nmV at *
 refine pcall_body func41 rfl call41 ?_ ?_
 rotate_left 1
 refine awp_slots (s' := (.agg [.sl a.length (a.map atsV)] : V) :: (.agg [.sl b.length (b.map atsV)] : V) :: zJ 15) rfl ?_; dsimp only [zJ]
 have hla := ha.1
 have hlb := hb.1
 by_cases h0 : (a.length : Int) = b.length
 ·repeat' (first | ((first | refine Zu ?_ | (refine Zv ?_ ?_; (focus (simp [h0]; done)))); intro K9 h9; simp (disch := first | exact dd | fail) [h0]; refine Zm ?_; ((first | refine Ap hm ?_ | skip) <;> (refine Zf h9 ?_; clear h9 K9))) | refine Zt ?_ | refine Y8 fun K hK => ?_ | (apply hK; clear hK K) | (refine Zn ?_ ?_; (focus (simp [h0]; done)); refine Zs ?_) | refine Zx ?_ | clear hK K)
  rw [show nameB a b = withinB a b by simp [nameB]; omega]
  exact .pure .bool
 ·repeat' (first | ((first | refine Zu ?_ | (refine Zv ?_ ?_; (focus (simp [h0]; done)))); intro K9 h9; simp (disch := first | exact dd | fail) [h0]; refine Zm ?_; ((first | refine Ap hm ?_ | skip) <;> (refine Zf h9 ?_; clear h9 K9))) | refine Zt ?_ | refine Y8 fun K hK => ?_ | (apply hK; clear hK K) | (refine Zn ?_ ?_; (focus (simp [h0]; done)); refine Zs ?_) | refine Zx ?_ | clear hK K)
  rw [show nameB a b = false by simp [nameB]; omega]
  exact .pure .bool
 exact .bool

end Go.Proofs.YtnpndfmbkmbhbaaGreatDoor
