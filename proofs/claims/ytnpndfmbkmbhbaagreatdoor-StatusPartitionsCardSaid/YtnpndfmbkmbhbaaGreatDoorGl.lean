/-
 STEP: certificates and states as they read; small makers.
 Conditions: none.
-/
import Derived.Test.YtnpndfmbkmbhbaaGreatDoorGj
set_option maxRecDepth 100000
set_option maxHeartbeats 32000000
namespace Go.Stp
open Go.VS

structure Mp where
 i : List UInt8
 s : List UInt8
 deriving DecidableEq
structure Pt where
 names : List Gn
 reasons : Int
 has : Bool
 issuer : Nm
 deriving DecidableEq
structure Ex where
 id : List UInt8
 crit : Bool
 v : List UInt8
 deriving DecidableEq
structure In where
 basic : Bool
 ca : Bool
 plen : Int
 usage : Int
 purposes : List (List UInt8)
 policies : List (List UInt8)
 maps : List Mp
 rexp : Int
 imap : Int
 iany : Int
 names : List Gn
 hasC : Bool
 cons : Sb
 sk : List UInt8
 ak : List UInt8
 points : List Pt
 fresh : List Pt
 unk : List Ex
 deriving DecidableEq
structure Ce where
 raw : List UInt8
 tbs : List UInt8
 serial : Int
 issuer : Nm
 subject : Nm
 nb : Int
 na : Int
 key : Ky
 info : In
 sig : List UInt8
 deriving DecidableEq
structure Pg where
 issuer : Nm
 key : Ky
 lists : Bool
 len : Int
 expl : Int
 map : Int
 any : Int
 names : List Sb
 deriving DecidableEq
structure Qu where
 time : Int
 purpose : List UInt8
 usage : Int
 policies : List (List UInt8)
 expl : Bool
 nomap : Bool
 noany : Bool
 names : List Gn
 maxlen : Int
 status : Bool
 issuers : List An
 deriving DecidableEq

def Mp.c (m : Mp) : List V := [.str m.i, .str m.s]
def mpsV (l : List Mp) : V := .sl l.length (l.flatMap Mp.c)
def Pt.c (p : Pt) : List V := [gnsV p.names, .int .i64 p.reasons, .bool p.has, nmV p.issuer]
def ptsV (l : List Pt) : V := .sl l.length (l.flatMap Pt.c)
def Ex.c (x : Ex) : List V := [.str x.id, .bool x.crit, .str x.v]
def exsV (l : List Ex) : V := .sl l.length (l.flatMap Ex.c)
def strV (l : List (List UInt8)) : V := .sl l.length (l.map V.str)
def In.c (i : In) : List V := [.bool i.basic, .bool i.ca, .int .i64 i.plen, .int .i64 i.usage, strV i.purposes, strV i.policies, mpsV i.maps, .int .i64 i.rexp, .int .i64 i.imap, .int .i64 i.iany, gnsV i.names, .bool i.hasC,
 gnsV i.cons.p, gnsV i.cons.x, .str i.sk, .str i.ak, ptsV i.points, ptsV i.fresh, exsV i.unk]
def Ce.c (c : Ce) : List V := [.str c.raw, .str c.tbs, .int .i64 c.serial, nmV c.issuer, nmV c.subject, .int .i64 c.nb, .int .i64 c.na, .int .i64 c.key.h, .str c.key.id, .str c.key.root,
 .bool c.info.basic, .bool c.info.ca, .int .i64 c.info.plen, .int .i64 c.info.usage, strV c.info.purposes, strV c.info.policies, mpsV c.info.maps, .int .i64 c.info.rexp, .int .i64 c.info.imap, .int .i64 c.info.iany, gnsV c.info.names, .bool c.info.hasC,
 gnsV c.info.cons.p, gnsV c.info.cons.x, .str c.info.sk, .str c.info.ak, ptsV c.info.points, ptsV c.info.fresh, exsV c.info.unk, .str c.sig]
def Pg.c (s : Pg) : List V := [nmV s.issuer, .int .i64 s.key.h, .str s.key.id, .str s.key.root, .bool s.lists, .int .i64 s.len, .int .i64 s.expl, .int .i64 s.map, .int .i64 s.any, sbsV s.names]
def Qu.c (q : Qu) : List V := [.int .i64 q.time, .str q.purpose, .int .i64 q.usage, strV q.policies, .bool q.expl, .bool q.nomap, .bool q.noany, gnsV q.names, .int .i64 q.maxlen, .bool q.status, ansV q.issuers]

@[simp] theorem mpsV_pure (r : List Mp) : (mpsV r).Pure := .sl
@[simp] theorem ptsV_pure (r : List Pt) : (ptsV r).Pure := .sl
@[simp] theorem exsV_pure (r : List Ex) : (exsV r).Pure := .sl
@[simp] theorem strV_pure (r : List (List UInt8)) : (strV r).Pure := .sl
@[simp] theorem mpsV_one (r : List Mp) : (mpsV r).one = true := rfl
@[simp] theorem ptsV_one (r : List Pt) : (ptsV r).one = true := rfl
@[simp] theorem exsV_one (r : List Ex) : (exsV r).one = true := rfl
@[simp] theorem strV_one (r : List (List UInt8)) : (strV r).one = true := rfl
@[simp] theorem In.c_pures (i : In) : Pures i.c := by simp [In.c]
@[simp] theorem Ce.c_pures (i : Ce) : Pures i.c := by simp [Ce.c]
@[simp] theorem Pg.c_pures (i : Pg) : Pures i.c := by simp [Pg.c]
@[simp] theorem Qu.c_pures (i : Qu) : Pures i.c := by simp [Qu.c]

def nza : V → V
 | .agg cs => .agg (cs.map nz)
 | x => nz x
def nzt : V → V
 | .tup vs => .tup (vs.map nza)
 | x => nza x
theorem rd_nza {w : World} {ro : Nat → Prop} {ρ : Rho} {u : Value} {v : V} (h : Rd w ro ρ u v) : Rd w ro ρ u (nza v) := by
 cases v with
 | agg cs =>
  obtain ⟨us, rfl, hl, hr⟩ : ∃ us : Array Value, u = .agg us ∧ us.size = cs.length ∧ ∀ (i : Nat) u x, us[i]? = some u → cs[i]? = some x → Rd w ro ρ u x := by
   cases h with
   | agg h1 h2 => exact ⟨_, rfl, h1, h2⟩
  refine .agg (by simpa using hl) fun i u x hu hx => ?_
  rw [List.getElem?_map] at hx
  cases hc : cs[i]? with
  | none => rw [hc] at hx; simp at hx
  | some y =>
   rw [hc] at hx
   simp at hx
   subst hx
   exact (hr i u y hu hc).nz
 | _ => exact h.nz
theorem rd_nzt {w : World} {ro : Nat → Prop} {ρ : Rho} {u : Value} {v : V} (h : Rd w ro ρ u v) : Rd w ro ρ u (nzt v) := by
 cases v with
 | tup cs =>
  obtain ⟨us, rfl, hl, hr⟩ : ∃ us : Array Value, u = .tuple us ∧ us.size = cs.length ∧ ∀ (i : Nat) u x, us[i]? = some u → cs[i]? = some x → Rd w ro ρ u x := by
   cases h with
   | tup h1 h2 => exact ⟨_, rfl, h1, h2⟩
  refine .tup (by simpa using hl) fun i u x hu hx => ?_
  rw [List.getElem?_map] at hx
  cases hc : cs[i]? with
  | none => rw [hc] at hx; simp at hx
  | some y =>
   rw [hc] at hx
   simp at hx
   subst hx
   exact rd_nza (hr i u y hu hc)
 | _ => exact rd_nza h
theorem pcall_nzt {P : Program} {f : FuncId} {args : List V} {r : V} (h : PCall P f args r) {r' : V} (e : nzt r = r') (hp : r'.Pure) : PCall P f args r' :=
 ⟨hp, h.2.1, fun w ro ρ vs g go ha => (h.2.2 w ro ρ vs g go ha).mono fun e' w' ⟨v, r1, rows', ro', ρ', h1, h2, h3, h4⟩ => by
  subst h2; subst e
  exact ⟨_, _, rows', ro', ρ', h1, rfl, h3, rd_nzt h4⟩⟩
theorem acalls_nza {P : Program} {f : FuncId} {args args' : List V} {rows : List Row} {R : V → List Row → Prop} (h : ACalls P f args' rows R) (e : args.map nza = args') : ACalls P f args rows R := by
 subst e
 exact ⟨h.1, fun w ro ρ vs g go ha => h.2 w ro ρ vs g go ⟨by simpa using ha.1, fun i u x hu hx => by
  rw [List.getElem?_map] at hx
  cases hc : args[i]? with
  | none => rw [hc] at hx; simp at hx
  | some y =>
   rw [hc] at hx
   simp at hx
   subst hx
   exact rd_nza (ha.2 i u y hu hc)⟩⟩
theorem pcall_nza {P : Program} {f : FuncId} {args args' : List V} {r : V} (h : PCall P f args' r) (e : args.map nza = args') : PCall P f args r := ⟨h.1, acalls_nza h.2 e⟩

def sO : List UInt8 := [50, 46, 53, 46, 52, 46, 49, 48]
def sOU : List UInt8 := [50, 46, 53, 46, 52, 46, 49, 49]
def authV (k : Nat) : List UInt8 := (if 8 ≤ k % 16 then [32, 99, 97, 32, 32] else [67, 65, 32]) ++ [UInt8.ofNat (48 + k % 8 / 2)]
def authN (k : Nat) : Nm := [⟨sO, 19, authV k⟩] :: (if k % 2 = 1 then [[⟨sOU, 12, [85, 110, 105, 116]⟩]] else [])
def namedN (k : Nat) : Nat := [0, 2, 4, 12, 6, 1, 14, 3].getD k 0
theorem namedN_lt (k : Nat) (h : k < 8) : namedN k < 16 := by
 match k, h with
 | 0, _ | 1, _ | 2, _ | 3, _ | 4, _ | 5, _ | 6, _ | 7, _ => decide
end Go.Stp
namespace Go.Proofs.YtnpndfmbkmbhbaaGreatDoor
open Go.Proofs.Tryz
open Go.VS Go.Stp
set_option linter.all false
attribute [local irreducible] arun arunD AWp aend
theorem dec_call (k : Nat) (h : k < 10) : PCall prog 28 [.int .i64 k] (.str [UInt8.ofNat (48 + k)]) := by
 refine pcall_body func28 rfl call28 ?_ ?_
 rotate_left 1
 refine awp_slots (s' := (.int .i64 k : V) :: zJ 19) rfl ?_; dsimp only [zJ]
 match k, h with
 | 0, _ | 1, _ | 2, _ | 3, _ | 4, _ | 5, _ | 6, _ | 7, _ | 8, _ | 9, _ =>
  repeat' (first | refine Zq ?_ | refine Zt ?_ | refine Y8 fun K hK => ?_ | (apply hK; clear hK K) | (refine Zk 3 [] ?_; refine Zl ?_) | (refine Yb rfl ?_ ?_ <;> intro hcnd <;> (try simp at hcnd) <;> try exact dc) | refine Zx ?_ | clear hK K)
  all_goals exact .pure .str
 exact .str

theorem named_call (k : Nat) (h : k < 8) : PCall prog 20 [.int .i64 k] (.int .i64 (namedN k)) := by
 refine pcall_body func20 rfl call20 ?_ ?_
 rotate_left 1
 refine awp_slots (s' := (.int .i64 k : V) :: zJ 7) rfl ?_; dsimp only [zJ]
 match k, h with
 | 0, _ | 1, _ | 2, _ | 3, _ | 4, _ | 5, _ | 6, _ | 7, _ =>
  repeat' (first | refine Zq ?_ | refine Zt ?_ | refine Y8 fun K hK => ?_ | (apply hK; clear hK K) | refine Zx ?_ | clear hK K)
  all_goals exact .pure .int
 exact .int

def pubK (k : Nat) : Ky := ⟨0, idS (mseedS (1000 + k)), rootS (idS (mseedS (1000 + k))) (mseedS (1000 + k)) 0⟩
theorem ekey_call (k : Nat) (h : k < 8) : PCall prog 19 [.int .i64 k] (rtV (mseedS (1000 + k)) 0) := by
 refine pcall_body func19 rfl call19 ?_ ?_
 rotate_left 1
 refine awp_slots (s' := (.int .i64 k : V) :: zJ 6) rfl ?_; dsimp only [zJ]
 have ht := tree_call (1000 + k) 0 (by omega)
 have e : (k : Int) % 8 = k := by omega
 unfold rtV at *
 repeat' (first | (refine Zu ?_; intro K9 h9; simp (disch := first | exact dd | fail) [e]; refine Zm ?_; ((first | refine Ap ht ?_ | skip) <;> (refine Zf h9 ?_; clear h9 K9))) | refine Zt ?_ | refine Y8 fun K hK => ?_ | (apply hK; clear hK K) | refine Zx ?_ | clear hK K)
 ·simp
  exact .pure (by simp)
 ·simp
theorem epublic_call (k : Nat) (h : k < 8) : PCall prog 21 [.int .i64 k] (.agg (pubK k).c) := by
 have h1 := ekey_call k h
 have h2 := keyOf_call (mseedS (1000 + k)) 0 (by omega)
 refine pcall_body func21 rfl call21 ?_ ?_
 rotate_left 1
 refine awp_slots (s' := (.int .i64 k : V) :: zJ 5) rfl ?_; dsimp only [zJ]
 rw [show (.agg (pubK k).c : V) = keyV 0 (idS (mseedS (1000 + k))) (rootS (idS (mseedS (1000 + k))) (mseedS (1000 + k)) 0) from rfl]
 unfold keyV rtV at *
 repeat' (first | (refine Zu ?_; intro K9 h9; refine Zd ?_; ((first | refine Ap h1 ?_ | refine Ap h2 ?_ | skip) <;> (refine Zf h9 ?_; clear h9 K9))) | refine Zt ?_ | refine Y8 fun K hK => ?_ | (apply hK; clear hK K) | refine Zx ?_ | clear hK K)
 ·simp
  exact .pure (by simp)
 ·simp [Ky.c]
theorem view_osls {rows : List Row} {id n sz : Nat} {cs cs' : List V} (h : rows[id]? = some (.live cs)) (hl : n * sz = cs.length) (hv : Views rows cs cs') : View rows (.osl id 0 n sz) (.sl n cs') := by
 have hg := hv.get
 refine .osl h (by omega) (by omega) fun i x y hx hy => hg.2 i x y (by simpa using hx) hy

theorem auth_call (k : Nat) (h : k < 16) : PCall prog 17 [.int .i64 k] (.agg [nmV (authN k)]) := by
 have hd := dec_call (k % 8 / 2) (by omega)
 refine pcall_body func17 rfl call17 ?_ ?_
 rotate_left 1
 refine awp_slots (s' := (.int .i64 k : V) :: zJ 33) rfl ?_; dsimp only [zJ]
 have e16 : (k : Int) % 16 = k := by omega
 have e16n : k % 16 = k := by omega
 have e8 : (k : Int) % 8 / 2 = ((k % 8 / 2 : Nat) : Int) := by omega
 have hbt : (48 + k % 8 / 2) < 256 := by omega
 unfold authN authV nmV
 rw [e16n]
 generalize hD : UInt8.ofNat (48 + k % 8 / 2) = D at *
 rw [← e8] at hd
 clear hD hbt e8 e16n
 by_cases h8 : 8 ≤ k <;> by_cases h2 : k % 2 = 1
 ·have h8i : (8 : Int) ≤ k := by omega
  have h2i : (k : Int) % 2 = 1 := by omega
  rw [if_pos h8, if_pos h2]
  repeat' (first | (refine Zu ?_; intro K9 h9; simp (disch := first | exact dd | fail) [h8i, h2i, e16]; refine Zm ?_; ((first | refine Ap hd ?_ | skip) <;> (refine Zf h9 ?_; clear h9 K9))) | refine Zt ?_ | refine Y8 fun K hK => ?_ | (apply hK; clear hK K) | (refine Yb rfl ?_ ?_ <;> intro hcnd <;> (try simp at hcnd) <;> try exact dc) | refine Zx ?_ | clear hK K)
  simp
  exact view_agg ⟨view_osls rfl rfl ⟨view_row rfl rfl (by simp [At.c]), view_row rfl rfl (by simp [At.c]), trivial⟩, trivial⟩
 ·have h8i : (8 : Int) ≤ k := by omega
  have h2i : ¬ (k : Int) % 2 = 1 := by omega
  rw [if_pos h8, if_neg h2]
  repeat' (first | (refine Zu ?_; intro K9 h9; simp (disch := first | exact dd | fail) [h8i, h2i, e16]; refine Zm ?_; ((first | refine Ap hd ?_ | skip) <;> (refine Zf h9 ?_; clear h9 K9))) | refine Zt ?_ | refine Y8 fun K hK => ?_ | (apply hK; clear hK K) | (refine Yb rfl ?_ ?_ <;> intro hcnd <;> (try simp at hcnd) <;> try exact dc) | refine Zx ?_ | clear hK K)
  simp
  exact view_agg ⟨view_osls rfl rfl ⟨view_row rfl rfl (by simp [At.c]), trivial⟩, trivial⟩
 ·have h8i : ¬ (8 : Int) ≤ k := by omega
  have h2i : (k : Int) % 2 = 1 := by omega
  rw [if_neg h8, if_pos h2]
  repeat' (first | (refine Zu ?_; intro K9 h9; simp (disch := first | exact dd | fail) [h8i, h2i, e16]; refine Zm ?_; ((first | refine Ap hd ?_ | skip) <;> (refine Zf h9 ?_; clear h9 K9))) | refine Zt ?_ | refine Y8 fun K hK => ?_ | (apply hK; clear hK K) | (refine Yb rfl ?_ ?_ <;> intro hcnd <;> (try simp at hcnd) <;> try exact dc) | refine Zx ?_ | clear hK K)
  simp
  exact view_agg ⟨view_osls rfl rfl ⟨view_row rfl rfl (by simp [At.c]), view_row rfl rfl (by simp [At.c]), trivial⟩, trivial⟩
 ·have h8i : ¬ (8 : Int) ≤ k := by omega
  have h2i : ¬ (k : Int) % 2 = 1 := by omega
  rw [if_neg h8, if_neg h2]
  repeat' (first | (refine Zu ?_; intro K9 h9; simp (disch := first | exact dd | fail) [h8i, h2i, e16]; refine Zm ?_; ((first | refine Ap hd ?_ | skip) <;> (refine Zf h9 ?_; clear h9 K9))) | refine Zt ?_ | refine Y8 fun K hK => ?_ | (apply hK; clear hK K) | (refine Yb rfl ?_ ?_ <;> intro hcnd <;> (try simp at hcnd) <;> try exact dc) | refine Zx ?_ | clear hK K)
  simp
  exact view_agg ⟨view_osls rfl rfl ⟨view_row rfl rfl (by simp [At.c]), trivial⟩, trivial⟩
 simp
end Go.Proofs.YtnpndfmbkmbhbaaGreatDoor
namespace Go.Stp
open Go.VS
def limitS (b : Bool) : Int := if b then 0 else 9
end Go.Stp
namespace Go.Proofs.YtnpndfmbkmbhbaaGreatDoor
open Go.Proofs.Tryz
open Go.VS Go.Stp
set_option linter.all false
attribute [local irreducible] arun arunD AWp aend
def anc (k : Nat) : An := ⟨authN (namedN k), pubK k⟩
def beginS (a : An) (q : Qu) : Pg := ⟨a.n, a.k, true, 8, limitS q.expl, limitS q.nomap, limitS q.noany, []⟩
theorem Ky.c_pures (k : Ky) : Pures k.c := by simp [Ky.c]

theorem anchor_call (k : Nat) (h : k < 8) : PCall prog 12 [.int .i64 k] (.agg (anc k).c) := by
 have h1 := named_call k h
 have h2 := auth_call (namedN k) (namedN_lt k h)
 have h3 := epublic_call k h
 show PCall _ _ _ (.agg [nmV (authN (namedN k)), .int .i64 (pubK k).h, .str (pubK k).id, .str (pubK k).root])
 replace h3 : PCall prog 21 [.int .i64 k] (.agg [.int .i64 (pubK k).h, .str (pubK k).id, .str (pubK k).root]) := h3
 generalize pubK k = K at *
 have hA := nmV_one (authN (namedN k))
 have hA2 := nmV_pure (authN (namedN k))
 generalize nmV (authN (namedN k)) = A at *
 refine pcall_body func12 rfl call12 ?_ ?_
 rotate_left 1
 refine awp_slots (s' := (.int .i64 k : V) :: zJ 8) rfl ?_; dsimp only [zJ]
 repeat' (first | (refine Zu ?_; intro K9 h9; simp (disch := first | exact dd | fail) [hA, hA2]; refine Zm ?_; ((first | refine Ap h1 ?_ | refine Ap h2 ?_ | refine Ap h3 ?_ | skip) <;> (refine Zf h9 ?_; clear h9 K9))) | refine Zt ?_ | refine Y8 fun K hK => ?_ | (apply hK; clear hK K) | refine Zx ?_ | clear hK K)
 ·simp
  exact .pure (by simp [hA2])
 ·simp [hA2]

end Go.Proofs.YtnpndfmbkmbhbaaGreatDoor
namespace Go.Stp
open Go.VS
@[simp] theorem Mp.c_len (a : Mp) : a.c.length = 2 := rfl
def findI {α : Type} (p : α → Bool) (l : List α) : Int := match l.findIdx? p with | some i => i | none => -1
theorem findI_none {α : Type} {p : α → Bool} {l : List α} (h : ∀ j (h : j < l.length), p l[j] = false) : findI p l = -1 := by
 have : l.findIdx? p = none := by
  rw [List.findIdx?_eq_none_iff]
  intro x hx
  obtain ⟨j, hj, rfl⟩ := List.getElem_of_mem hx
  exact h j hj
 rw [findI, this]
theorem findI_some {α : Type} {p : α → Bool} {l : List α} {i : Nat} (hi : i < l.length) (h1 : p l[i] = true) (h : ∀ j (h : j < l.length), j < i → p l[j] = false) : findI p l = i := by
 have : l.findIdx? p = some i := by
  rw [List.findIdx?_eq_some_iff_getElem]
  exact ⟨hi, h1, fun j hj => by rw [h j (by omega) hj]; decide⟩
 rw [findI, this]
theorem findI_ge {α : Type} (p : α → Bool) (l : List α) : (decide (0 ≤ findI p l)) = l.any p := by
 unfold findI
 cases h : l.findIdx? p with
 | none =>
  rw [List.findIdx?_eq_none_iff] at h
  symm
  rw [List.any_eq_false.2 fun x hx => by rw [h x hx]; decide]
  rfl
 | some i =>
  rw [List.findIdx?_eq_some_iff_getElem] at h
  obtain ⟨hi, h1, _⟩ := h
  rw [any_true hi h1]
  simp
end Go.Stp
namespace Go.Proofs.YtnpndfmbkmbhbaaGreatDoor
open Go.Proofs.Tryz
open Go.VS Go.Stp
set_option linter.all false
attribute [local irreducible] arun arunD arunU AWp aend
end Go.Proofs.YtnpndfmbkmbhbaaGreatDoor
