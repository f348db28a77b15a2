/-
  STEP: certificates and states as they read; small makers.
  STEP: small functions of the program, makers on an empty deck.
  STEP: copies that package subtree makes; Add.
  STEP: Begin, Special, Signers, and what looks for special mappings.
  Conditions: none.
-/
import Derived.Test.YtcfmanhblonjeaaGreatDoorGe
import Derived.Test.YtcfmanhblonjeaaGreatDoorGf
import Derived.Test.YtcfmanhblonjeaaGreatDoorGg
import Derived.Test.YtcfmanhblonjeaaGreatDoorGh
import Derived.Test.YtcfmanhblonjeaaGreatDoorGj
import Derived.Test.YtcfmanhblonjeaaGreatDoorTab
import Derived.Test.YtcfmanhblonjeaaGreatDoorGd
import Derived.Test.YtcfmanhblonjeaaGreatDoorGi
namespace Go.Stp
open Go.VS

structure Mp where
  i : List UInt8
  s : List UInt8
  deriving DecidableEq
structure Pt where
  names : List Gn
  reasons : Int
  has : Bool
  issuer : Nm
  deriving DecidableEq
structure Ex where
  id : List UInt8
  crit : Bool
  v : List UInt8
  deriving DecidableEq
structure In where
  basic : Bool
  ca : Bool
  plen : Int
  usage : Int
  purposes : List (List UInt8)
  policies : List (List UInt8)
  maps : List Mp
  rexp : Int
  imap : Int
  iany : Int
  names : List Gn
  hasC : Bool
  cons : Sb
  sk : List UInt8
  ak : List UInt8
  points : List Pt
  fresh : List Pt
  unk : List Ex
  deriving DecidableEq
structure Ce where
  raw : List UInt8
  tbs : List UInt8
  serial : Int
  issuer : Nm
  subject : Nm
  nb : Int
  na : Int
  key : Ky
  info : In
  sig : List UInt8
  deriving DecidableEq
structure Pg where
  issuer : Nm
  key : Ky
  lists : Bool
  len : Int
  expl : Int
  map : Int
  any : Int
  names : List Sb
  deriving DecidableEq
structure Qu where
  time : Int
  purpose : List UInt8
  usage : Int
  policies : List (List UInt8)
  expl : Bool
  nomap : Bool
  noany : Bool
  names : List Gn
  maxlen : Int
  status : Bool
  issuers : List An
  deriving DecidableEq

def Mp.c (m : Mp) : List V := [.str m.i, .str m.s]
def mpsV (l : List Mp) : V := .sl l.length (l.flatMap Mp.c)
def Pt.c (p : Pt) : List V := [gnsV p.names, .int .i64 p.reasons, .bool p.has, nmV p.issuer]
def ptsV (l : List Pt) : V := .sl l.length (l.flatMap Pt.c)
def Ex.c (x : Ex) : List V := [.str x.id, .bool x.crit, .str x.v]
def exsV (l : List Ex) : V := .sl l.length (l.flatMap Ex.c)
def strV (l : List (List UInt8)) : V := .sl l.length (l.map V.str)
def In.c (i : In) : List V := [.bool i.basic, .bool i.ca, .int .i64 i.plen, .int .i64 i.usage, strV i.purposes, strV i.policies, mpsV i.maps, .int .i64 i.rexp, .int .i64 i.imap, .int .i64 i.iany, gnsV i.names, .bool i.hasC,
  gnsV i.cons.p, gnsV i.cons.x, .str i.sk, .str i.ak, ptsV i.points, ptsV i.fresh, exsV i.unk]
def Ce.c (c : Ce) : List V := [.str c.raw, .str c.tbs, .int .i64 c.serial, nmV c.issuer, nmV c.subject, .int .i64 c.nb, .int .i64 c.na, .int .i64 c.key.h, .str c.key.id, .str c.key.root,
  .bool c.info.basic, .bool c.info.ca, .int .i64 c.info.plen, .int .i64 c.info.usage, strV c.info.purposes, strV c.info.policies, mpsV c.info.maps, .int .i64 c.info.rexp, .int .i64 c.info.imap, .int .i64 c.info.iany, gnsV c.info.names, .bool c.info.hasC,
  gnsV c.info.cons.p, gnsV c.info.cons.x, .str c.info.sk, .str c.info.ak, ptsV c.info.points, ptsV c.info.fresh, exsV c.info.unk, .str c.sig]
def Pg.c (s : Pg) : List V := [nmV s.issuer, .int .i64 s.key.h, .str s.key.id, .str s.key.root, .bool s.lists, .int .i64 s.len, .int .i64 s.expl, .int .i64 s.map, .int .i64 s.any, sbsV s.names]
def Qu.c (q : Qu) : List V := [.int .i64 q.time, .str q.purpose, .int .i64 q.usage, strV q.policies, .bool q.expl, .bool q.nomap, .bool q.noany, gnsV q.names, .int .i64 q.maxlen, .bool q.status, ansV q.issuers]

@[simp] theorem mpsV_pure (r : List Mp) : (mpsV r).Pure := .sl
@[simp] theorem ptsV_pure (r : List Pt) : (ptsV r).Pure := .sl
@[simp] theorem exsV_pure (r : List Ex) : (exsV r).Pure := .sl
@[simp] theorem strV_pure (r : List (List UInt8)) : (strV r).Pure := .sl
@[simp] theorem mpsV_one (r : List Mp) : (mpsV r).one = true := rfl
@[simp] theorem ptsV_one (r : List Pt) : (ptsV r).one = true := rfl
@[simp] theorem exsV_one (r : List Ex) : (exsV r).one = true := rfl
@[simp] theorem strV_one (r : List (List UInt8)) : (strV r).one = true := rfl
@[simp] theorem In.c_pures (i : In) : Pures i.c := by simp [In.c]
@[simp] theorem Ce.c_pures (i : Ce) : Pures i.c := by simp [Ce.c]
@[simp] theorem Pg.c_pures (i : Pg) : Pures i.c := by simp [Pg.c]
@[simp] theorem Qu.c_pures (i : Qu) : Pures i.c := by simp [Qu.c]

def nza : V → V
  | .agg cs => .agg (cs.map nz)
  | x => nz x
def nzt : V → V
  | .tup vs => .tup (vs.map nza)
  | x => nza x
theorem rd_nza {w : World} {ro : Nat → Prop} {ρ : Rho} {u : Value} {v : V} (h : Rd w ro ρ u v) : Rd w ro ρ u (nza v) := by
  cases v with
  | agg cs =>
    obtain ⟨us, rfl, hl, hr⟩ : ∃ us : Array Value, u = .agg us ∧ us.size = cs.length ∧ ∀ (i : Nat) u x, us[i]? = some u → cs[i]? = some x → Rd w ro ρ u x := by
      cases h with
      | agg h1 h2 => exact ⟨_, rfl, h1, h2⟩
    refine .agg (by simpa using hl) fun i u x hu hx => ?_
    rw [List.getElem?_map] at hx
    cases hc : cs[i]? with
    | none => rw [hc] at hx; simp at hx
    | some y =>
      rw [hc] at hx
      simp at hx
      subst hx
      exact (hr i u y hu hc).nz
  | _ => exact h.nz
theorem rd_nzt {w : World} {ro : Nat → Prop} {ρ : Rho} {u : Value} {v : V} (h : Rd w ro ρ u v) : Rd w ro ρ u (nzt v) := by
  cases v with
  | tup cs =>
    obtain ⟨us, rfl, hl, hr⟩ : ∃ us : Array Value, u = .tuple us ∧ us.size = cs.length ∧ ∀ (i : Nat) u x, us[i]? = some u → cs[i]? = some x → Rd w ro ρ u x := by
      cases h with
      | tup h1 h2 => exact ⟨_, rfl, h1, h2⟩
    refine .tup (by simpa using hl) fun i u x hu hx => ?_
    rw [List.getElem?_map] at hx
    cases hc : cs[i]? with
    | none => rw [hc] at hx; simp at hx
    | some y =>
      rw [hc] at hx
      simp at hx
      subst hx
      exact rd_nza (hr i u y hu hc)
  | _ => exact rd_nza h
theorem pcall_nzt {P : Program} {f : FuncId} {args : List V} {r : V} (h : PCall P f args r) {r' : V} (e : nzt r = r') (hp : r'.Pure) : PCall P f args r' :=
  ⟨hp, h.2.1, fun w ro ρ vs g go ha => (h.2.2 w ro ρ vs g go ha).mono fun e' w' ⟨v, r1, rows', ro', ρ', h1, h2, h3, h4⟩ => by
    subst h2; subst e
    exact ⟨_, _, rows', ro', ρ', h1, rfl, h3, rd_nzt h4⟩⟩
theorem acalls_nza {P : Program} {f : FuncId} {args args' : List V} {rows : List Row} {R : V → List Row → Prop} (h : ACalls P f args' rows R) (e : args.map nza = args') : ACalls P f args rows R := by
  subst e
  exact ⟨h.1, fun w ro ρ vs g go ha => h.2 w ro ρ vs g go ⟨by simpa using ha.1, fun i u x hu hx => by
    rw [List.getElem?_map] at hx
    cases hc : args[i]? with
    | none => rw [hc] at hx; simp at hx
    | some y =>
      rw [hc] at hx
      simp at hx
      subst hx
      exact rd_nza (ha.2 i u y hu hc)⟩⟩
theorem pcall_nza {P : Program} {f : FuncId} {args args' : List V} {r : V} (h : PCall P f args' r) (e : args.map nza = args') : PCall P f args r := ⟨h.1, acalls_nza h.2 e⟩

def sO : List UInt8 := [50, 46, 53, 46, 52, 46, 49, 48]
def sOU : List UInt8 := [50, 46, 53, 46, 52, 46, 49, 49]
def authV (k : Nat) : List UInt8 := (if 8 ≤ k % 16 then [32, 99, 97, 32, 32] else [67, 65, 32]) ++ [UInt8.ofNat (48 + k % 8 / 2)]
def authN (k : Nat) : Nm := [⟨sO, 19, authV k⟩] :: (if k % 2 = 1 then [[⟨sOU, 12, [85, 110, 105, 116]⟩]] else [])
def namedN (k : Nat) : Nat := [0, 2, 4, 12, 6, 1, 14, 3].getD k 0
theorem namedN_lt (k : Nat) (h : k < 8) : namedN k < 16 := by
  match k, h with
  | 0, _ | 1, _ | 2, _ | 3, _ | 4, _ | 5, _ | 6, _ | 7, _ => decide
end Go.Stp
namespace Go.Proofs.YtcfmanhblonjeaaGreatDoor
open Go.VS Go.Stp
set_option linter.all false
set_option maxRecDepth 100000
set_option maxHeartbeats 4000000
attribute [local irreducible] arun arunD AWp aend
theorem dec_call (k : Nat) (h : k < 10) : PCall Tryz.prog 45 [.int .i64 k] (.str [UInt8.ofNat (48 + k)]) := by
  refine pcall_body Tryz.func45 rfl Tryz.call45 ?_ ?_
  rotate_left 1
  refine awp_slots (s' := (.int .i64 k : V) :: zJ 19) rfl ?_; dsimp only [zJ]
  match k, h with
  | 0, _ | 1, _ | 2, _ | 3, _ | 4, _ | 5, _ | 6, _ | 7, _ | 8, _ | 9, _ =>
    repeat' (first | ((first | refine Y0 rfl fun K9 h9 => ?_ | refine Y1 rfl rfl fun K9 h9 => ?_ | refine Y2 rfl rfl fun K9 h9 => ?_); simp (disch := first | exact dd | fail); (try simp (disch := first | exact de | fail) only [X7]); ((repeat (refine Yz ?_)); (first | refine h9 _ _ (Ys ?_) | refine h9 _ _ (Yt ?_)); clear h9 K9)) | refine Y6 ?_ | refine Y7 ?_ | (refine Y8 fun K hK => ?_) | refine Y9 ?_ | (apply hK; clear hK K) | ((first | refine Yk (m := 3) (by decide +kernel) [] (by kernel_rfl) (by decide +kernel) ?_); simp only [List.replicate, XL]) | (refine Yb rfl ?_ ?_ <;> intro hcnd <;> (try simp at hcnd) <;> try exact dc) | refine Yc ?_ | (refine Ye ?_; refine Yf ?_) | refine Yg ?_ | (simp only [X0, Nat.reduceBEq]) | clear hK K)
    all_goals exact .pure .str
  exact .str

theorem named_call (k : Nat) (h : k < 8) : PCall Tryz.prog 21 [.int .i64 k] (.int .i64 (namedN k)) := by
  refine pcall_body Tryz.func21 rfl Tryz.call21 ?_ ?_
  rotate_left 1
  refine awp_slots (s' := (.int .i64 k : V) :: zJ 7) rfl ?_; dsimp only [zJ]
  match k, h with
  | 0, _ | 1, _ | 2, _ | 3, _ | 4, _ | 5, _ | 6, _ | 7, _ =>
    repeat' (first | (refine Y0 rfl fun K9 h9 => ?_; simp (disch := first | exact dd | fail); (try simp (disch := first | exact de | fail) only [X7]); ((repeat (refine Yz ?_)); (first | refine h9 _ _ (Ys ?_)); clear h9 K9)) | refine Y6 ?_ | (refine Y8 fun K hK => ?_) | refine Y9 ?_ | (apply hK; clear hK K) | (refine Ye ?_; refine Yf ?_) | refine Yg ?_ | (simp only [X0, Nat.reduceBEq]) | clear hK K)
    all_goals exact .pure .int
  exact .int

def pubK (k : Nat) : Ky := ⟨0, idS (mseedS (1000 + k)), rootS (idS (mseedS (1000 + k))) (mseedS (1000 + k)) 0⟩
theorem ekey_call (k : Nat) (h : k < 8) : PCall Tryz.prog 47 [.int .i64 k] (rtV (mseedS (1000 + k)) 0) := by
  refine pcall_body Tryz.func47 rfl Tryz.call47 ?_ ?_
  rotate_left 1
  refine awp_slots (s' := (.int .i64 k : V) :: zJ 6) rfl ?_; dsimp only [zJ]
  have ht := tree_call (1000 + k) 0 (by omega)
  have e : (k : Int) % 8 = k := by omega
  unfold rtV at *
  repeat' (first | (refine Y0 rfl fun K9 h9 => ?_; simp (disch := first | exact dd | fail) [e]; (try simp (disch := first | exact de | fail) only [X7]); ((first | refine Ap ht ?_ | skip) <;> ((repeat (refine Yz ?_)); (first | refine h9 _ _ (Ys ?_)); clear h9 K9))) | refine Y6 ?_ | (refine Y8 fun K hK => ?_) | refine Y9 ?_ | (apply hK; clear hK K) | (refine Ye ?_; refine Yf ?_) | refine Yg ?_ | (simp only [X0, Nat.reduceBEq]) | clear hK K)
  · simp
    exact .pure (by simp)
  · simp
theorem public_call (k : Nat) (h : k < 8) : PCall Tryz.prog 22 [.int .i64 k] (.agg (pubK k).c) := by
  have h1 := ekey_call k h
  have h2 := keyOf_call (mseedS (1000 + k)) 0 (by omega)
  refine pcall_body Tryz.func22 rfl Tryz.call22 ?_ ?_
  rotate_left 1
  refine awp_slots (s' := (.int .i64 k : V) :: zJ 5) rfl ?_; dsimp only [zJ]
  rw [show (.agg (pubK k).c : V) = keyV 0 (idS (mseedS (1000 + k))) (rootS (idS (mseedS (1000 + k))) (mseedS (1000 + k)) 0) from rfl]
  unfold keyV rtV at *
  repeat' (first | (refine Y0 rfl fun K9 h9 => ?_; simp (disch := first | exact dd | fail); (try simp (disch := first | exact de | fail) only [X7]); ((first | refine Ap h1 ?_ | refine Ap h2 ?_ | skip) <;> ((repeat (refine Yz ?_)); (first | refine h9 _ _ (Ys ?_)); clear h9 K9))) | refine Y6 ?_ | (refine Y8 fun K hK => ?_) | refine Y9 ?_ | (apply hK; clear hK K) | (refine Ye ?_; refine Yf ?_) | refine Yg ?_ | (simp only [X0, Nat.reduceBEq]) | clear hK K)
  · simp
    exact .pure (by simp)
  · simp [Ky.c]
theorem view_osls {rows : List Row} {id n sz : Nat} {cs cs' : List V} (h : rows[id]? = some (.live cs)) (hl : n * sz = cs.length) (hv : Views rows cs cs') : View rows (.osl id 0 n sz) (.sl n cs') := by
  have hg := hv.get
  refine .osl h (by omega) (by omega) fun i x y hx hy => hg.2 i x y (by simpa using hx) hy

theorem auth_call (k : Nat) (h : k < 16) : PCall Tryz.prog 20 [.int .i64 k] (.agg [nmV (authN k)]) := by
  have hd := dec_call (k % 8 / 2) (by omega)
  refine pcall_body Tryz.func20 rfl Tryz.call20 ?_ ?_
  rotate_left 1
  refine awp_slots (s' := (.int .i64 k : V) :: zJ 33) rfl ?_; dsimp only [zJ]
  have e16 : (k : Int) % 16 = k := by omega
  have e16n : k % 16 = k := by omega
  have e8 : (k : Int) % 8 / 2 = ((k % 8 / 2 : Nat) : Int) := by omega
  have hbt : (48 + k % 8 / 2) < 256 := by omega
  unfold authN authV nmV
  rw [e16n]
  generalize hD : UInt8.ofNat (48 + k % 8 / 2) = D at *
  rw [← e8] at hd
  clear hD hbt e8 e16n
  by_cases h8 : 8 ≤ k <;> by_cases h2 : k % 2 = 1
  · have h8i : (8 : Int) ≤ k := by omega
    have h2i : (k : Int) % 2 = 1 := by omega
    rw [if_pos h8, if_pos h2]
    repeat' (first | (refine Y0 rfl fun K9 h9 => ?_; simp (disch := first | exact dd | fail) [h8i, h2i, e16]; (try simp (disch := first | exact de | fail) only [X7]); ((first | refine Ap hd ?_ | skip) <;> ((repeat (refine Yz ?_)); (first | refine h9 _ _ (Ys ?_)); clear h9 K9))) | refine Y6 ?_ | (refine Y8 fun K hK => ?_) | refine Y9 ?_ | (apply hK; clear hK K) | (refine Yb rfl ?_ ?_ <;> intro hcnd <;> (try simp at hcnd) <;> try exact dc) | refine Yc ?_ | (refine Ye ?_; refine Yf ?_) | refine Yg ?_ | (simp only [X0, Nat.reduceBEq]) | clear hK K)
    simp
    exact view_agg ⟨view_osls rfl rfl ⟨view_row rfl rfl (by simp [At.c]), view_row rfl rfl (by simp [At.c]), trivial⟩, trivial⟩
  · have h8i : (8 : Int) ≤ k := by omega
    have h2i : ¬ (k : Int) % 2 = 1 := by omega
    rw [if_pos h8, if_neg h2]
    repeat' (first | (refine Y0 rfl fun K9 h9 => ?_; simp (disch := first | exact dd | fail) [h8i, h2i, e16]; (try simp (disch := first | exact de | fail) only [X7]); ((first | refine Ap hd ?_ | skip) <;> ((repeat (refine Yz ?_)); (first | refine h9 _ _ (Ys ?_)); clear h9 K9))) | refine Y6 ?_ | (refine Y8 fun K hK => ?_) | refine Y9 ?_ | (apply hK; clear hK K) | (refine Yb rfl ?_ ?_ <;> intro hcnd <;> (try simp at hcnd) <;> try exact dc) | refine Yc ?_ | (refine Ye ?_; refine Yf ?_) | refine Yg ?_ | (simp only [X0, Nat.reduceBEq]) | clear hK K)
    simp
    exact view_agg ⟨view_osls rfl rfl ⟨view_row rfl rfl (by simp [At.c]), trivial⟩, trivial⟩
  · have h8i : ¬ (8 : Int) ≤ k := by omega
    have h2i : (k : Int) % 2 = 1 := by omega
    rw [if_neg h8, if_pos h2]
    repeat' (first | (refine Y0 rfl fun K9 h9 => ?_; simp (disch := first | exact dd | fail) [h8i, h2i, e16]; (try simp (disch := first | exact de | fail) only [X7]); ((first | refine Ap hd ?_ | skip) <;> ((repeat (refine Yz ?_)); (first | refine h9 _ _ (Ys ?_)); clear h9 K9))) | refine Y6 ?_ | (refine Y8 fun K hK => ?_) | refine Y9 ?_ | (apply hK; clear hK K) | (refine Yb rfl ?_ ?_ <;> intro hcnd <;> (try simp at hcnd) <;> try exact dc) | refine Yc ?_ | (refine Ye ?_; refine Yf ?_) | refine Yg ?_ | (simp only [X0, Nat.reduceBEq]) | clear hK K)
    simp
    exact view_agg ⟨view_osls rfl rfl ⟨view_row rfl rfl (by simp [At.c]), view_row rfl rfl (by simp [At.c]), trivial⟩, trivial⟩
  · have h8i : ¬ (8 : Int) ≤ k := by omega
    have h2i : ¬ (k : Int) % 2 = 1 := by omega
    rw [if_neg h8, if_neg h2]
    repeat' (first | (refine Y0 rfl fun K9 h9 => ?_; simp (disch := first | exact dd | fail) [h8i, h2i, e16]; (try simp (disch := first | exact de | fail) only [X7]); ((first | refine Ap hd ?_ | skip) <;> ((repeat (refine Yz ?_)); (first | refine h9 _ _ (Ys ?_)); clear h9 K9))) | refine Y6 ?_ | (refine Y8 fun K hK => ?_) | refine Y9 ?_ | (apply hK; clear hK K) | (refine Yb rfl ?_ ?_ <;> intro hcnd <;> (try simp at hcnd) <;> try exact dc) | refine Yc ?_ | (refine Ye ?_; refine Yf ?_) | refine Yg ?_ | (simp only [X0, Nat.reduceBEq]) | clear hK K)
    simp
    exact view_agg ⟨view_osls rfl rfl ⟨view_row rfl rfl (by simp [At.c]), trivial⟩, trivial⟩
  simp
end Go.Proofs.YtcfmanhblonjeaaGreatDoor
namespace Go.Stp
open Go.VS
theorem rens_fst {i : Nat} {rest : List V} (h : ∀ x ∈ rest, x.Pure) : Rens false [some i] (.ref 0 0 :: rest) (.ref i 0 :: rest) := ⟨by simp, rens_self h⟩
theorem acallF_mutd {P : Program} {f : FuncId} {rest row row' : List V} {r : V} {rows : List Row} {k : KV} {i : Nat} (hc : MCall P f (.ref 0 0 :: rest) row row' r) (hrow : rows[i]? = some (.live row)) (hp : Pures row) (hp' : Pures row') (hr : r.Pure)
    (h : ∀ x ∈ rest, x.Pure) (hk : k r (rows.set i (.live row'))) : acallF P f (.ref i 0 :: rest) rows k := acallF_mut i hc hrow hp hp' hr (rens_fst h) hk
theorem acall_mutd {P : Program} {f : FuncId} {rest row row' : List V} {r : V} {rows : List Row} {k : KV} {i : Nat} (hc : MCall P f (.ref 0 0 :: rest) row row' r) (hrow : rows[i]? = some (.live row)) (hp : Pures row) (hp' : Pures row') (hr : r.Pure)
    (h : ∀ x ∈ rest, x.Pure) (hk : k r (rows.set i (.live row'))) : acall P false (.fn (.func f) []) (.ref i 0 :: rest) rows k := acall_mut i hc hrow hp hp' hr (by rw [List.append_nil]; exact rens_fst h) hk
def noneI : In := ⟨false, false, -1, 0, [], [], [], -1, -1, -1, [], false, ⟨[], []⟩, [], [], [], [], []⟩
def limitS (b : Bool) : Int := if b then 0 else 9
def leastS (n o : Int) : Int := if o ≠ -1 ∧ o < n then o else n
def finalS (s : Pg) (c : Ce) : Int := if c.info.rexp = 0 then 0 else if 0 < s.expl then s.expl - 1 else s.expl
end Go.Stp
namespace Go.Proofs.YtcfmanhblonjeaaGreatDoor
open Go.VS Go.Stp
set_option linter.all false
set_option maxRecDepth 100000
set_option maxHeartbeats 4000000
attribute [local irreducible] arun arunD AWp aend
def anc (k : Nat) : An := ⟨authN (namedN k), pubK k⟩
def beginS (a : An) (q : Qu) : Pg := ⟨a.n, a.k, true, 8, limitS q.expl, limitS q.nomap, limitS q.noany, []⟩
theorem Ky.c_pures (k : Ky) : Pures k.c := by simp [Ky.c]

theorem anchor_call (k : Nat) (h : k < 8) : PCall Tryz.prog 18 [.int .i64 k] (.agg (anc k).c) := by
  have h1 := named_call k h
  have h2 := auth_call (namedN k) (namedN_lt k h)
  have h3 := public_call k h
  show PCall _ _ _ (.agg [nmV (authN (namedN k)), .int .i64 (pubK k).h, .str (pubK k).id, .str (pubK k).root])
  replace h3 : PCall Tryz.prog 22 [.int .i64 k] (.agg [.int .i64 (pubK k).h, .str (pubK k).id, .str (pubK k).root]) := h3
  generalize pubK k = K at *
  have hA := nmV_one (authN (namedN k))
  have hA2 := nmV_pure (authN (namedN k))
  generalize nmV (authN (namedN k)) = A at *
  refine pcall_body Tryz.func18 rfl Tryz.call18 ?_ ?_
  rotate_left 1
  refine awp_slots (s' := (.int .i64 k : V) :: zJ 8) rfl ?_; dsimp only [zJ]
  repeat' (first | (refine Y0 rfl fun K9 h9 => ?_; simp (disch := first | exact dd | fail) [hA, hA2]; (try simp (disch := first | exact de | fail) only [X7]); ((first | refine Ap h1 ?_ | refine Ap h2 ?_ | refine Ap h3 ?_ | skip) <;> ((repeat (refine Yz ?_)); (first | refine h9 _ _ (Ys ?_)); clear h9 K9))) | refine Y6 ?_ | (refine Y8 fun K hK => ?_) | refine Y9 ?_ | (apply hK; clear hK K) | (refine Ye ?_; refine Yf ?_) | refine Yg ?_ | (simp only [X0, Nat.reduceBEq]) | clear hK K)
  · simp
    exact .pure (by simp [hA2])
  · simp [hA2]

theorem none_call : PCall Tryz.prog 23 [] (.agg noneI.c) := by
  refine pcall_nzt (r := .agg [.bool false, .bool false, .int .i64 (-1), .int .i64 0, .nils, .nils, .nils, .int .i64 (-1), .int .i64 (-1), .int .i64 (-1), .nils, .bool false, .nils, .nils, .str [], .str [], .nils, .nils, .nils]) ?_ rfl (by simp)
  refine pcall_body Tryz.func23 rfl Tryz.call23 ?_ ?_
  rotate_left 1
  refine awp_slots (s' := [.junk, .junk]) rfl ?_
  repeat' (first | (refine Y0 rfl fun K9 h9 => ?_; simp (disch := first | exact dd | fail); (try simp (disch := first | exact de | fail) only [X7]); ((repeat (refine Yz ?_)); (first | refine h9 _ _ (Ys ?_)); clear h9 K9)) | refine Y6 ?_ | (refine Y8 fun K hK => ?_) | refine Y9 ?_ | (apply hK; clear hK K) | (refine Ye ?_; refine Yf ?_) | refine Yg ?_ | (simp only [X0, Nat.reduceBEq]) | clear hK K)
  · simp
    exact .pure (by simp)
  · simp

theorem limit_call (b : Bool) : PCall Tryz.prog 60 [.bool b] (.int .i64 (limitS b)) := by
  refine pcall_body Tryz.func60 rfl Tryz.call60 ?_ ?_
  rotate_left 1
  refine awp_slots (s' := (.bool b : V) :: zJ 3) rfl ?_; dsimp only [zJ]
  cases b
  · repeat' (first | (refine Y0 rfl fun K9 h9 => ?_; simp (disch := first | exact dd | fail); (try simp (disch := first | exact de | fail) only [X7]); ((repeat (refine Yz ?_)); (first | refine h9 _ _ (Ys ?_)); clear h9 K9)) | refine Y6 ?_ | (refine Y8 fun K hK => ?_) | refine Y9 ?_ | (apply hK; clear hK K) | (refine Yb rfl ?_ ?_ <;> intro hcnd <;> (try simp at hcnd) <;> try exact dc) | refine Yc ?_ | (refine Ye ?_; refine Yf ?_) | refine Yg ?_ | (simp only [X0, Nat.reduceBEq]) | clear hK K)
    exact .pure .int
  · repeat' (first | (refine Y0 rfl fun K9 h9 => ?_; simp (disch := first | exact dd | fail); (try simp (disch := first | exact de | fail) only [X7]); ((repeat (refine Yz ?_)); (first | refine h9 _ _ (Ys ?_)); clear h9 K9)) | refine Y6 ?_ | (refine Y8 fun K hK => ?_) | refine Y9 ?_ | (apply hK; clear hK K) | (refine Yb rfl ?_ ?_ <;> intro hcnd <;> (try simp at hcnd) <;> try exact dc) | refine Yc ?_ | (refine Ye ?_; refine Yf ?_) | refine Yg ?_ | (simp only [X0, Nat.reduceBEq]) | clear hK K)
    exact .pure .int
  exact .int

theorem least_call (n o : Int) : PCall Tryz.prog 66 [.int .i64 n, .int .i64 o] (.int .i64 (leastS n o)) := by
  refine pcall_body Tryz.func66 rfl Tryz.call66 ?_ ?_
  rotate_left 1
  refine awp_slots (s' := (.int .i64 n : V) :: (.int .i64 o : V) :: zJ 12) rfl ?_; dsimp only [zJ]
  by_cases h1 : o = -1
  · repeat' (first | ((first | refine Y0 rfl fun K9 h9 => ?_ | (refine Y3 ?_ ?_; (focus (simp [h1]; done)); intro K9 h9)); simp (disch := first | exact dd | fail) [h1]; (try simp (disch := first | exact de | fail) only [X7]); ((repeat (refine Yz ?_)); (first | refine h9 _ _ (Ys ?_)); clear h9 K9)) | refine Y6 ?_ | (refine Y8 fun K hK => ?_) | refine Y9 ?_ | (apply hK; clear hK K) | (refine Yb rfl ?_ ?_ <;> intro hcnd <;> (try simp at hcnd) <;> try exact dc) | refine Yc ?_ | (refine Ye ?_; refine Yf ?_) | (refine Yh ?_ ?_; (focus (simp [h1]; done)); refine Ys ?_) | refine Yg ?_ | (simp only [X0, Nat.reduceBEq]) | clear hK K)
    rw [show leastS n o = n by simp [leastS, h1]]
    exact .pure .int
  · by_cases h2 : o < n
    · repeat' (first | ((first | refine Y0 rfl fun K9 h9 => ?_ | (refine Y3 ?_ ?_; (focus (simp [h1, h2]; done)); intro K9 h9)); simp (disch := first | exact dd | fail) [h1, h2]; (try simp (disch := first | exact de | fail) only [X7]); ((repeat (refine Yz ?_)); (first | refine h9 _ _ (Ys ?_)); clear h9 K9)) | refine Y6 ?_ | (refine Y8 fun K hK => ?_) | refine Y9 ?_ | (apply hK; clear hK K) | (refine Yb rfl ?_ ?_ <;> intro hcnd <;> (try simp at hcnd) <;> try exact dc) | refine Yc ?_ | (refine Ye ?_; refine Yf ?_) | (refine Yh ?_ ?_; (focus (simp [h1, h2]; done)); refine Ys ?_) | refine Yg ?_ | (simp only [X0, Nat.reduceBEq]) | clear hK K)
      rw [show leastS n o = o by simp [leastS, h1, h2]]
      exact .pure .int
    · repeat' (first | ((first | refine Y0 rfl fun K9 h9 => ?_ | (refine Y3 ?_ ?_; (focus (simp [h1, h2]; done)); intro K9 h9)); simp (disch := first | exact dd | fail) [h1, h2]; (try simp (disch := first | exact de | fail) only [X7]); ((repeat (refine Yz ?_)); (first | refine h9 _ _ (Ys ?_)); clear h9 K9)) | refine Y6 ?_ | (refine Y8 fun K hK => ?_) | refine Y9 ?_ | (apply hK; clear hK K) | (refine Yb rfl ?_ ?_ <;> intro hcnd <;> (try simp at hcnd) <;> try exact dc) | refine Yc ?_ | (refine Ye ?_; refine Yf ?_) | (refine Yh ?_ ?_; (focus (simp [h1, h2]; done)); refine Ys ?_) | refine Yg ?_ | (simp only [X0, Nat.reduceBEq]) | clear hK K)
      rw [show leastS n o = n by simp [leastS, h2]]
      exact .pure .int
  exact .int

end Go.Proofs.YtcfmanhblonjeaaGreatDoor
namespace Go.Proofs.YtcfmanhblonjeaaGreatDoor
open Go.VS Go.Stp
set_option linter.all false
set_option maxRecDepth 100000
attribute [local irreducible] arun arunD AWp aend
theorem aeffS_loadA {P : Program} {F : List (Nat × Nat × V)} {s : List V} {rows : List Row} {k : KV} {t : TypeId} {a : Operand} {j off : Nat} {vs : List V} (ha : oval s a = .ref j off) (hu : uagg P t = some true) (hn : usz P t = some vs.length) (h0 : vs ≠ [])
    (hF : ∀ (i : Nat) v, vs[i]? = some v → (j, off + i, v) ∈ F) (hk : k (.agg vs) rows) : aeffS P F (.load t a) s rows k := by
  refine ⟨.agg vs, fun rows2 h => ?_, hk⟩
  obtain ⟨v0, hv0⟩ : ∃ v0, vs[0]? = some v0 := by cases vs with | nil => exact absurd rfl h0 | cons x _ => exact ⟨x, rfl⟩
  obtain ⟨cs, h1, h2⟩ := h _ (hF 0 v0 hv0)
  have hall : ∀ (i : Nat) v, vs[i]? = some v → cs[off + i]? = some v := fun i v hv => by
    obtain ⟨cs', q1, q2⟩ := h _ (hF i v hv)
    dsimp only at q1 q2 h1
    rw [h1] at q1
    obtain rfl : cs = cs' := by simpa using q1
    exact q2
  have hle : off + vs.length ≤ cs.length := by
    have hpos : 0 < vs.length := List.length_pos_iff.2 h0
    have := (List.getElem?_eq_some_iff.1 (hall (vs.length - 1) (vs[vs.length - 1]'(by omega)) (List.getElem?_eq_getElem (by omega)))).1
    omega
  have he : (cs.drop off).take vs.length = vs := by
    apply List.ext_getElem?
    intro i
    rw [List.getElem?_take]
    split
    · rename_i hi
      rw [List.getElem?_drop, hall i _ (List.getElem?_eq_getElem hi), List.getElem?_eq_getElem hi]
    · rw [List.getElem?_eq_none (by omega)]
  simp only [aeff, ha, aload]
  refine ⟨cs, h1, ?_, ?_⟩
  · rintro rfl; simp at h2
  · simp only [acells, hu]
    exact ⟨_, hn, hle, by rw [he], trivial⟩
theorem flat_take_succ {α β : Type} {f : α → List β} (l : List α) (i : Nat) (h : i < l.length) : (l.take (i + 1)).flatMap f = (l.take i).flatMap f ++ f l[i] := by
  rw [List.take_succ_eq_append_getElem h, List.flatMap_append]; simp
theorem map_take_succ {α β : Type} {f : α → β} (l : List α) (i : Nat) (h : i < l.length) : (l.take (i + 1)).map f = (l.take i).map f ++ [f l[i]] := by
  rw [List.take_succ_eq_append_getElem h, List.map_append]; simp

theorem scname_call (x : Gn) (hx : WN x.name) : PCall Tryz.prog 113 [.agg x.c] (.agg x.c) := by
  show PCall _ _ [.agg [.int .i64 x.kind, .str x.text, .sl x.name.length (x.name.map atsV)]] (.agg [.int .i64 x.kind, .str x.text, .sl x.name.length (x.name.map atsV)])
  obtain ⟨hl, hx2⟩ := hx
  generalize x.name = n at *
  refine pcall_body Tryz.func113 rfl Tryz.call113 ?_ ?_
  rotate_left 1
  refine awp_slots (s' := (.agg [.int .i64 x.kind, .str x.text, .sl n.length (n.map atsV)] : V) :: zJ 23) rfl ?_; dsimp only [zJ]
  repeat' (first | (refine Y0 rfl fun K9 h9 => ?_; simp (disch := first | exact dd | fail); (try simp (disch := first | exact de | fail) only [X7]); ((repeat (refine Yz ?_)); (first | refine h9 _ _ (Ys ?_)); clear h9 K9)) | refine Y6 ?_ | (refine Y8 fun K hK => ?_) | refine Y9 ?_ | (apply hK; clear hK K) | refine Ya ?_ | (refine Yb rfl ?_ ?_ <;> intro hcnd <;> (try simp at hcnd) <;> try exact dc) | refine Yc ?_ | (refine Yd ?_; simp only [X0, Nat.reduceBEq]) | (refine Ye ?_; refine Yf ?_) | refine Yg ?_ | (simp only [X0, Nat.reduceBEq]) | clear hK K)
  · refine awp_countU (fun i => (some V.junk :: zN 2 (some (V.osl 2 0 i 1) :: none :: zS 3 (zN 2 (some (V.int .i64 i) :: zS 13 []))))) (fun i => [.live [.int .i64 x.kind, .str x.text, .sl n.length (n.map atsV)], .live [.int .i64 0, .str [], .nils], .live ((n.take i).map atsV)]) n.length ?_ fun i hi KL hL => ?_
    · dsimp only [ups, zN, zS]
      exact Yr [some 0, some 1, none] (by simp [rowsOver])
    dsimp only [ups, zN, zS]
    rcases Nat.lt_or_ge i n.length with hi | hi
    · have hml := (hx2 _ (List.getElem_mem hi)).1
      have hsucc := map_take_succ (f := atsV) n i hi
      rw [hsucc] at hL
      clear hsucc
      have hll := ats_len n[i]
      have hpu := ats_pures n[i]
      have hon := flat_one At.c_one n[i]
      have htl : ((n.take i).map atsV).length = i := by simp; omega
      have htp : Pures ((n.take i).map atsV) := nms_pures _
      obtain ⟨y, hy⟩ : ∃ y, n[i] = y := ⟨_, rfl⟩
      rw [hy] at hml hL hll hpu hon
      have hyV : atsV y = .sl y.length (y.flatMap At.c) := rfl
      rw [hyV] at hL
      generalize y.flatMap At.c = cy at *
      iterate 9 (first | (refine Y0 rfl fun K9 h9 => ?_; simp (disch := first | exact dd | fail) [hy, hyV]; (try simp (disch := first | exact de | fail) only [X7]); ((repeat (refine Yz ?_)); (first | refine h9 _ _ (Ys ?_)); clear h9 K9)) | refine Y6 ?_ | (refine Y8 fun K hK => ?_) | refine Y9 ?_ | (apply hK; clear hK K) | refine Ya ?_ | (refine Yb rfl ?_ ?_ <;> intro hcnd <;> (try simp at hcnd) <;> try exact dc) | refine Yc ?_ | (refine Yd ?_; simp only [X0, Nat.reduceBEq]) | (refine Ye ?_; refine Yf ?_) | refine Yg ?_ | (simp only [X0, Nat.reduceBEq]) | (clear hK K; first | (apply hK; clear hK K) | (clear hK K; first | (apply hK; clear hK K) | (clear hK K; first | (apply hK; clear hK K) | (clear hK K; apply hK; clear hK K)))))
      refine awp_seq fun K0 hK0 => ?_
      repeat' (first | (refine Y0 rfl fun K9 h9 => ?_; simp (disch := first | exact dd | fail) [hy, hyV, hll, hon]; (try simp (disch := first | exact de | fail) only [X7]); ((repeat (refine Yz ?_)); (first | refine h9 _ _ (Ys ?_)); clear h9 K9)) | refine Y6 ?_ | (refine Y8 fun K hK => ?_) | refine Y9 ?_ | (apply hK; clear hK K) | refine Ya ?_ | (refine Yb rfl ?_ ?_ <;> intro hcnd <;> (try simp at hcnd) <;> try exact dc) | refine Yc ?_ | (refine Yd ?_; simp only [X0, Nat.reduceBEq]) | (refine Ye ?_; refine Yf ?_) | refine Yg ?_ | (simp only [X0, Nat.reduceBEq]) | clear hK K)
      refine hK0 _ _ ?_
      clear hK0 K0
      refine awp_freeze' 3 rfl hpu (by simp [fz, ← hll]; rfl) (by simp [fzRow, fz, ← hll, fz_map (nms_pures n), fz_map htp]; rfl) ?_
      repeat' (first | (refine Y0 rfl fun K9 h9 => ?_; simp (disch := first | exact dd | fail); (try simp (disch := first | exact de | fail) only [X7]); ((repeat (refine Yz ?_)); (first | refine h9 _ _ (Ys ?_)); clear h9 K9)) | refine Y6 ?_ | (refine Y8 fun K hK => ?_) | refine Y9 ?_ | (apply hK; clear hK K) | refine Ya ?_ | (refine Yb rfl ?_ ?_ <;> intro hcnd <;> (try simp at hcnd) <;> try exact dc) | refine Yc ?_ | (refine Yd ?_; simp only [X0, Nat.reduceBEq]) | (refine Ye ?_; refine Yf ?_) | refine Yg ?_ | (simp only [X0, Nat.reduceBEq]) | clear hK K)
      have hp3 : Pures (List.take i (List.map atsV n) ++ [V.sl y.length cy]) := by simp [pures_take (nms_pures n)]
      refine hL _ _ hi ?_
      exact Yr [some 0, some 1, some 5] (by simp [rowsOver, rowRen_live, List.map_take, List.take_take, rens_pures hp3])
    · obtain rfl : i = n.length := by omega
      repeat' (first | (refine Y0 rfl fun K9 h9 => ?_; simp (disch := first | exact dd | fail); (try simp (disch := first | exact de | fail) only [X7]); ((repeat (refine Yz ?_)); (first | refine h9 _ _ (Ys ?_)); clear h9 K9)) | refine Y6 ?_ | (refine Y8 fun K hK => ?_) | refine Y9 ?_ | (apply hK; clear hK K) | refine Ya ?_ | (refine Yb rfl ?_ ?_ <;> intro hcnd <;> (try simp at hcnd) <;> try exact dc) | refine Yc ?_ | (refine Yd ?_; simp only [X0, Nat.reduceBEq]) | (refine Ye ?_; refine Yf ?_) | refine Yg ?_ | (simp only [X0, Nat.reduceBEq]) | clear hK K)
      simp
      refine view_agg ⟨.pure .int, .pure .str, view_row rfl (by simp) (nms_pures n), trivial⟩
  · simp



theorem seach_gens_call (l : List Gn) (hl : l.length ≤ 65536) (hw : ∀ x ∈ l, WN x.name) : PCall Tryz.prog 112 [.sl l.length (l.flatMap Gn.c), .fn (.func 113) []] (.sl l.length (l.flatMap Gn.c)) := by
  refine pcall_body Tryz.func112 rfl Tryz.call112 ?_ ?_
  rotate_left 1
  refine awp_slots (s' := (.sl l.length (l.flatMap Gn.c) : V) :: (.fn (.func 113) [] : V) :: zJ 20) rfl ?_; dsimp only [zJ]
  have hll := flat_len Gn.c_len l
  have hcells : ∀ i (h : i < l.length), ((l.flatMap Gn.c).drop (i * 3)).take 3 = l[i].c := gens_at l
  have hcall : ∀ x ∈ l, PCall Tryz.prog 113 [.agg x.c] (.agg x.c) := fun x hx => scname_call x (hw x hx)
  have hpu := gns_pures l
  have hpt : ∀ i, Pures ((l.take i).flatMap Gn.c) := fun i => gns_pures _
  have hlt : ∀ i, i ≤ l.length → ((l.take i).flatMap Gn.c).length = i * 3 := fun i hi => by rw [flat_len Gn.c_len, List.length_take, Nat.min_eq_left hi]
  have hfull : (l.take l.length).flatMap Gn.c = l.flatMap Gn.c := by rw [List.take_length]
  have hsucc : ∀ i (h : i < l.length), (l.take (i + 1)).flatMap Gn.c = (l.take i).flatMap Gn.c ++ l[i].c := fun i h => flat_take_succ l i h
  have h0 : (l.take 0).flatMap Gn.c = [] := rfl
  obtain ⟨tk, htk⟩ : ∃ tk : Nat → List V, ∀ i, (l.take i).flatMap Gn.c = tk i := ⟨fun i => (l.take i).flatMap Gn.c, fun i => rfl⟩
  simp only [htk] at hpt hlt hfull hsucc h0
  rw [← hfull] at hll hpu hcells ⊢
  clear hfull
  repeat' (first | (refine Y0 rfl fun K9 h9 => ?_; simp (disch := first | exact dd | fail); (try simp (disch := first | exact de | fail) only [X7]); ((repeat (refine Yz ?_)); (first | refine h9 _ _ (Ys ?_)); clear h9 K9)) | refine Y6 ?_ | (refine Y8 fun K hK => ?_) | refine Y9 ?_ | (apply hK; clear hK K) | refine Ya ?_ | (refine Yb rfl ?_ ?_ <;> intro hcnd <;> (try simp at hcnd) <;> try exact dc) | refine Yc ?_ | (refine Yd ?_; simp only [X0, Nat.reduceBEq]) | (refine Ye ?_; refine Yf ?_) | refine Yg ?_ | (simp only [X0, Nat.reduceBEq]) | clear hK K)
  · refine awp_countU (fun i => (some V.junk :: zN 3 (some V.junk :: some (V.osl 0 0 i 3) :: none :: some V.junk :: zN 2 (some (V.int .i64 i) :: zS 11 [])))) (fun i => [.live (tk i)]) l.length ?_ fun i hi KL hL => ?_
    · dsimp only [ups, zN, zS]
      exact Yr [none] (by simp [rowsOver, h0])
    dsimp only [ups, zN, zS]
    have h1 := hlt i (by omega)
    have h2 := hpt i
    rcases Nat.lt_or_ge i l.length with hi | hi
    · have hg := hcells i hi
      have hcl := hcall l[i] (List.getElem_mem hi)
      have hs := hsucc i hi
      obtain ⟨x, hxx⟩ : ∃ x, l[i] = x := ⟨_, rfl⟩
      rw [hxx] at hcl hg hs
      have e : x.c = [.int .i64 x.kind, .str x.text, .sl x.name.length (x.name.map atsV)] := rfl
      rw [e] at hg hcl hs
      rw [hs] at hL
      clear hs hsucc
      generalize tk i = ti at *
      generalize tk l.length = cells at *
      repeat' (first | (refine Y0 rfl fun K9 h9 => ?_; simp (disch := first | exact dd | fail) [hg, h1]; (try simp (disch := first | exact de | fail) only [X7]); ((first | refine Ap hcl ?_ | skip) <;> ((repeat (refine Yz ?_)); (first | refine h9 _ _ (Ys ?_)); clear h9 K9))) | refine Y6 ?_ | (refine Y8 fun K hK => ?_) | refine Y9 ?_ | (apply hK; clear hK K) | refine Ya ?_ | (refine Yb rfl ?_ ?_ <;> intro hcnd <;> (try simp at hcnd) <;> try exact dc) | refine Yc ?_ | (refine Yd ?_; simp only [X0, Nat.reduceBEq]) | (refine Ye ?_; refine Yf ?_) | refine Yg ?_ | (simp only [X0, Nat.reduceBEq]) | clear hK K)
      have hp3 : Pures (ti ++ [.int .i64 x.kind, .str x.text, .sl x.name.length (x.name.map atsV)]) := by simp [h2]
      refine hL _ _ hi ?_
      exact Yr [some 3] (by simp [rowsOver, rowRen_live, List.take_of_length_le, h1, rens_pures hp3])
    · obtain rfl : i = l.length := by omega
      repeat' (first | (refine Y0 rfl fun K9 h9 => ?_; simp (disch := first | exact dd | fail); (try simp (disch := first | exact de | fail) only [X7]); ((repeat (refine Yz ?_)); (first | refine h9 _ _ (Ys ?_)); clear h9 K9)) | refine Y6 ?_ | (refine Y8 fun K hK => ?_) | refine Y9 ?_ | (apply hK; clear hK K) | refine Ya ?_ | (refine Yb rfl ?_ ?_ <;> intro hcnd <;> (try simp at hcnd) <;> try exact dc) | refine Yc ?_ | (refine Yd ?_; simp only [X0, Nat.reduceBEq]) | (refine Ye ?_; refine Yf ?_) | refine Yg ?_ | (simp only [X0, Nat.reduceBEq]) | clear hK K)
      exact view_row rfl (by omega) h2
  · exact .sl

theorem sclone_call (x : Sb) (hx : WS x) : PCall Tryz.prog 93 [.agg x.c] (.agg x.c) := by
  have h1 := seach_gens_call x.p hx.1.1 fun g hg => (hx.1.2 g hg).1
  have h2 := seach_gens_call x.x hx.2.1 fun g hg => (hx.2.2 g hg).1
  show PCall _ _ [.agg [.sl x.p.length (x.p.flatMap Gn.c), .sl x.x.length (x.x.flatMap Gn.c)]] (.agg [.sl x.p.length (x.p.flatMap Gn.c), .sl x.x.length (x.x.flatMap Gn.c)])
  refine pcall_body Tryz.func93 rfl Tryz.call93 ?_ ?_
  rotate_left 1
  refine awp_slots (s' := (.agg [.sl x.p.length (x.p.flatMap Gn.c), .sl x.x.length (x.x.flatMap Gn.c)] : V) :: zJ 9) rfl ?_; dsimp only [zJ]
  repeat' (first | ((first | refine Y0 rfl fun K9 h9 => ?_ | refine Y1 rfl rfl fun K9 h9 => ?_ | refine Y2 rfl rfl fun K9 h9 => ?_); simp (disch := first | exact dd | fail); (try simp (disch := first | exact de | fail) only [X7]); ((first | refine Ap h1 ?_ | refine Ap h2 ?_ | refine ⟨_, h1, ?_⟩ | refine ⟨_, h2, ?_⟩ | skip) <;> ((repeat (refine Yz ?_)); (first | refine h9 _ _ (Ys ?_) | refine h9 _ _ (Yt ?_)); clear h9 K9))) | refine Y6 ?_ | refine Y7 ?_ | (refine Y8 fun K hK => ?_) | refine Y9 ?_ | (apply hK; clear hK K) | ((first | refine Yk (m := 0) (by decide +kernel) [0, 0, 1, 0, 0, 1, 0, 0] (by kernel_rfl) (by decide +kernel) ?_ | refine Yk (m := 0) (by decide +kernel) [] (by kernel_rfl) (by decide +kernel) ?_); simp only [List.replicate, XL]) | (refine Ye ?_; refine Yf ?_) | refine Yg ?_ | (simp only [X0, Nat.reduceBEq]) | clear hK K)
  · simp
    exact .pure (by simp)
  · simp


theorem sgeach_subs_call (l : List Sb) (hl : l.length ≤ 65536) (hw : ∀ x ∈ l, WS x) : GCall Tryz.prog 92 [.sl l.length (l.flatMap Sb.c), .fn (.func 93) []] [] [l.flatMap Sb.c] (.osl 0 0 l.length 2) := by
  refine gcall_body Tryz.func92 rfl Tryz.call92 ?_
  refine awp_slots (s' := (.sl l.length (l.flatMap Sb.c) : V) :: (.fn (.func 93) [] : V) :: zJ 20) rfl ?_; dsimp only [zJ]
  refine awp_rows (rows' := []) rfl ?_
  have hll := flat_len Sb.c_len l
  have hcells : ∀ i (h : i < l.length), ((l.flatMap Sb.c).drop (i * 2)).take 2 = l[i].c := subs_at l
  have hcall : ∀ x ∈ l, PCall Tryz.prog 93 [.agg x.c] (.agg x.c) := fun x hx => sclone_call x (hw x hx)
  have hpu := sbs_pures l
  have hpt : ∀ i, Pures ((l.take i).flatMap Sb.c) := fun i => sbs_pures _
  have hlt : ∀ i, i ≤ l.length → ((l.take i).flatMap Sb.c).length = i * 2 := fun i hi => by rw [flat_len Sb.c_len, List.length_take, Nat.min_eq_left hi]
  have hfull : (l.take l.length).flatMap Sb.c = l.flatMap Sb.c := by rw [List.take_length]
  have hsucc : ∀ i (h : i < l.length), (l.take (i + 1)).flatMap Sb.c = (l.take i).flatMap Sb.c ++ l[i].c := fun i h => flat_take_succ l i h
  have h0 : (l.take 0).flatMap Sb.c = [] := rfl
  obtain ⟨tk, htk⟩ : ∃ tk : Nat → List V, ∀ i, (l.take i).flatMap Sb.c = tk i := ⟨fun i => (l.take i).flatMap Sb.c, fun i => rfl⟩
  simp only [htk] at hpt hlt hfull hsucc h0
  rw [← hfull] at hll hpu hcells ⊢
  clear hfull
  repeat' (first | (refine Y0 rfl fun K9 h9 => ?_; simp (disch := first | exact dd | fail); (try simp (disch := first | exact de | fail) only [X7]); ((repeat (refine Yz ?_)); (first | refine h9 _ _ (Ys ?_)); clear h9 K9)) | refine Y6 ?_ | (refine Y8 fun K hK => ?_) | refine Y9 ?_ | (apply hK; clear hK K) | refine Ya ?_ | (refine Yb rfl ?_ ?_ <;> intro hcnd <;> (try simp at hcnd) <;> try exact dc) | refine Yc ?_ | (refine Yd ?_; simp only [X0, Nat.reduceBEq]) | (refine Ye ?_; refine Yf ?_) | refine Yg ?_ | (simp only [X0, Nat.reduceBEq]) | clear hK K)
  refine awp_countU (fun i => (some V.junk :: zN 3 (some V.junk :: some (V.osl 0 0 i 2) :: none :: some V.junk :: zN 2 (some (V.int .i64 i) :: zS 11 [])))) (fun i => [.live (tk i)]) l.length ?_ fun i hi KL hL => ?_
  · dsimp only [ups, zN, zS]
    exact Yr [none] (by simp [rowsOver, h0])
  dsimp only [ups, zN, zS]
  have h1 := hlt i (by omega)
  have h2 := hpt i
  rcases Nat.lt_or_ge i l.length with hi | hi
  · have hg := hcells i hi
    have hcl := hcall l[i] (List.getElem_mem hi)
    have hs := hsucc i hi
    obtain ⟨x, hxx⟩ : ∃ x, l[i] = x := ⟨_, rfl⟩
    rw [hxx] at hcl hg hs
    have e : x.c = [.sl x.p.length (x.p.flatMap Gn.c), .sl x.x.length (x.x.flatMap Gn.c)] := rfl
    rw [e] at hg hcl hs
    rw [hs] at hL
    clear hs hsucc
    generalize tk i = ti at *
    generalize tk l.length = cells at *
    repeat' (first | (refine Y0 rfl fun K9 h9 => ?_; simp (disch := first | exact dd | fail) [hg, h1]; (try simp (disch := first | exact de | fail) only [X7]); ((first | refine Ap hcl ?_ | skip) <;> ((repeat (refine Yz ?_)); (first | refine h9 _ _ (Ys ?_)); clear h9 K9))) | refine Y6 ?_ | (refine Y8 fun K hK => ?_) | refine Y9 ?_ | (apply hK; clear hK K) | refine Ya ?_ | (refine Yb rfl ?_ ?_ <;> intro hcnd <;> (try simp at hcnd) <;> try exact dc) | refine Yc ?_ | (refine Yd ?_; simp only [X0, Nat.reduceBEq]) | (refine Ye ?_; refine Yf ?_) | refine Yg ?_ | (simp only [X0, Nat.reduceBEq]) | clear hK K)
    have hp3 : Pures (ti ++ [.sl x.p.length (x.p.flatMap Gn.c), .sl x.x.length (x.x.flatMap Gn.c)]) := by simp [h2]
    refine hL _ _ hi ?_
    exact Yr [some 3] (by simp [rowsOver, rowRen_live, List.take_of_length_le, h1, rens_pures hp3])
  · obtain rfl : i = l.length := by omega
    repeat' (first | (refine Y0 rfl fun K9 h9 => ?_; simp (disch := first | exact dd | fail); (try simp (disch := first | exact de | fail) only [X7]); ((repeat (refine Yz ?_)); (first | refine h9 _ _ (Ys ?_)); clear h9 K9)) | refine Y6 ?_ | (refine Y8 fun K hK => ?_) | refine Y9 ?_ | (apply hK; clear hK K) | refine Ya ?_ | (refine Yb rfl ?_ ?_ <;> intro hcnd <;> (try simp at hcnd) <;> try exact dc) | refine Yc ?_ | (refine Yd ?_; simp only [X0, Nat.reduceBEq]) | (refine Ye ?_; refine Yf ?_) | refine Yg ?_ | (simp only [X0, Nat.reduceBEq]) | clear hK K)
    exact Yr [some 0] (by simp [rowsOver, rowRen_live, rens_pures h2])

theorem add_call (l : List Sb) (x : Sb) (hl : l.length ≤ 60000) (hw : ∀ x ∈ l, WS x) (hx : WS x) : PCall Tryz.prog 65 [.agg [sbsV l], .agg x.c] (.agg [sbsV (l ++ [x])]) := by
  have h1 := sgeach_subs_call l (by omega) hw
  have h2 := sclone_call x hx
  have hll := sbs_len l
  have hpu := sbs_pures l
  have e : sbsV (l ++ [x]) = .sl (l.length + 1) (l.flatMap Sb.c ++ [.sl x.p.length (x.p.flatMap Gn.c), .sl x.x.length (x.x.flatMap Gn.c)]) := by
    simp [sbsV, Sb.c, gnsV]
  rw [e]
  replace h2 : PCall Tryz.prog 93 [.agg [.sl x.p.length (x.p.flatMap Gn.c), .sl x.x.length (x.x.flatMap Gn.c)]] (.agg [.sl x.p.length (x.p.flatMap Gn.c), .sl x.x.length (x.x.flatMap Gn.c)]) := h2
  show PCall _ _ [.agg [.sl l.length (l.flatMap Sb.c)], .agg [.sl x.p.length (x.p.flatMap Gn.c), .sl x.x.length (x.x.flatMap Gn.c)]] _
  generalize l.flatMap Sb.c = cells at *
  refine pcall_body Tryz.func65 rfl Tryz.call65 ?_ ?_
  rotate_left 1
  refine awp_slots (s' := (.agg [.sl l.length cells] : V) :: (.agg [.sl x.p.length (x.p.flatMap Gn.c), .sl x.x.length (x.x.flatMap Gn.c)] : V) :: zJ 11) rfl ?_; dsimp only [zJ]
  repeat' (first | ((first | refine Y0 rfl fun K9 h9 => ?_ | refine Y1 rfl rfl fun K9 h9 => ?_ | refine Y2 rfl rfl fun K9 h9 => ?_); simp (disch := first | exact dd | fail); (try simp (disch := first | exact de | fail) only [X7]); ((first | refine ⟨[.live cells], .osl 5 0 l.length 2, fun rows2 k2 e hk => acallF_nsl h1 hpu (by simp) (by rw [e]; exact hk), ?_⟩ | refine aeffS_loadA (vs := [.sl x.p.length (x.p.flatMap Gn.c), .sl x.x.length (x.x.flatMap Gn.c)]) rfl (by simp) (by simp) (by simp) (by intro i v h; rcases i with _ | _ | i <;> simp at h <;> subst h <;> simp) ?_ | refine Ap h2 ?_ | refine ⟨_, h2, ?_⟩ | skip) <;> ((repeat (refine Yz ?_)); (first | refine h9 _ _ (Ys ?_) | refine h9 _ _ (Yt ?_)); clear h9 K9))) | refine Y6 ?_ | refine Y7 ?_ | (refine Y8 fun K hK => ?_) | refine Y9 ?_ | (apply hK; clear hK K) | ((first | refine awp_region_drawF (m := 2) [(1, 0, .sl x.p.length (x.p.flatMap Gn.c)), (1, 1, .sl x.x.length (x.x.flatMap Gn.c))] (by simp) (by decide +kernel) [0, 0, 4, 3, 1, 0, 0, 0, 0] (by kernel_rfl) (by decide +kernel) ?_ | refine Yk (m := 2) (by decide +kernel) [0, 0, 4, 3, 1, 0, 0, 0, 0] (by kernel_rfl) (by decide +kernel) ?_ | refine Yk (m := 2) (by decide +kernel) [] (by kernel_rfl) (by decide +kernel) ?_); simp only [List.replicate, XL]) | (refine Ye ?_; refine Yf ?_) | refine Yg ?_ | (simp only [X0, Nat.reduceBEq]) | clear hK K)
  · simp
    rw [List.take_of_length_le (show cells.length ≤ l.length * 2 by omega)]
    refine view_agg ⟨view_row rfl (by simp [hll]; omega) (pures_append.2 ⟨hpu, by simp⟩), trivial⟩
  · simp

end Go.Proofs.YtcfmanhblonjeaaGreatDoor
namespace Go.Stp
open Go.VS
def sAny : List UInt8 := [50, 46, 53, 46, 50, 57, 46, 51, 50, 46, 48]
def specB (m : Mp) : Bool := m.i == sAny || m.s == sAny
def selfB (c : Ce) : Bool := nameB c.issuer c.subject
def specialS (s : Pg) (c : Ce) (last : Bool) : Bool := decide (s.any ≠ 0) || (selfB c && !last)
@[simp] theorem Mp.c_len (a : Mp) : a.c.length = 2 := rfl
theorem mps_at (r : List Mp) (i : Nat) (h : i < r.length) : ((r.flatMap Mp.c).drop (i * 2)).take 2 = r[i].c := flat_at Mp.c_len r i h
def findI {α : Type} (p : α → Bool) (l : List α) : Int := match l.findIdx? p with | some i => i | none => -1
theorem findI_none {α : Type} {p : α → Bool} {l : List α} (h : ∀ j (h : j < l.length), p l[j] = false) : findI p l = -1 := by
  have : l.findIdx? p = none := by
    rw [List.findIdx?_eq_none_iff]
    intro x hx
    obtain ⟨j, hj, rfl⟩ := List.getElem_of_mem hx
    exact h j hj
  rw [findI, this]
theorem findI_some {α : Type} {p : α → Bool} {l : List α} {i : Nat} (hi : i < l.length) (h1 : p l[i] = true) (h : ∀ j (h : j < l.length), j < i → p l[j] = false) : findI p l = i := by
  have : l.findIdx? p = some i := by
    rw [List.findIdx?_eq_some_iff_getElem]
    exact ⟨hi, h1, fun j hj => by rw [h j (by omega) hj]; decide⟩
  rw [findI, this]
theorem findI_ge {α : Type} (p : α → Bool) (l : List α) : (decide (0 ≤ findI p l)) = l.any p := by
  unfold findI
  cases h : l.findIdx? p with
  | none =>
    rw [List.findIdx?_eq_none_iff] at h
    symm
    rw [List.any_eq_false.2 fun x hx => by rw [h x hx]; decide]
    rfl
  | some i =>
    rw [List.findIdx?_eq_some_iff_getElem] at h
    obtain ⟨hi, h1, _⟩ := h
    rw [any_true hi h1]
    simp
end Go.Stp
namespace Go.Proofs.YtcfmanhblonjeaaGreatDoor
open Go.VS Go.Stp
set_option linter.all false
set_option maxRecDepth 100000
set_option maxHeartbeats 4000000
attribute [local irreducible] arun arunD arunU AWp aend
theorem begin_call (a : An) (q : Qu) (ha : WN a.n) : PCall Tryz.prog 40 [.agg a.c, .agg q.c] (.agg (beginS a q).c) := by
  refine pcall_nzt (r := .agg [nmV a.n, .int .i64 a.k.h, .str a.k.id, .str a.k.root, .bool true, .int .i64 8, .int .i64 (limitS q.expl), .int .i64 (limitS q.nomap), .int .i64 (limitS q.noany), .nils]) ?_ (by simp [nzt, nza, nz, nmV, beginS, Pg.c, sbsV]) (by simp)
  have h1 := cname_call a.n ha
  have l1 := limit_call q.expl
  have l2 := limit_call q.nomap
  have l3 := limit_call q.noany
  have hA := nmV_one a.n
  have hA2 := nmV_pure a.n
  have e := An.c.eq_1 a
  have e2 := Qu.c.eq_1 q
  rw [e, e2]
  generalize nmV a.n = A at *
  refine pcall_body Tryz.func40 rfl Tryz.call40 ?_ ?_
  rotate_left 1
  refine awp_slots (s' := (.agg [A, .int .i64 a.k.h, .str a.k.id, .str a.k.root] : V) :: (.agg [.int .i64 q.time, .str q.purpose, .int .i64 q.usage, strV q.policies, .bool q.expl, .bool q.nomap, .bool q.noany, gnsV q.names, .int .i64 q.maxlen, .bool q.status, ansV q.issuers] : V) :: zJ 18) rfl ?_; dsimp only [zJ]
  repeat' (first | ((first | refine Y0 rfl fun K9 h9 => ?_ | refine Y1 rfl rfl fun K9 h9 => ?_ | refine Y2 rfl rfl fun K9 h9 => ?_); simp (disch := first | exact dd | fail) [hA, hA2]; (try simp (disch := first | exact de | fail) only [X7]); ((first | refine ⟨_, h1, ?_⟩ | refine ⟨_, l1, ?_⟩ | refine ⟨_, l2, ?_⟩ | refine ⟨_, l3, ?_⟩ | skip) <;> ((repeat (refine Yz ?_)); (first | refine h9 _ _ (Ys ?_) | refine h9 _ _ (Yt ?_)); clear h9 K9))) | refine Y6 ?_ | refine Y7 ?_ | (refine Y8 fun K hK => ?_) | refine Y9 ?_ | (apply hK; clear hK K) | ((first | refine Yk (m := 0) (by decide +kernel) [0, 0, 1, 0, 0, 0, 0, 1, 0, 0, 1, 0, 0, 1, 0, 0] (by kernel_rfl) (by decide +kernel) ?_ | refine Yk (m := 0) (by decide +kernel) [] (by kernel_rfl) (by decide +kernel) ?_); simp only [List.replicate, XL]) | (refine Ye ?_; refine Yf ?_) | refine Yg ?_ | (simp only [X0, Nat.reduceBEq]) | clear hK K)
  · simp
    exact .pure (by simp [hA2])
  · simp [hA2]

theorem self_call (c : Ce) (h1 : WN c.issuer) (h2 : WN c.subject) : PCall Tryz.prog 62 [.agg c.c] (.bool (selfB c)) := by
  have hm := dmatch_call c.issuer c.subject h1 h2
  rw [Ce.c.eq_1]
  unfold selfB
  generalize nameB c.issuer c.subject = B at *
  refine pcall_body Tryz.func62 rfl Tryz.call62 ?_ ?_
  rotate_left 1
  refine awp_slots (s' := (.agg [.str c.raw, .str c.tbs, .int .i64 c.serial, nmV c.issuer, nmV c.subject, .int .i64 c.nb, .int .i64 c.na, .int .i64 c.key.h, .str c.key.id, .str c.key.root, .bool c.info.basic, .bool c.info.ca, .int .i64 c.info.plen, .int .i64 c.info.usage, strV c.info.purposes, strV c.info.policies, mpsV c.info.maps, .int .i64 c.info.rexp, .int .i64 c.info.imap, .int .i64 c.info.iany, gnsV c.info.names, .bool c.info.hasC, gnsV c.info.cons.p, gnsV c.info.cons.x, .str c.info.sk, .str c.info.ak, ptsV c.info.points, ptsV c.info.fresh, exsV c.info.unk, .str c.sig] : V) :: zJ 7) rfl ?_; dsimp only [zJ]
  repeat' (first | (refine Y0 rfl fun K9 h9 => ?_; simp (disch := first | exact dd | fail); (try simp (disch := first | exact de | fail) only [X7]); ((first | refine Ap hm ?_ | skip) <;> ((repeat (refine Yz ?_)); (first | refine h9 _ _ (Ys ?_)); clear h9 K9))) | refine Y6 ?_ | (refine Y8 fun K hK => ?_) | refine Y9 ?_ | (apply hK; clear hK K) | (refine Ye ?_; refine Yf ?_) | refine Yg ?_ | (simp only [X0, Nat.reduceBEq]) | clear hK K)
  · exact .pure .bool
  · exact .bool

theorem special_call (s : Pg) (c : Ce) (last : Bool) (h1 : WN c.issuer) (h2 : WN c.subject) : PCall Tryz.prog 42 [.agg s.c, .agg c.c, .bool last] (.bool (specialS s c last)) := by
  have hs := self_call c h1 h2
  unfold specialS
  rw [Pg.c.eq_1]
  generalize selfB c = B at *
  rw [Ce.c.eq_1] at *
  refine pcall_body Tryz.func42 rfl Tryz.call42 ?_ ?_
  rotate_left 1
  refine awp_slots (s' := (.agg [nmV s.issuer, .int .i64 s.key.h, .str s.key.id, .str s.key.root, .bool s.lists, .int .i64 s.len, .int .i64 s.expl, .int .i64 s.map, .int .i64 s.any, sbsV s.names] : V) :: (.agg [.str c.raw, .str c.tbs, .int .i64 c.serial, nmV c.issuer, nmV c.subject, .int .i64 c.nb, .int .i64 c.na, .int .i64 c.key.h, .str c.key.id, .str c.key.root, .bool c.info.basic, .bool c.info.ca, .int .i64 c.info.plen, .int .i64 c.info.usage, strV c.info.purposes, strV c.info.policies, mpsV c.info.maps, .int .i64 c.info.rexp, .int .i64 c.info.imap, .int .i64 c.info.iany, gnsV c.info.names, .bool c.info.hasC, gnsV c.info.cons.p, gnsV c.info.cons.x, .str c.info.sk, .str c.info.ak, ptsV c.info.points, ptsV c.info.fresh, exsV c.info.unk, .str c.sig] : V) :: (.bool last : V) :: zJ 15) rfl ?_; dsimp only [zJ]
  by_cases h0 : s.any = 0
  · cases B
    · repeat' (first | ((first | refine Y0 rfl fun K9 h9 => ?_ | (refine Y3 ?_ ?_; (focus (simp [h0]; done)); intro K9 h9)); simp (disch := first | exact dd | fail) [h0]; (try simp (disch := first | exact de | fail) only [X7]); ((first | refine Ap hs ?_ | skip) <;> ((repeat (refine Yz ?_)); (first | refine h9 _ _ (Ys ?_)); clear h9 K9))) | refine Y6 ?_ | (refine Y8 fun K hK => ?_) | refine Y9 ?_ | (apply hK; clear hK K) | (refine Ye ?_; refine Yf ?_) | (refine Yh ?_ ?_; (focus (simp [h0]; done)); refine Ys ?_) | refine Yg ?_ | (simp only [X0, Nat.reduceBEq]) | clear hK K)
      simp [h0]
      exact .pure .bool
    · cases last
      · repeat' (first | ((first | refine Y0 rfl fun K9 h9 => ?_ | (refine Y3 ?_ ?_; (focus (simp [h0]; done)); intro K9 h9)); simp (disch := first | exact dd | fail) [h0]; (try simp (disch := first | exact de | fail) only [X7]); ((first | refine Ap hs ?_ | skip) <;> ((repeat (refine Yz ?_)); (first | refine h9 _ _ (Ys ?_)); clear h9 K9))) | refine Y6 ?_ | (refine Y8 fun K hK => ?_) | refine Y9 ?_ | (apply hK; clear hK K) | (refine Ye ?_; refine Yf ?_) | (refine Yh ?_ ?_; (focus (simp [h0]; done)); refine Ys ?_) | refine Yg ?_ | (simp only [X0, Nat.reduceBEq]) | clear hK K)
        simp [h0]
        exact .pure .bool
      · repeat' (first | ((first | refine Y0 rfl fun K9 h9 => ?_ | (refine Y3 ?_ ?_; (focus (simp [h0]; done)); intro K9 h9)); simp (disch := first | exact dd | fail) [h0]; (try simp (disch := first | exact de | fail) only [X7]); ((first | refine Ap hs ?_ | skip) <;> ((repeat (refine Yz ?_)); (first | refine h9 _ _ (Ys ?_)); clear h9 K9))) | refine Y6 ?_ | (refine Y8 fun K hK => ?_) | refine Y9 ?_ | (apply hK; clear hK K) | (refine Ye ?_; refine Yf ?_) | (refine Yh ?_ ?_; (focus (simp [h0]; done)); refine Ys ?_) | refine Yg ?_ | (simp only [X0, Nat.reduceBEq]) | clear hK K)
        simp [h0]
        exact .pure .bool
  · repeat' (first | ((first | refine Yl rfl fun K9 h9 => ?_ | (refine Ym ?_ ?_; (focus (simp [h0]; done)); intro K9 h9)); simp (disch := first | exact dd | fail) [h0]; (try simp (disch := first | exact de | fail) only [X7]); ((first | refine Ap hs ?_ | skip) <;> ((repeat (refine Yz ?_)); (first | refine h9 _ _ (Yp ?_)); clear h9 K9))) | refine Yo ?_ | (refine Y8 fun K hK => ?_) | refine Yq ?_ | (apply hK; clear hK K) | (refine Ye ?_; refine Yf ?_) | (refine Yn ?_ ?_; (focus (simp [h0]; done)); refine Yp ?_) | refine Yg ?_ | (simp only [X0, Nat.reduceBEq]) | clear hK K)
    (try simp [h0])
    exact .pure .bool
  · exact .bool

theorem spec_call (m : Mp) : PCall Tryz.prog 61 [.agg [.str m.i, .str m.s]] (.bool (specB m)) := by
  refine pcall_body Tryz.func61 rfl Tryz.call61 ?_ ?_
  rotate_left 1
  refine awp_slots (s' := (.agg [.str m.i, .str m.s] : V) :: zJ 10) rfl ?_; dsimp only [zJ]
  have e : specB m = (m.i == [50, 46, 53, 46, 50, 57, 46, 51, 50, 46, 48] || m.s == [50, 46, 53, 46, 50, 57, 46, 51, 50, 46, 48]) := rfl
  rw [e]
  by_cases h1 : m.i = [50, 46, 53, 46, 50, 57, 46, 51, 50, 46, 48]
  · repeat' (first | ((first | refine Y0 rfl fun K9 h9 => ?_ | (refine Y3 ?_ ?_; (focus (simp [h1]; done)); intro K9 h9)); simp (disch := first | exact dd | fail) [h1]; (try simp (disch := first | exact de | fail) only [X7]); ((repeat (refine Yz ?_)); (first | refine h9 _ _ (Ys ?_)); clear h9 K9)) | refine Y6 ?_ | (refine Y8 fun K hK => ?_) | refine Y9 ?_ | (apply hK; clear hK K) | (refine Ye ?_; refine Yf ?_) | (refine Yh ?_ ?_; (focus (simp [h1]; done)); refine Ys ?_) | refine Yg ?_ | (simp only [X0, Nat.reduceBEq]) | clear hK K)
    simp [h1]
    exact .pure .bool
  · repeat' (first | ((first | refine Y0 rfl fun K9 h9 => ?_ | (refine Y3 ?_ ?_; (focus (simp [h1]; done)); intro K9 h9)); simp (disch := first | exact dd | fail) [h1]; (try simp (disch := first | exact de | fail) only [X7]); ((repeat (refine Yz ?_)); (first | refine h9 _ _ (Ys ?_)); clear h9 K9)) | refine Y6 ?_ | (refine Y8 fun K hK => ?_) | refine Y9 ?_ | (apply hK; clear hK K) | (refine Ye ?_; refine Yf ?_) | (refine Yh ?_ ?_; (focus (simp [h1]; done)); refine Ys ?_) | refine Yg ?_ | (simp only [X0, Nat.reduceBEq]) | clear hK K)
    rw [show (m.i == [50, 46, 53, 46, 50, 57, 46, 51, 50, 46, 48]) = false by simp [h1], Bool.false_or]
    exact .pure .bool
  exact .bool

theorem mindex_call (l : List Mp) (hl : l.length ≤ 65536) : PCall Tryz.prog 89 [mpsV l, .fn (.func 61) []] (.int .i64 (findI specB l)) := by
  unfold mpsV
  have hll : (l.flatMap Mp.c).length = l.length * 2 := flat_len Mp.c_len l
  have hcells := mps_at l
  refine pcall_body Tryz.func89 rfl Tryz.call89 ?_ ?_
  rotate_left 1
  refine awp_slots (s' := (.sl l.length (l.flatMap Mp.c) : V) :: (.fn (.func 61) [] : V) :: zJ 17) rfl ?_; dsimp only [zJ]
  generalize l.flatMap Mp.c = cells at *
  repeat' (first | (refine Y0 rfl fun K9 h9 => ?_; simp (disch := first | exact dd | fail); (try simp (disch := first | exact de | fail) only [X7]); ((repeat (refine Yz ?_)); (first | refine h9 _ _ (Ys ?_)); clear h9 K9)) | refine Y6 ?_ | (refine Y8 fun K hK => ?_) | refine Y9 ?_ | (apply hK; clear hK K) | refine Ya ?_ | (refine Yb rfl ?_ ?_ <;> intro hcnd <;> (try simp at hcnd) <;> try exact dc) | refine Yc ?_ | (refine Yd ?_; simp only [X0, Nat.reduceBEq]) | (refine Ye ?_; refine Yf ?_) | refine Yg ?_ | (simp only [X0, Nat.reduceBEq]) | clear hK K)
  · refine awp_loopU (α := Nat) (fun i => (zN 4 (zS 3 (none :: some (V.int .i64 i) :: zS 10 [])))) (fun i => []) (fun i => i ≤ l.length ∧ ∀ j (h : j < l.length), j < i → specB l[j] = false) (fun i => l.length - i) 0 ⟨by omega, fun j _ h => by omega⟩ ?_ ?_
    · dsimp only [ups, zN, zS]
      exact Yr [] (by simp [rowsOver])
    rintro i ⟨hi, hall⟩ KL hL
    dsimp only [ups, zN, zS]
    rcases Nat.lt_or_ge i l.length with hi | hi
    · have hstep : specB l[i] = false → i + 1 ≤ l.length ∧ ∀ j (h : j < l.length), j < i + 1 → specB l[j] = false := fun hx => ⟨by omega, fun j hj h => by
        rcases Nat.lt_or_ge j i with h3 | h3
        · exact hall j hj h3
        · obtain rfl : j = i := by omega
          exact hx⟩
      have hfound : specB l[i] = true → findI specB l = i := fun h => findI_some hi h hall
      have hg := hcells i hi
      obtain ⟨x, hxx⟩ : ∃ x, l[i] = x := ⟨_, rfl⟩
      rw [hxx] at hstep hfound hg
      rw [show x.c = [.str x.i, .str x.s] from rfl] at hg
      have hc := spec_call x
      cases h1 : specB x
      · rw [h1] at hc
        repeat' (first | (refine Y0 rfl fun K9 h9 => ?_; simp (disch := first | exact dd | fail) [hg]; (try simp (disch := first | exact de | fail) only [X7]); ((first | refine Ap hc ?_ | skip) <;> ((repeat (refine Yz ?_)); (first | refine h9 _ _ (Ys ?_)); clear h9 K9))) | refine Y6 ?_ | (refine Y8 fun K hK => ?_) | refine Y9 ?_ | (apply hK; clear hK K) | refine Ya ?_ | (refine Yb rfl ?_ ?_ <;> intro hcnd <;> (try simp at hcnd) <;> try exact dc) | refine Yc ?_ | (refine Yd ?_; simp only [X0, Nat.reduceBEq]) | (refine Ye ?_; refine Yf ?_) | refine Yg ?_ | (simp only [X0, Nat.reduceBEq]) | clear hK K)
        refine hL (i + 1) _ _ (hstep h1) (by omega) ?_
        exact Yr [] (by simp [rowsOver])
      · rw [h1] at hc
        repeat' (first | (refine Y0 rfl fun K9 h9 => ?_; simp (disch := first | exact dd | fail) [hg]; (try simp (disch := first | exact de | fail) only [X7]); ((first | refine Ap hc ?_ | skip) <;> ((repeat (refine Yz ?_)); (first | refine h9 _ _ (Ys ?_)); clear h9 K9))) | refine Y6 ?_ | (refine Y8 fun K hK => ?_) | refine Y9 ?_ | (apply hK; clear hK K) | refine Ya ?_ | (refine Yb rfl ?_ ?_ <;> intro hcnd <;> (try simp at hcnd) <;> try exact dc) | refine Yc ?_ | (refine Yd ?_; simp only [X0, Nat.reduceBEq]) | (refine Ye ?_; refine Yf ?_) | refine Yg ?_ | (simp only [X0, Nat.reduceBEq]) | clear hK K)
        rw [hfound h1]
        exact .pure .int
    · repeat' (first | (refine Y0 rfl fun K9 h9 => ?_; simp (disch := first | exact dd | fail); (try simp (disch := first | exact de | fail) only [X7]); ((repeat (refine Yz ?_)); (first | refine h9 _ _ (Ys ?_)); clear h9 K9)) | refine Y6 ?_ | (refine Y8 fun K hK => ?_) | refine Y9 ?_ | (apply hK; clear hK K) | refine Ya ?_ | (refine Yb rfl ?_ ?_ <;> intro hcnd <;> (try simp at hcnd) <;> try exact dc) | refine Yc ?_ | (refine Yd ?_; simp only [X0, Nat.reduceBEq]) | (refine Ye ?_; refine Yf ?_) | refine Yg ?_ | (simp only [X0, Nat.reduceBEq]) | clear hK K)
      rw [findI_none fun j hj => hall j hj (by omega)]
      exact .pure .int
  · exact .int

theorem mcontains_call (l : List Mp) (hl : l.length ≤ 65536) : PCall Tryz.prog 63 [mpsV l, .fn (.func 61) []] (.bool (l.any specB)) := by
  have hi := mindex_call l hl
  have hg := findI_ge specB l
  rw [← hg]
  unfold mpsV at *
  generalize findI specB l = r at *
  refine pcall_body Tryz.func63 rfl Tryz.call63 ?_ ?_
  rotate_left 1
  refine awp_slots (s' := (.sl l.length (l.flatMap Mp.c) : V) :: (.fn (.func 61) [] : V) :: zJ 7) rfl ?_; dsimp only [zJ]
  repeat' (first | (refine Y0 rfl fun K9 h9 => ?_; simp (disch := first | exact dd | fail); (try simp (disch := first | exact de | fail) only [X7]); ((first | refine Ap hi ?_ | skip) <;> ((repeat (refine Yz ?_)); (first | refine h9 _ _ (Ys ?_)); clear h9 K9))) | refine Y6 ?_ | (refine Y8 fun K hK => ?_) | refine Y9 ?_ | (apply hK; clear hK K) | (refine Ye ?_; refine Yf ?_) | refine Yg ?_ | (simp only [X0, Nat.reduceBEq]) | clear hK K)
  · exact .pure .bool
  · exact .bool

theorem signers_call (s : Pg) (q : Qu) (hs : WN s.issuer) (hq : WA q.issuers) : PCall Tryz.prog 43 [.agg s.c, .agg q.c] (ansV ((if s.lists then [⟨s.issuer, s.key⟩] else []) ++ q.issuers)) := by
  have h1 := cname_call s.issuer hs
  have h2 := cancs_call q.issuers hq
  have hp := ans_pures q.issuers
  have hl := ans_len q.issuers
  have hon := flat_one An.c_one q.issuers
  have hlq := hq.1
  rw [Pg.c.eq_1, Qu.c.eq_1]
  have e : ansV ((if s.lists then [⟨s.issuer, s.key⟩] else []) ++ q.issuers) = .sl ((if s.lists then 1 else 0) + q.issuers.length) ((if s.lists then [nmV s.issuer, .int .i64 s.key.h, .str s.key.id, .str s.key.root] else []) ++ q.issuers.flatMap An.c) := by
    unfold ansV
    cases s.lists <;> simp [An.c]
    omega
  rw [e]
  unfold ansV at *
  have hA := nmV_one s.issuer
  have hA2 := nmV_pure s.issuer
  generalize nmV s.issuer = A at *
  generalize q.issuers.flatMap An.c = cells at *
  refine pcall_body Tryz.func43 rfl Tryz.call43 ?_ ?_
  rotate_left 1
  refine awp_slots (s' := (.agg [A, .int .i64 s.key.h, .str s.key.id, .str s.key.root, .bool s.lists, .int .i64 s.len, .int .i64 s.expl, .int .i64 s.map, .int .i64 s.any, sbsV s.names] : V) :: (.agg [.int .i64 q.time, .str q.purpose, .int .i64 q.usage, strV q.policies, .bool q.expl, .bool q.nomap, .bool q.noany, gnsV q.names, .int .i64 q.maxlen, .bool q.status, .sl q.issuers.length cells] : V) :: zJ 20) rfl ?_; dsimp only [zJ]
  cases hls : s.lists
  · repeat' (first | ((first | refine Y0 rfl fun K9 h9 => ?_ | refine Y1 rfl rfl fun K9 h9 => ?_ | refine Y2 rfl rfl fun K9 h9 => ?_); simp (disch := first | exact dd | fail) [hls, hA, hA2, hon, hl]; (try simp (disch := first | exact de | fail) only [X7]); ((first | refine Ap h2 ?_ | refine ⟨_, h1, ?_⟩ | skip) <;> ((repeat (refine Yz ?_)); (first | refine h9 _ _ (Ys ?_) | refine h9 _ _ (Yt ?_)); clear h9 K9))) | refine Y6 ?_ | refine Y7 ?_ | (refine Y8 fun K hK => ?_) | refine Y9 ?_ | (apply hK; clear hK K) | ((first | refine Yk (m := 2) (by decide +kernel) [0, 0, 0, 1, 0, 0, 0, 0, 0] (by kernel_rfl) (by decide +kernel) ?_ | refine Yk (m := 2) (by decide +kernel) [] (by kernel_rfl) (by decide +kernel) ?_); simp only [List.replicate, XL]) | (refine Yb rfl ?_ ?_ <;> intro hcnd <;> (try simp at hcnd) <;> try exact dc) | refine Yc ?_ | (refine Ye ?_; refine Yf ?_) | refine Yg ?_ | (simp only [X0, Nat.reduceBEq]) | clear hK K)
    simp
    exact view_row rfl (by omega) hp
  · repeat' (first | ((first | refine Y0 rfl fun K9 h9 => ?_ | refine Y1 rfl rfl fun K9 h9 => ?_ | refine Y2 rfl rfl fun K9 h9 => ?_); simp (disch := first | exact dd | fail) [hls, hA, hA2, hon, hl]; (try simp (disch := first | exact de | fail) only [X7]); ((first | refine Ap h2 ?_ | refine ⟨_, h1, ?_⟩ | skip) <;> ((repeat (refine Yz ?_)); (first | refine h9 _ _ (Ys ?_) | refine h9 _ _ (Yt ?_)); clear h9 K9))) | refine Y6 ?_ | refine Y7 ?_ | (refine Y8 fun K hK => ?_) | refine Y9 ?_ | (apply hK; clear hK K) | ((first | refine Yk (m := 2) (by decide +kernel) [0, 0, 0, 1, 0, 0, 0, 0, 0] (by kernel_rfl) (by decide +kernel) ?_ | refine Yk (m := 2) (by decide +kernel) [] (by kernel_rfl) (by decide +kernel) ?_); simp only [List.replicate, XL]) | (refine Yb rfl ?_ ?_ <;> intro hcnd <;> (try simp at hcnd) <;> try exact dc) | refine Yc ?_ | (refine Ye ?_; refine Yf ?_) | refine Yg ?_ | (simp only [X0, Nat.reduceBEq]) | clear hK K)
    simp
    exact view_row rfl (by simp [hl]; omega) (by simp [hA2]; exact hp)
  exact .sl

end Go.Proofs.YtcfmanhblonjeaaGreatDoor
