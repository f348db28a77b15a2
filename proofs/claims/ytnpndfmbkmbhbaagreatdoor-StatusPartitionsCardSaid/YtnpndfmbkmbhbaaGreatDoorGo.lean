/-
 STEP: mappings, strings each once, points from a deck.
 Conditions: none.
-/
import Derived.Test.YtnpndfmbkmbhbaaGreatDoorGl
import Derived.Test.YtnpndfmbkmbhbaaGreatDoorGm
set_option maxRecDepth 100000
set_option maxHeartbeats 32000000
namespace Go.Stp
open Go.VS
@[simp] theorem mps_pures (l : List Mp) : Pures (l.flatMap Mp.c) := flat_pures (fun m => by simp [Mp.c]) l
end Go.Stp
namespace Go.Proofs.YtnpndfmbkmbhbaaGreatDoor
open Go.Proofs.Tryz
open Go.VS Go.Stp
set_option linter.all false
attribute [local irreducible] arun arunD arunU AWp aend
end Go.Proofs.YtnpndfmbkmbhbaaGreatDoor
namespace Go.Stp
open Go.VS
theorem ptc_len (p : Pt) : p.c.length = 4 := rfl
theorem ptc_one (p : Pt) : ∀ x ∈ p.c, x.one = true := fun x hx => by
 simp [Pt.c] at hx
 rcases hx with rfl | rfl | rfl | rfl <;> rfl
@[simp] theorem pts_pures (l : List Pt) : Pures (l.flatMap Pt.c) := flat_pures (fun m => by simp [Pt.c]) l
theorem pts_len (l : List Pt) : (l.flatMap Pt.c).length = l.length * 4 := flat_len ptc_len l
def placeL : List (List UInt8) := [[97, 46, 101, 120, 97, 109, 112, 108, 101, 46, 111, 114, 103], [65, 46, 69, 120, 97, 109, 112, 108, 101, 46, 111, 114, 103], [98, 46, 101, 120, 97, 109, 112, 108, 101, 46, 111, 114, 103]]
def placeG (k : Int) : Gn := ⟨2, placeL.getD k.toNat [], []⟩
structure WPt (p : Pt) : Prop where
 names : p.names = [] ∨ ∃ k, 0 ≤ k ∧ k < 3 ∧ p.names = [placeG k]
 issuer : (p.has = false ∧ p.issuer = [] ∧ p.names ≠ []) ∨ (p.has = true ∧ ∃ j, 0 ≤ j ∧ j < 4 ∧ p.issuer = authN (namedN (Int.toNat j)))
 reasons : p.reasons = 0 ∨ p.reasons = 2 ∨ p.reasons = 510 ∨ p.reasons = 508
end Go.Stp
namespace Go.Proofs.YtnpndfmbkmbhbaaGreatDoor
open Go.Proofs.Tryz
open Go.VS Go.Stp
set_option linter.all false
attribute [local irreducible] arun arunD arunU AWp aend
end Go.Proofs.YtnpndfmbkmbhbaaGreatDoor
namespace Go.Stp
open Go.VS
structure Sc where
 names : List Gn
 ou : Bool
 oc : Bool
 reasons : Int
 ind : Bool
 deriving DecidableEq
structure En where
 serial : Int
 time : Int
 reason : Int
 inv : Int
 issuer : Nm
 deriving DecidableEq
structure Li where
 raw : List UInt8
 tbs : List UInt8
 issuer : Nm
 this : Int
 next : Int
 number : Int
 base : Int
 ak : List UInt8
 has : Bool
 sc : Sc
 fresh : List Pt
 entries : List En
 sig : List UInt8
 deriving DecidableEq
def En.c (e : En) : List V := [.int .i64 e.serial, .int .i64 e.time, .int .i64 e.reason, .int .i64 e.inv, nmV e.issuer]
def ensV (l : List En) : V := .sl l.length (l.flatMap En.c)
def Sc.c (s : Sc) : List V := [gnsV s.names, .bool s.ou, .bool s.oc, .int .i64 s.reasons, .bool s.ind]
def Li.c (l : Li) : List V := [.str l.raw, .str l.tbs, nmV l.issuer, .int .i64 l.this, .int .i64 l.next, .int .i64 l.number, .int .i64 l.base, .str l.ak, .bool l.has, gnsV l.sc.names, .bool l.sc.ou, .bool l.sc.oc, .int .i64 l.sc.reasons, .bool l.sc.ind, ptsV l.fresh, ensV l.entries, .str l.sig]
@[simp] theorem ensV_pure (r : List En) : (ensV r).Pure := .sl
@[simp] theorem ensV_one (r : List En) : (ensV r).one = true := rfl
@[simp] theorem Sc.c_pures (s : Sc) : Pures s.c := by simp [Sc.c]
@[simp] theorem Li.c_pures (l : Li) : Pures l.c := by simp [Li.c]
def WPn (p : Pt) : Prop := WG p.names ∧ WN p.issuer
@[simp] theorem Pt.c_len (p : Pt) : p.c.length = 4 := rfl
theorem Pt.c_one (p : Pt) : ∀ x ∈ p.c, x.one = true := ptc_one p
end Go.Stp
namespace Go.Proofs.YtnpndfmbkmbhbaaGreatDoor
open Go.Proofs.Tryz
open Go.VS Go.Stp
set_option linter.all false
attribute [local irreducible] arun arunD AWp aend
theorem aeqn_pts (d : Nat) : aeq prog (d + 1) 32 .nils .nils = some true := aeq_nils (e := 74) (by kernel_rfl)
theorem aeqs_pts (d n : Nat) (c : List V) : aeq prog (d + 1) 32 (.sl (n + 1) c) .nils = some false := aeq_sl_nils (e := 74) (by kernel_rfl)
theorem aeqv_pts (d n c : Nat) (a : Addr) : aeq prog (d + 1) 32 (.val (.slice (some a) n c)) .nils = some false := aeq_val_nils (e := 74) (by kernel_rfl)
theorem clonew_pts (n : Nat) (cells : List V) (hl : cells.length = n * 4) (hn : n ≤ 1048576) (h1 : ∀ x ∈ cells, x.one = true) (hp : Pures cells) : GCall prog 152 [.sl n cells] [] [cells] (.osl 0 0 n 4) := by
 cases n with
 | zero =>
  obtain rfl : cells = [] := List.eq_nil_of_length_eq_zero (by simpa using hl)
  refine gcall_empty ?_ fun a c => ?_
  ·refine gcall_body func152 rfl call152 ?_
   refine awp_slots (s' := (.nils : V) :: zJ 7) rfl ?_; dsimp only [zJ]
   refine awp_rows (rows' := []) rfl ?_
   repeat' (first | (refine Zu ?_; intro K9 h9; simp (disch := first | exact dd | fail) [aeqn_pts, aeqv_pts]; refine Zm ?_; refine Zf h9 ?_; clear h9 K9) | refine Zt ?_ | refine Y8 fun K hK => ?_ | (apply hK; clear hK K) | (refine Yb rfl ?_ ?_ <;> intro hcnd <;> (try simp at hcnd) <;> try exact dc) | refine Zx ?_ | clear hK K)
   exact Yr [none] (by simp [rowsOver])
  ·refine gcall_body func152 rfl call152 ?_
   refine awp_slots (s' := (.val (.slice (some a) 0 c) : V) :: zJ 7) rfl ?_; dsimp only [zJ]
   refine awp_rows (rows' := []) rfl ?_
   repeat' (first | (refine Zu ?_; intro K9 h9; simp (disch := first | exact dd | fail) [aeqn_pts, aeqv_pts]; refine Zm ?_; refine Zf h9 ?_; clear h9 K9) | refine Zt ?_ | refine Y8 fun K hK => ?_ | (apply hK; clear hK K) | (refine Yb rfl ?_ ?_ <;> intro hcnd <;> (try simp at hcnd) <;> try exact dc) | refine Zx ?_ | clear hK K)
   exact Yr [some 1] (by simp [rowsOver])
 | succ n =>
  refine gcall_body func152 rfl call152 ?_
  refine awp_slots (s' := (.sl (n + 1) cells : V) :: zJ 7) rfl ?_; dsimp only [zJ]
  refine awp_rows (rows' := []) rfl ?_
  repeat' (first | (refine Zu ?_; intro K9 h9; simp (disch := first | exact dd | fail) [hl, h1, aeqs_pts]; refine Zm ?_; refine Zf h9 ?_; clear h9 K9) | refine Zt ?_ | refine Y8 fun K hK => ?_ | (apply hK; clear hK K) | (refine Yb rfl ?_ ?_ <;> intro hcnd <;> (try simp at hcnd) <;> try exact dc) | refine Zx ?_ | clear hK K)
  exact Yr [some 1] (by simp [rowsOver, rowRen_live, rens_pures hp])

theorem cpoint_call (x : Pt) (hx : WPn x) : PCall prog 117 [.agg x.c] (.agg x.c) := by
 have h1 := cgens_call x.names hx.1
 have h2 := cname_call x.issuer hx.2
 show PCall _ _ [.agg [.sl x.names.length (x.names.flatMap Gn.c), .int .i64 x.reasons, .bool x.has, .sl x.issuer.length (x.issuer.map atsV)]] (.agg [.sl x.names.length (x.names.flatMap Gn.c), .int .i64 x.reasons, .bool x.has, .sl x.issuer.length (x.issuer.map atsV)])
 unfold gnsV at h1
 unfold nmV at h2
 refine pcall_body func117 rfl call117 ?_ ?_
 rotate_left 1
 refine awp_slots (s' := (.agg [.sl x.names.length (x.names.flatMap Gn.c), .int .i64 x.reasons, .bool x.has, .sl x.issuer.length (x.issuer.map atsV)] : V) :: zJ 11) rfl ?_; dsimp only [zJ]
 repeat' (first | (refine Zu ?_; intro K9 h9; refine Zd ?_; ((first | refine Ap h1 ?_ | refine Ap h2 ?_ | skip) <;> (refine Zf h9 ?_; clear h9 K9))) | refine Zt ?_ | refine Y8 fun K hK => ?_ | (apply hK; clear hK K) | (refine Zk 0 [] ?_; refine Zl ?_) | refine Zx ?_ | clear hK K)
 ·simp
  exact .pure (by simp)
 ·simp

theorem pts_at (r : List Pt) (i : Nat) (h : i < r.length) : ((r.flatMap Pt.c).drop (i * 4)).take 4 = r[i].c := flat_at Pt.c_len r i h
theorem each_pts_call (l : List Pt) (hl : l.length ≤ 65536) (hw : ∀ x ∈ l, WPn x) : PCall prog 116 [.sl l.length (l.flatMap Pt.c), .fn (.func 117) []] (.sl l.length (l.flatMap Pt.c)) := by
 refine pcall_body func116 rfl call116 ?_ ?_
 rotate_left 1
 refine awp_slots (s' := (.sl l.length (l.flatMap Pt.c) : V) :: (.fn (.func 117) [] : V) :: zJ 22) rfl ?_; dsimp only [zJ]
 have hc := clonew_pts l.length (l.flatMap Pt.c) (flat_len Pt.c_len l) (by omega) (flat_one Pt.c_one l) (pts_pures l)
 have hll := flat_len Pt.c_len l
 have hcells : ∀ i (h : i < l.length), ((l.flatMap Pt.c).drop (i * 4)).take 4 = l[i].c := pts_at l
 have hcall : ∀ x ∈ l, PCall prog 117 [.agg x.c] (.agg x.c) := fun x hx => cpoint_call x (hw x hx)
 have hpu := pts_pures l
 generalize l.flatMap Pt.c = cells at *
 repeat' (first | (refine Zu ?_; intro K9 h9; refine Zd ?_; ((first | refine acall_nsl hc hpu (by simp) ?_ | skip) <;> (refine Zf h9 ?_; clear h9 K9))) | refine Zt ?_ | refine Y8 fun K hK => ?_ | (apply hK; clear hK K) | (refine Yb rfl ?_ ?_ <;> intro hcnd <;> (try simp at hcnd) <;> try exact dc) | refine Zx ?_ | clear hK K)
 ·refine awp_countU (fun i => (zN 4 (zS 5 (zN 2 (some (V.int .i64 i) :: zS 12 []))))) (fun i => [.live cells]) l.length ?_ fun i hi KL hL => ?_
  ·dsimp only [ups, zN, zS]
   exact Yr [some 0] (by simp [rowsOver, rowRen_live, rens_pures hpu])
  dsimp only [ups, zN, zS]
  rcases Nat.lt_or_ge i l.length with hi | hi
  ·have hg := hcells i hi
   have hcl := hcall l[i] (List.getElem_mem hi)
   obtain ⟨x, hxx⟩ : ∃ x, l[i] = x := ⟨_, rfl⟩
   rw [hxx] at hcl hg
   have hput := lput_same cells (i * 4) x.c (by simpa using hg) (by simp; omega)
   have e : x.c = [.sl x.names.length (x.names.flatMap Gn.c), .int .i64 x.reasons, .bool x.has, .sl x.issuer.length (x.issuer.map atsV)] := rfl
   rw [e] at hput hg hcl
   simp only [lput, Nat.add_assoc] at hput
   repeat' (first | (refine Zu ?_; intro K9 h9; simp (disch := first | exact dd | fail) [hg, hput]; refine Zm ?_; ((first | refine Ap hcl ?_ | skip) <;> (refine Zf h9 ?_; clear h9 K9))) | refine Zt ?_ | refine Y8 fun K hK => ?_ | (apply hK; clear hK K) | (refine Yb rfl ?_ ?_ <;> intro hcnd <;> (try simp at hcnd) <;> try exact dc) | refine Zx ?_ | clear hK K)
   refine hL _ _ hi ?_
   exact Yr [some 0] (by simp [rowsOver, rowRen_live, rens_pures hpu])
  ·obtain rfl : i = l.length := by omega
   repeat' (first | refine Zq ?_ | refine Zt ?_ | refine Y8 fun K hK => ?_ | (apply hK; clear hK K) | (refine Yb rfl ?_ ?_ <;> intro hcnd <;> (try simp at hcnd) <;> try exact dc) | refine Zx ?_ | clear hK K)
   exact view_row rfl (by omega) hpu
 ·exact .sl

theorem cpoints_call (l : List Pt) (hl : l.length ≤ 65536) (hw : ∀ x ∈ l, WPn x) : PCall prog 66 [ptsV l] (ptsV l) := by
 have hn := each_pts_call l hl hw
 unfold ptsV
 refine pcall_body func66 rfl call66 ?_ ?_
 rotate_left 1
 refine awp_slots (s' := (.sl l.length (l.flatMap Pt.c) : V) :: zJ 4) rfl ?_; dsimp only [zJ]
 repeat' (first | (refine Zu ?_; intro K9 h9; refine Zd ?_; ((first | refine Ap hn ?_ | skip) <;> (refine Zf h9 ?_; clear h9 K9))) | refine Zt ?_ | refine Y8 fun K hK => ?_ | (apply hK; clear hK K) | refine Zx ?_ | clear hK K)
 ·exact .pure .sl
 ·exact .sl
end Go.Proofs.YtnpndfmbkmbhbaaGreatDoor
