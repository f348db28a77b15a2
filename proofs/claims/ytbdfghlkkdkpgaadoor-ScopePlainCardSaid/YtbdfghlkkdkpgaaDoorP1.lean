/-
  SCOPE: lists as they read; copies of points.
  Conditions: none.
-/
import Derived.Test.YtbdfghlkkdkpgaaDoorGe
import Derived.Test.YtbdfghlkkdkpgaaDoorGf
import Derived.Test.YtbdfghlkkdkpgaaDoorGj
import Derived.Test.YtbdfghlkkdkpgaaDoorGl
import Derived.Test.YtbdfghlkkdkpgaaDoorQ16
import Derived.Test.YtbdfghlkkdkpgaaDoorQ17
import Derived.Test.YtbdfghlkkdkpgaaDoorQ18
import Derived.Test.YtbdfghlkkdkpgaaDoorQ25
import Derived.Test.YtbdfghlkkdkpgaaDoorQ26
import Derived.Test.YtbdfghlkkdkpgaaDoorQ27
import Derived.Test.YtbdfghlkkdkpgaaDoorTab
import Derived.Test.YtbdfghlkkdkpgaaDoorGd
import Derived.Test.YtbdfghlkkdkpgaaDoorGi
import Derived.Test.YtbdfghlkkdkpgaaDoorVs33
import Derived.Test.YtbdfghlkkdkpgaaDoorVs34
import Derived.Test.YtbdfghlkkdkpgaaDoorVs35
set_option linter.all false
namespace Go.Stp
open Go.VS
structure Sc where
  names : List Gn
  ou : Bool
  oc : Bool
  reasons : Int
  ind : Bool
  deriving DecidableEq
structure En where
  serial : Int
  time : Int
  reason : Int
  inv : Int
  issuer : Nm
  deriving DecidableEq
structure Li where
  raw : List UInt8
  tbs : List UInt8
  issuer : Nm
  this : Int
  next : Int
  number : Int
  base : Int
  ak : List UInt8
  has : Bool
  sc : Sc
  fresh : List Pt
  entries : List En
  sig : List UInt8
  deriving DecidableEq
def En.c (e : En) : List V := [.int .i64 e.serial, .int .i64 e.time, .int .i64 e.reason, .int .i64 e.inv, nmV e.issuer]
def ensV (l : List En) : V := .sl l.length (l.flatMap En.c)
def Sc.c (s : Sc) : List V := [gnsV s.names, .bool s.ou, .bool s.oc, .int .i64 s.reasons, .bool s.ind]
def Li.c (l : Li) : List V := [.str l.raw, .str l.tbs, nmV l.issuer, .int .i64 l.this, .int .i64 l.next, .int .i64 l.number, .int .i64 l.base, .str l.ak, .bool l.has, gnsV l.sc.names, .bool l.sc.ou, .bool l.sc.oc, .int .i64 l.sc.reasons, .bool l.sc.ind, ptsV l.fresh, ensV l.entries, .str l.sig]
@[simp] theorem ensV_pure (r : List En) : (ensV r).Pure := .sl
@[simp] theorem ensV_one (r : List En) : (ensV r).one = true := rfl
@[simp] theorem Sc.c_pures (s : Sc) : Pures s.c := by simp [Sc.c]
@[simp] theorem Li.c_pures (l : Li) : Pures l.c := by simp [Li.c]
/-- Small enough to be copied. -/
def WPn (p : Pt) : Prop := WG p.names ∧ WN p.issuer
@[simp] theorem Pt.c_len (p : Pt) : p.c.length = 4 := rfl
theorem Pt.c_one (p : Pt) : ∀ x ∈ p.c, x.one = true := ptc_one p
end Go.Stp
namespace Go.Proofs.YtbdfghlkkdkpgaaDoor
open Go.VS Go.Stp
set_option linter.all false
set_option maxRecDepth 100000
set_option maxHeartbeats 8000000
attribute [local irreducible] arun arunD AWp aend
theorem aeqn_pts (d : Nat) : aeq Tryd.prog (d + 1) 33 .nils .nils = some true := aeq_nils (e := 53) (by kernel_rfl)
theorem aeqs_pts (d n : Nat) (c : List V) : aeq Tryd.prog (d + 1) 33 (.sl (n + 1) c) .nils = some false := aeq_sl_nils (e := 53) (by kernel_rfl)
theorem aeqv_pts (d n c : Nat) (a : Addr) : aeq Tryd.prog (d + 1) 33 (.val (.slice (some a) n c)) .nils = some false := aeq_val_nils (e := 53) (by kernel_rfl)
theorem clonew_pts (n : Nat) (cells : List V) (hl : cells.length = n * 4) (hn : n ≤ 1048576) (h1 : ∀ x ∈ cells, x.one = true) (hp : Pures cells) : GCall Tryd.prog 51 [.sl n cells] [] [cells] (.osl 0 0 n 4) := by
  cases n with
  | zero =>
    obtain rfl : cells = [] := List.eq_nil_of_length_eq_zero (by simpa using hl)
    refine gcall_empty ?_ fun a c => ?_
    · refine gcall_body Tryd.func51 rfl Tryd.call51 ?_
      refine awp_slots (s' := [(.nils : V), .junk, .junk, .junk, .junk, .junk, .junk, .junk]) rfl ?_
      refine awp_rows (rows' := []) rfl ?_
      repeat' (first | (refine Y0 rfl fun K9 h9 => ?_; simp (disch := (first | (simp; done) | omega | (simp; omega))) [aeqn_pts, aeqv_pts]; (try simp (disch := (first | omega | (simp; omega))) only [X7, X8, X9, Xa, Xb, Xc]); ((repeat (refine Yz ?_)); (first | refine h9 _ _ (Ys ?_)); clear h9 K9)) | refine Y6 ?_ | (refine Y8 fun K hK => ?_) | refine Y9 ?_ | (apply hK; clear hK K) | (refine Yb rfl (fun hcnd => ?_) (fun hcnd => ?_) <;> (try simp at hcnd) <;> (try contradiction) <;> (try (exfalso; omega))) | refine Yc ?_ | (refine Ye ?_; refine Yf ?_) | refine Yg ?_ | (simp only [X0, X1, X2, X3, X4, X5, X6, Nat.reduceBEq]) | (clear hK K; first | (apply hK; clear hK K) | (clear hK K; first | (apply hK; clear hK K) | (clear hK K; first | (apply hK; clear hK K) | (clear hK K; apply hK; clear hK K)))))
      exact Yr [none] (by simp [rowsOver])
    · refine gcall_body Tryd.func51 rfl Tryd.call51 ?_
      refine awp_slots (s' := [(.val (.slice (some a) 0 c) : V), .junk, .junk, .junk, .junk, .junk, .junk, .junk]) rfl ?_
      refine awp_rows (rows' := []) rfl ?_
      repeat' (first | (refine Y0 rfl fun K9 h9 => ?_; simp (disch := (first | (simp; done) | omega | (simp; omega))) [aeqn_pts, aeqv_pts]; (try simp (disch := (first | omega | (simp; omega))) only [X7, X8, X9, Xa, Xb, Xc]); ((repeat (refine Yz ?_)); (first | refine h9 _ _ (Ys ?_)); clear h9 K9)) | refine Y6 ?_ | (refine Y8 fun K hK => ?_) | refine Y9 ?_ | (apply hK; clear hK K) | (refine Yb rfl (fun hcnd => ?_) (fun hcnd => ?_) <;> (try simp at hcnd) <;> (try contradiction) <;> (try (exfalso; omega))) | refine Yc ?_ | (refine Ye ?_; refine Yf ?_) | refine Yg ?_ | (simp only [X0, X1, X2, X3, X4, X5, X6, Nat.reduceBEq]) | (clear hK K; first | (apply hK; clear hK K) | (clear hK K; first | (apply hK; clear hK K) | (clear hK K; first | (apply hK; clear hK K) | (clear hK K; apply hK; clear hK K)))))
      exact Yr [some 1] (by simp [rowsOver])
  | succ n =>
    refine gcall_body Tryd.func51 rfl Tryd.call51 ?_
    refine awp_slots (s' := [(.sl (n + 1) cells : V), .junk, .junk, .junk, .junk, .junk, .junk, .junk]) rfl ?_
    refine awp_rows (rows' := []) rfl ?_
    repeat' (first | (refine Y0 rfl fun K9 h9 => ?_; simp (disch := (first | (simp; done) | omega | (simp; omega))) [hl, h1, aeqs_pts]; (try simp (disch := (first | omega | (simp; omega))) only [X7, X8, X9, Xa, Xb, Xc]); ((repeat (refine Yz ?_)); (first | refine h9 _ _ (Ys ?_)); clear h9 K9)) | refine Y6 ?_ | (refine Y8 fun K hK => ?_) | refine Y9 ?_ | (apply hK; clear hK K) | (refine Yb rfl (fun hcnd => ?_) (fun hcnd => ?_) <;> (try simp at hcnd) <;> (try contradiction) <;> (try (exfalso; omega))) | refine Yc ?_ | (refine Ye ?_; refine Yf ?_) | refine Yg ?_ | (simp only [X0, X1, X2, X3, X4, X5, X6, Nat.reduceBEq]) | (clear hK K; first | (apply hK; clear hK K) | (clear hK K; first | (apply hK; clear hK K) | (clear hK K; first | (apply hK; clear hK K) | (clear hK K; apply hK; clear hK K)))))
    exact Yr [some 1] (by simp [rowsOver, rowRen_live, rens_pures hp])

theorem cpoint_call (x : Pt) (hx : WPn x) : PCall Tryd.prog 41 [.agg x.c] (.agg x.c) := by
  have h1 := cgens_call x.names hx.1
  have h2 := cname_call x.issuer hx.2
  show PCall _ _ [.agg [.sl x.names.length (x.names.flatMap Gn.c), .int .i64 x.reasons, .bool x.has, .sl x.issuer.length (x.issuer.map atsV)]] (.agg [.sl x.names.length (x.names.flatMap Gn.c), .int .i64 x.reasons, .bool x.has, .sl x.issuer.length (x.issuer.map atsV)])
  unfold gnsV at h1
  unfold nmV at h2
  refine pcall_body Tryd.func41 rfl Tryd.call41 ?_ ?_
  rotate_left 1
  refine awp_slots (s' := [(.agg [.sl x.names.length (x.names.flatMap Gn.c), .int .i64 x.reasons, .bool x.has, .sl x.issuer.length (x.issuer.map atsV)] : V), .junk, .junk, .junk, .junk, .junk, .junk, .junk, .junk, .junk, .junk, .junk]) rfl ?_
  repeat' (first | ((first | refine Y0 rfl fun K9 h9 => ?_ | refine Y1 rfl rfl fun K9 h9 => ?_ | refine Y2 rfl rfl fun K9 h9 => ?_); simp (disch := (first | (simp; done) | omega | (simp; omega))); (try simp (disch := (first | omega | (simp; omega))) only [X7, X8, X9, Xa, Xb, Xc]); ((first | refine acall_pure (h1) (by simp) ?_ | refine acall_pure (h2) (by simp) ?_ | skip) <;> ((repeat (refine Yz ?_)); (first | refine h9 _ _ (Ys ?_) | refine h9 _ _ (Yt ?_)); clear h9 K9))) | refine Y6 ?_ | refine Y7 ?_ | (refine Y8 fun K hK => ?_) | refine Y9 ?_ | (apply hK; clear hK K) | ((first | refine Yk (m := 0) (by decide +kernel) [] (by kernel_rfl) (by decide +kernel) ?_); dsimp only [List.replicate, List.append_nil, List.cons_append, List.nil_append, List.length_cons, List.length_nil]) | (refine Ye ?_; refine Yf ?_) | refine Yg ?_ | (simp only [X0, X1, X2, X3, X4, X5, X6, Nat.reduceBEq]) | (clear hK K; first | (apply hK; clear hK K) | (clear hK K; first | (apply hK; clear hK K) | (clear hK K; first | (apply hK; clear hK K) | (clear hK K; apply hK; clear hK K)))))
  · simp
    exact .pure (by simp)
  · simp

theorem pts_at (r : List Pt) (i : Nat) (h : i < r.length) : ((r.flatMap Pt.c).drop (i * 4)).take 4 = r[i].c := flat_at Pt.c_len r i h
theorem each_pts_call (l : List Pt) (hl : l.length ≤ 65536) (hw : ∀ x ∈ l, WPn x) : PCall Tryd.prog 40 [.sl l.length (l.flatMap Pt.c), .fn (.func 41) []] (.sl l.length (l.flatMap Pt.c)) := by
  refine pcall_body Tryd.func40 rfl Tryd.call40 ?_ ?_
  rotate_left 1
  refine awp_slots (s' := [(.sl l.length (l.flatMap Pt.c) : V), (.fn (.func 41) [] : V), .junk, .junk, .junk, .junk, .junk, .junk, .junk, .junk, .junk, .junk, .junk, .junk, .junk, .junk, .junk, .junk, .junk, .junk, .junk, .junk, .junk, .junk]) rfl ?_
  have hc := clonew_pts l.length (l.flatMap Pt.c) (flat_len Pt.c_len l) (by omega) (flat_one Pt.c_one l) (pts_pures l)
  have hll := flat_len Pt.c_len l
  have hcells : ∀ i (h : i < l.length), ((l.flatMap Pt.c).drop (i * 4)).take 4 = l[i].c := pts_at l
  have hcall : ∀ x ∈ l, PCall Tryd.prog 41 [.agg x.c] (.agg x.c) := fun x hx => cpoint_call x (hw x hx)
  have hpu := pts_pures l
  generalize l.flatMap Pt.c = cells at *
  repeat' (first | (refine Y0 rfl fun K9 h9 => ?_; simp (disch := (first | (simp; done) | omega | (simp; omega))); (try simp (disch := (first | omega | (simp; omega))) only [X7, X8, X9, Xa, Xb, Xc]); ((first | refine acall_nsl hc hpu (by simp) ?_ | skip) <;> ((repeat (refine Yz ?_)); (first | refine h9 _ _ (Ys ?_)); clear h9 K9))) | refine Y6 ?_ | (refine Y8 fun K hK => ?_) | refine Y9 ?_ | (apply hK; clear hK K) | refine Ya ?_ | (refine Yb rfl (fun hcnd => ?_) (fun hcnd => ?_) <;> (try simp at hcnd) <;> (try contradiction) <;> (try (exfalso; omega))) | refine Yc ?_ | (refine Yd ?_; simp only [X0, X1, X2, X3, X4, X5, X6, Nat.reduceBEq]) | (refine Ye ?_; refine Yf ?_) | refine Yg ?_ | (simp only [X0, X1, X2, X3, X4, X5, X6, Nat.reduceBEq]) | (clear hK K; first | (apply hK; clear hK K) | (clear hK K; first | (apply hK; clear hK K) | (clear hK K; first | (apply hK; clear hK K) | (clear hK K; apply hK; clear hK K)))))
  · refine awp_countU (fun i => [none, none, none, none, some V.junk, some V.junk, some V.junk, some V.junk, some V.junk, none, none, some (V.int .i64 i), some V.junk, some V.junk, some V.junk, some V.junk, some V.junk, some V.junk, some V.junk, some V.junk, some V.junk, some V.junk, some V.junk, some V.junk]) (fun i => [.live cells]) l.length ?_ fun i hi KL hL => ?_
    · dsimp only [ups_some, ups_none, ups_nil, ups_nil']
      exact Yr [some 0] (by simp [rowsOver, rowRen_live, rens_pures hpu])
    dsimp only [ups_some, ups_none, ups_nil, ups_nil']
    rcases Nat.lt_or_ge i l.length with hi | hi
    · have hg := hcells i hi
      have hcl := hcall l[i] (List.getElem_mem hi)
      obtain ⟨x, hxx⟩ : ∃ x, l[i] = x := ⟨_, rfl⟩
      rw [hxx] at hcl hg
      have hput := lput_same cells (i * 4) x.c (by simpa using hg) (by simp; omega)
      have e : x.c = [.sl x.names.length (x.names.flatMap Gn.c), .int .i64 x.reasons, .bool x.has, .sl x.issuer.length (x.issuer.map atsV)] := rfl
      rw [e] at hput hg hcl
      simp only [lput, Nat.add_assoc] at hput
      repeat' (first | (refine Y0 rfl fun K9 h9 => ?_; simp (disch := (first | (simp; done) | omega | (simp; omega))) [hg, hput]; (try simp (disch := (first | omega | (simp; omega))) only [X7, X8, X9, Xa, Xb, Xc]); ((first | refine acall_pure (hcl) (by simp) ?_ | skip) <;> ((repeat (refine Yz ?_)); (first | refine h9 _ _ (Ys ?_)); clear h9 K9))) | refine Y6 ?_ | (refine Y8 fun K hK => ?_) | refine Y9 ?_ | (apply hK; clear hK K) | refine Ya ?_ | (refine Yb rfl (fun hcnd => ?_) (fun hcnd => ?_) <;> (try simp at hcnd) <;> (try contradiction) <;> (try (exfalso; omega))) | refine Yc ?_ | (refine Yd ?_; simp only [X0, X1, X2, X3, X4, X5, X6, Nat.reduceBEq]) | (refine Ye ?_; refine Yf ?_) | refine Yg ?_ | (simp only [X0, X1, X2, X3, X4, X5, X6, Nat.reduceBEq]) | (clear hK K; first | (apply hK; clear hK K) | (clear hK K; first | (apply hK; clear hK K) | (clear hK K; first | (apply hK; clear hK K) | (clear hK K; apply hK; clear hK K)))))
      refine hL _ _ hi ?_
      exact Yr [some 0] (by simp [rowsOver, rowRen_live, rens_pures hpu])
    · obtain rfl : i = l.length := by omega
      repeat' (first | (refine Y0 rfl fun K9 h9 => ?_; simp (disch := (first | (simp; done) | omega | (simp; omega))); (try simp (disch := (first | omega | (simp; omega))) only [X7, X8, X9, Xa, Xb, Xc]); ((repeat (refine Yz ?_)); (first | refine h9 _ _ (Ys ?_)); clear h9 K9)) | refine Y6 ?_ | (refine Y8 fun K hK => ?_) | refine Y9 ?_ | (apply hK; clear hK K) | refine Ya ?_ | (refine Yb rfl (fun hcnd => ?_) (fun hcnd => ?_) <;> (try simp at hcnd) <;> (try contradiction) <;> (try (exfalso; omega))) | refine Yc ?_ | (refine Yd ?_; simp only [X0, X1, X2, X3, X4, X5, X6, Nat.reduceBEq]) | (refine Ye ?_; refine Yf ?_) | refine Yg ?_ | (simp only [X0, X1, X2, X3, X4, X5, X6, Nat.reduceBEq]) | (clear hK K; first | (apply hK; clear hK K) | (clear hK K; first | (apply hK; clear hK K) | (clear hK K; first | (apply hK; clear hK K) | (clear hK K; apply hK; clear hK K)))))
      exact view_row rfl (by omega) hpu
  · exact .sl

theorem cpoints_call (l : List Pt) (hl : l.length ≤ 65536) (hw : ∀ x ∈ l, WPn x) : PCall Tryd.prog 24 [ptsV l] (ptsV l) := by
  have hn := each_pts_call l hl hw
  unfold ptsV
  refine pcall_body Tryd.func24 rfl Tryd.call24 ?_ ?_
  rotate_left 1
  refine awp_slots (s' := [(.sl l.length (l.flatMap Pt.c) : V), .junk, .junk, .junk, .junk]) rfl ?_
  repeat' (first | (refine Y0 rfl fun K9 h9 => ?_; simp (disch := (first | (simp; done) | omega | (simp; omega))); (try simp (disch := (first | omega | (simp; omega))) only [X7, X8, X9, Xa, Xb, Xc]); ((first | refine acall_pure (hn) (by simp) ?_ | skip) <;> ((repeat (refine Yz ?_)); (first | refine h9 _ _ (Ys ?_)); clear h9 K9))) | refine Y6 ?_ | (refine Y8 fun K hK => ?_) | refine Y9 ?_ | (apply hK; clear hK K) | (refine Ye ?_; refine Yf ?_) | refine Yg ?_ | (simp only [X0, X1, X2, X3, X4, X5, X6, Nat.reduceBEq]) | (clear hK K; first | (apply hK; clear hK K) | (clear hK K; first | (apply hK; clear hK K) | (clear hK K; first | (apply hK; clear hK K) | (clear hK K; apply hK; clear hK K)))))
  · exact .pure .sl
  · exact .sl
end Go.Proofs.YtbdfghlkkdkpgaaDoor

