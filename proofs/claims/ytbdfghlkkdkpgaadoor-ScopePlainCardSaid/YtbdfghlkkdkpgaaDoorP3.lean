/-
  SCOPE: what a list covers (the program).
  Conditions: none.
-/
import Derived.Test.YtbdfghlkkdkpgaaDoorGe
import Derived.Test.YtbdfghlkkdkpgaaDoorGf
import Derived.Test.YtbdfghlkkdkpgaaDoorP1
import Derived.Test.YtbdfghlkkdkpgaaDoorP2
import Derived.Test.YtbdfghlkkdkpgaaDoorGj
import Derived.Test.YtbdfghlkkdkpgaaDoorGl
import Derived.Test.YtbdfghlkkdkpgaaDoorQ6
import Derived.Test.YtbdfghlkkdkpgaaDoorQ16
import Derived.Test.YtbdfghlkkdkpgaaDoorQ17
import Derived.Test.YtbdfghlkkdkpgaaDoorQ18
import Derived.Test.YtbdfghlkkdkpgaaDoorQ25
import Derived.Test.YtbdfghlkkdkpgaaDoorQ26
import Derived.Test.YtbdfghlkkdkpgaaDoorQ27
import Derived.Test.YtbdfghlkkdkpgaaDoorTab
import Derived.Test.YtbdfghlkkdkpgaaDoorGd
import Derived.Test.YtbdfghlkkdkpgaaDoorGi
import Derived.Test.YtbdfghlkkdkpgaaDoorVs33
import Derived.Test.YtbdfghlkkdkpgaaDoorVs34
import Derived.Test.YtbdfghlkkdkpgaaDoorVs35
set_option linter.all false
namespace Go.Stp
open Go.VS
def allM (m : Int) : Int := if m = 0 then 510 else m
structure WPk (p : Pt) : Prop where
  names : ∀ x ∈ p.names, WGk x
  few : p.names.length ≤ 65536
  issuer : WN p.issuer
def dirG (n : Nm) : Gn := ⟨4, [], n⟩
def fitsG (p : Pt) (g : Gn) : Bool := if p.names.length = 0 ∧ p.has = true then sameG g (dirG p.issuer) else p.names.any (sameG g)
theorem view_fn {rows : List Row} {f : Fn} {c d : List V} (h : Views rows c d) : View rows (.fn f c) (.fn f d) := .fn h.get.1 h.get.2
theorem dir_wgk {n : Nm} (h : WN n) : WGk (dirG n) := ⟨.inr rfl, by simp [dirG], h⟩
end Go.Stp
namespace Go.Proofs.YtbdfghlkkdkpgaaDoor
open Go.VS Go.Stp
set_option linter.all false
set_option maxRecDepth 100000
set_option maxHeartbeats 8000000
attribute [local irreducible] arun arunD arunU AWp aend bits
theorem all_call (m : Int) : PCall Tryd.prog 26 [.int .i64 m] (.int .i64 (allM m)) := by
  refine pcall_body Tryd.func26 rfl Tryd.call26 ?_ ?_
  rotate_left 1
  refine awp_slots (s' := [(.int .i64 m : V), .junk, .junk, .junk, .junk, .junk]) rfl ?_
  unfold allM
  by_cases h : m = 0
  · rw [if_pos h]
    repeat' (first | (refine Y0 rfl fun K9 h9 => ?_; simp (disch := (first | (simp; done) | omega | (simp; omega))) [h]; (try simp (disch := (first | omega | (simp; omega))) only [X7, X8, X9, Xa, Xb, Xc]); ((repeat (refine Yz ?_)); (first | refine h9 _ _ (Ys ?_)); clear h9 K9)) | refine Y6 ?_ | (refine Y8 fun K hK => ?_) | refine Y9 ?_ | (apply hK; clear hK K) | (refine Yb rfl (fun hcnd => ?_) (fun hcnd => ?_) <;> (try simp at hcnd) <;> (try contradiction) <;> (try (exfalso; omega))) | refine Yc ?_ | (refine Ye ?_; refine Yf ?_) | refine Yg ?_ | (simp only [X0, X1, X2, X3, X4, X5, X6, Nat.reduceBEq]) | (clear hK K; first | (apply hK; clear hK K) | (clear hK K; first | (apply hK; clear hK K) | (clear hK K; first | (apply hK; clear hK K) | (clear hK K; apply hK; clear hK K)))))
    exact .pure .int
  · rw [if_neg h]
    repeat' (first | (refine Y0 rfl fun K9 h9 => ?_; simp (disch := (first | (simp; done) | omega | (simp; omega))) [h]; (try simp (disch := (first | omega | (simp; omega))) only [X7, X8, X9, Xa, Xb, Xc]); ((repeat (refine Yz ?_)); (first | refine h9 _ _ (Ys ?_)); clear h9 K9)) | refine Y6 ?_ | (refine Y8 fun K hK => ?_) | refine Y9 ?_ | (apply hK; clear hK K) | (refine Yb rfl (fun hcnd => ?_) (fun hcnd => ?_) <;> (try simp at hcnd) <;> (try contradiction) <;> (try (exfalso; omega))) | refine Yc ?_ | (refine Ye ?_; refine Yf ?_) | refine Yg ?_ | (simp only [X0, X1, X2, X3, X4, X5, X6, Nat.reduceBEq]) | (clear hK K; first | (apply hK; clear hK K) | (clear hK K; first | (apply hK; clear hK K) | (clear hK K; first | (apply hK; clear hK K) | (clear hK K; apply hK; clear hK K)))))
    exact .pure .int
  exact .int

theorem gindex_call (l : List Gn) (f : FuncId) (cs : List V) (B : Gn → Bool) (hl : l.length ≤ 65536) (hc : ∀ x ∈ l, PCall Tryd.prog f [.agg x.c, .rptr cs] (.bool (B x))) : PCall Tryd.prog 43 [gnsV l, .fn (.func f) [.rptr cs]] (.int .i64 (findI B l)) := by
  unfold gnsV
  have hll : (l.flatMap Gn.c).length = l.length * 3 := gns_len l
  have hcells := gens_at l
  refine pcall_body Tryd.func43 rfl Tryd.call43 ?_ ?_
  rotate_left 1
  refine awp_slots (s' := [(.sl l.length (l.flatMap Gn.c) : V), (.fn (.func f) [.rptr cs] : V), .junk, .junk, .junk, .junk, .junk, .junk, .junk, .junk, .junk, .junk, .junk, .junk, .junk, .junk, .junk, .junk, .junk]) rfl ?_
  generalize l.flatMap Gn.c = cells at *
  repeat' (first | (refine Y0 rfl fun K9 h9 => ?_; simp (disch := (first | (simp; done) | omega | (simp; omega))); (try simp (disch := (first | omega | (simp; omega))) only [X7, X8, X9, Xa, Xb, Xc]); ((repeat (refine Yz ?_)); (first | refine h9 _ _ (Ys ?_)); clear h9 K9)) | refine Y6 ?_ | (refine Y8 fun K hK => ?_) | refine Y9 ?_ | (apply hK; clear hK K) | refine Ya ?_ | (refine Yb rfl (fun hcnd => ?_) (fun hcnd => ?_) <;> (try simp at hcnd) <;> (try contradiction) <;> (try (exfalso; omega))) | refine Yc ?_ | (refine Yd ?_; simp only [X0, X1, X2, X3, X4, X5, X6, Nat.reduceBEq]) | (refine Ye ?_; refine Yf ?_) | refine Yg ?_ | (simp only [X0, X1, X2, X3, X4, X5, X6, Nat.reduceBEq]) | (clear hK K; first | (apply hK; clear hK K) | (clear hK K; first | (apply hK; clear hK K) | (clear hK K; first | (apply hK; clear hK K) | (clear hK K; apply hK; clear hK K)))))
  · refine awp_loopU (α := Nat) (fun i => [none, none, none, none, some V.junk, some V.junk, some V.junk, none, some (V.int .i64 i), some V.junk, some V.junk, some V.junk, some V.junk, some V.junk, some V.junk, some V.junk, some V.junk, some V.junk, some V.junk]) (fun i => []) (fun i => i ≤ l.length ∧ ∀ j (h : j < l.length), j < i → B l[j] = false) (fun i => l.length - i) 0 ⟨by omega, fun j _ h => by omega⟩ ?_ ?_
    · dsimp only [ups_some, ups_none, ups_nil, ups_nil']
      exact Yr [] (by simp [rowsOver])
    rintro i ⟨hi, hall⟩ KL hL
    dsimp only [ups_some, ups_none, ups_nil, ups_nil']
    rcases Nat.lt_or_ge i l.length with hi | hi
    · have hstep : B l[i] = false → i + 1 ≤ l.length ∧ ∀ j (h : j < l.length), j < i + 1 → B l[j] = false := fun hx => ⟨by omega, fun j hj h => by
        rcases Nat.lt_or_ge j i with h3 | h3
        · exact hall j hj h3
        · obtain rfl : j = i := by omega
          exact hx⟩
      have hfound : B l[i] = true → findI B l = i := fun h => findI_some hi h hall
      have hg := hcells i hi
      have hc := hc l[i] (List.getElem_mem hi)
      obtain ⟨x, hxx⟩ : ∃ x, l[i] = x := ⟨_, rfl⟩
      rw [hxx] at hstep hfound hg hc
      rw [show x.c = [.int .i64 x.kind, .str x.text, nmV x.name] from rfl] at hg hc
      cases h1 : B x
      · rw [h1] at hc
        repeat' (first | (refine Y0 rfl fun K9 h9 => ?_; simp (disch := (first | (simp; done) | omega | (simp; omega))) [hg]; (try simp (disch := (first | omega | (simp; omega))) only [X7, X8, X9, Xa, Xb, Xc]); ((first | refine acall_pure (hc) (by simp) ?_ | skip) <;> ((repeat (refine Yz ?_)); (first | refine h9 _ _ (Ys ?_)); clear h9 K9))) | refine Y6 ?_ | (refine Y8 fun K hK => ?_) | refine Y9 ?_ | (apply hK; clear hK K) | refine Ya ?_ | (refine Yb rfl (fun hcnd => ?_) (fun hcnd => ?_) <;> (try simp at hcnd) <;> (try contradiction) <;> (try (exfalso; omega))) | refine Yc ?_ | (refine Yd ?_; simp only [X0, X1, X2, X3, X4, X5, X6, Nat.reduceBEq]) | (refine Ye ?_; refine Yf ?_) | refine Yg ?_ | (simp only [X0, X1, X2, X3, X4, X5, X6, Nat.reduceBEq]) | (clear hK K; first | (apply hK; clear hK K) | (clear hK K; first | (apply hK; clear hK K) | (clear hK K; first | (apply hK; clear hK K) | (clear hK K; apply hK; clear hK K)))))
        refine hL (i + 1) _ _ (hstep h1) (by omega) ?_
        exact Yr [] (by simp [rowsOver])
      · rw [h1] at hc
        repeat' (first | (refine Y0 rfl fun K9 h9 => ?_; simp (disch := (first | (simp; done) | omega | (simp; omega))) [hg]; (try simp (disch := (first | omega | (simp; omega))) only [X7, X8, X9, Xa, Xb, Xc]); ((first | refine acall_pure (hc) (by simp) ?_ | skip) <;> ((repeat (refine Yz ?_)); (first | refine h9 _ _ (Ys ?_)); clear h9 K9))) | refine Y6 ?_ | (refine Y8 fun K hK => ?_) | refine Y9 ?_ | (apply hK; clear hK K) | refine Ya ?_ | (refine Yb rfl (fun hcnd => ?_) (fun hcnd => ?_) <;> (try simp at hcnd) <;> (try contradiction) <;> (try (exfalso; omega))) | refine Yc ?_ | (refine Yd ?_; simp only [X0, X1, X2, X3, X4, X5, X6, Nat.reduceBEq]) | (refine Ye ?_; refine Yf ?_) | refine Yg ?_ | (simp only [X0, X1, X2, X3, X4, X5, X6, Nat.reduceBEq]) | (clear hK K; first | (apply hK; clear hK K) | (clear hK K; first | (apply hK; clear hK K) | (clear hK K; first | (apply hK; clear hK K) | (clear hK K; apply hK; clear hK K)))))
        rw [hfound h1]
        exact .pure .int
    · repeat' (first | (refine Y0 rfl fun K9 h9 => ?_; simp (disch := (first | (simp; done) | omega | (simp; omega))); (try simp (disch := (first | omega | (simp; omega))) only [X7, X8, X9, Xa, Xb, Xc]); ((repeat (refine Yz ?_)); (first | refine h9 _ _ (Ys ?_)); clear h9 K9)) | refine Y6 ?_ | (refine Y8 fun K hK => ?_) | refine Y9 ?_ | (apply hK; clear hK K) | refine Ya ?_ | (refine Yb rfl (fun hcnd => ?_) (fun hcnd => ?_) <;> (try simp at hcnd) <;> (try contradiction) <;> (try (exfalso; omega))) | refine Yc ?_ | (refine Yd ?_; simp only [X0, X1, X2, X3, X4, X5, X6, Nat.reduceBEq]) | (refine Ye ?_; refine Yf ?_) | refine Yg ?_ | (simp only [X0, X1, X2, X3, X4, X5, X6, Nat.reduceBEq]) | (clear hK K; first | (apply hK; clear hK K) | (clear hK K; first | (apply hK; clear hK K) | (clear hK K; first | (apply hK; clear hK K) | (clear hK K; apply hK; clear hK K)))))
      rw [findI_none fun j hj => hall j hj (by omega)]
      exact .pure .int
  · exact .int

theorem gcontains_call (l : List Gn) (f : FuncId) (cs : List V) (B : Gn → Bool) (hl : l.length ≤ 65536) (hc : ∀ x ∈ l, PCall Tryd.prog f [.agg x.c, .rptr cs] (.bool (B x))) : PCall Tryd.prog 27 [gnsV l, .fn (.func f) [.rptr cs]] (.bool (l.any B)) := by
  have hi := gindex_call l f cs B hl hc
  have hg := findI_ge B l
  rw [← hg]
  unfold gnsV at *
  generalize findI B l = r at *
  refine pcall_body Tryd.func27 rfl Tryd.call27 ?_ ?_
  rotate_left 1
  refine awp_slots (s' := [(.sl l.length (l.flatMap Gn.c) : V), (.fn (.func f) [.rptr cs] : V), .junk, .junk, .junk, .junk, .junk, .junk, .junk]) rfl ?_
  repeat' (first | (refine Y0 rfl fun K9 h9 => ?_; simp (disch := (first | (simp; done) | omega | (simp; omega))); (try simp (disch := (first | omega | (simp; omega))) only [X7, X8, X9, Xa, Xb, Xc]); ((first | refine acall_pure (hi) (by simp) ?_ | skip) <;> ((repeat (refine Yz ?_)); (first | refine h9 _ _ (Ys ?_)); clear h9 K9))) | refine Y6 ?_ | (refine Y8 fun K hK => ?_) | refine Y9 ?_ | (apply hK; clear hK K) | (refine Ye ?_; refine Yf ?_) | refine Yg ?_ | (simp only [X0, X1, X2, X3, X4, X5, X6, Nat.reduceBEq]) | (clear hK K; first | (apply hK; clear hK K) | (clear hK K; first | (apply hK; clear hK K) | (clear hK K; first | (apply hK; clear hK K) | (clear hK K; apply hK; clear hK K)))))
  · exact .pure .bool
  · exact .bool

theorem fits1_call (n g : Gn) (hn : WGk n) (hg : WGk g) : PCall Tryd.prog 45 [.agg n.c, .rptr g.c] (.bool (sameG g n)) := by
  have h := gsame_call g n hg hn
  rw [show g.c = [.int .i64 g.kind, .str g.text, nmV g.name] from rfl, show n.c = [.int .i64 n.kind, .str n.text, nmV n.name] from rfl] at *
  refine pcall_body Tryd.func45 rfl Tryd.call45 ?_ ?_
  rotate_left 1
  refine awp_slots (s' := [(.agg [.int .i64 n.kind, .str n.text, nmV n.name] : V), (.rptr [.int .i64 g.kind, .str g.text, nmV g.name] : V), .junk, .junk, .junk, .junk, .junk]) rfl ?_
  repeat' (first | (refine Y0 rfl fun K9 h9 => ?_; simp (disch := (first | (simp; done) | omega | (simp; omega))); (try simp (disch := (first | omega | (simp; omega))) only [X7, X8, X9, Xa, Xb, Xc]); ((first | refine acall_pure (h) (by simp) ?_ | skip) <;> ((repeat (refine Yz ?_)); (first | refine h9 _ _ (Ys ?_)); clear h9 K9))) | refine Y6 ?_ | (refine Y8 fun K hK => ?_) | refine Y9 ?_ | (apply hK; clear hK K) | (refine Ye ?_; refine Yf ?_) | refine Yg ?_ | (simp only [X0, X1, X2, X3, X4, X5, X6, Nat.reduceBEq]) | (clear hK K; first | (apply hK; clear hK K) | (clear hK K; first | (apply hK; clear hK K) | (clear hK K; first | (apply hK; clear hK K) | (clear hK K; apply hK; clear hK K)))))
  · exact .pure .bool
  · exact .bool

theorem fits_call (g : Gn) (p : Pt) (hg : WGk g) (hp : WPk p) : PCall Tryd.prog 29 [.agg g.c, .agg p.c] (.bool (fitsG p g)) := by
  have h1 : PCall Tryd.prog 44 [.agg [.int .i64 g.kind, .str g.text, nmV g.name], .agg [.int .i64 4, .str [], nmV p.issuer]] (.bool (sameG g (dirG p.issuer))) := gsame_call g (dirG p.issuer) hg (dir_wgk hp.issuer)
  have h2 := gcontains_call p.names 45 g.c (sameG g) hp.few fun x hx => fits1_call x g (hp.names x hx) hg
  rw [show g.c = [.int .i64 g.kind, .str g.text, nmV g.name] from rfl, show p.c = [gnsV p.names, .int .i64 p.reasons, .bool p.has, nmV p.issuer] from rfl]
  rw [show g.c = [.int .i64 g.kind, .str g.text, nmV g.name] from rfl] at h2
  unfold fitsG
  have hf := hp.few
  have hgv : gnsV p.names = .sl p.names.length (p.names.flatMap Gn.c) := rfl
  rw [hgv] at h2 ⊢
  refine pcall_body Tryd.func29 rfl Tryd.call29 ?_ ?_
  rotate_left 1
  refine awp_slots (s' := [(.agg [.int .i64 g.kind, .str g.text, nmV g.name] : V), (.agg [.sl p.names.length (p.names.flatMap Gn.c), .int .i64 p.reasons, .bool p.has, nmV p.issuer] : V), .junk, .junk, .junk, .junk, .junk, .junk, .junk, .junk, .junk, .junk, .junk, .junk, .junk, .junk, .junk, .junk, .junk, .junk, .junk, .junk]) rfl ?_
  generalize p.names.flatMap Gn.c = cells at *
  generalize hn : p.names.length = n at *
  by_cases h0 : n = 0
  · subst h0
    cases hh : p.has
    · rw [if_neg (by simp)]
      repeat' (first | ((first | refine Y0 rfl fun K9 h9 => ?_ | (refine Y3 ?_ ?_; (focus (simp [hh]; done)); intro K9 h9)); simp (disch := (first | (simp; done) | omega | (simp; omega))) [hh]; (try simp (disch := (first | omega | (simp; omega))) only [X7, X8, X9, Xa, Xb, Xc]); ((first | refine acall_view h2 ⟨.pure (by simp), view_fn ⟨view_ref rfl (by simp) (by simp), trivial⟩, trivial⟩ .bool ?_ | skip) <;> ((repeat (refine Yz ?_)); (first | refine h9 _ _ (Ys ?_)); clear h9 K9))) | refine Y6 ?_ | (refine Y8 fun K hK => ?_) | refine Y9 ?_ | (apply hK; clear hK K) | (refine Yb rfl (fun hcnd => ?_) (fun hcnd => ?_) <;> (try simp at hcnd) <;> (try contradiction) <;> (try (exfalso; omega))) | refine Yc ?_ | (refine Ye ?_; refine Yf ?_) | (refine Yh ?_ ?_; (focus (simp [hh]; done)); refine Ys ?_) | refine Yg ?_ | (simp only [X0, X1, X2, X3, X4, X5, X6, Nat.reduceBEq]) | (clear hK K; first | (apply hK; clear hK K) | (clear hK K; first | (apply hK; clear hK K) | (clear hK K; first | (apply hK; clear hK K) | (clear hK K; apply hK; clear hK K)))))
      exact .pure .bool
    · rw [if_pos ⟨rfl, rfl⟩]
      repeat' (first | ((first | refine Y0 rfl fun K9 h9 => ?_ | (refine Y3 ?_ ?_; (focus (simp [hh]; done)); intro K9 h9)); simp (disch := (first | (simp; done) | omega | (simp; omega))) [hh]; (try simp (disch := (first | omega | (simp; omega))) only [X7, X8, X9, Xa, Xb, Xc]); ((first | refine acall_pure (h1) (by simp) ?_ | skip) <;> ((repeat (refine Yz ?_)); (first | refine h9 _ _ (Ys ?_)); clear h9 K9))) | refine Y6 ?_ | (refine Y8 fun K hK => ?_) | refine Y9 ?_ | (apply hK; clear hK K) | (refine Yb rfl (fun hcnd => ?_) (fun hcnd => ?_) <;> (try simp at hcnd) <;> (try contradiction) <;> (try (exfalso; omega))) | refine Yc ?_ | (refine Ye ?_; refine Yf ?_) | (refine Yh ?_ ?_; (focus (simp [hh]; done)); refine Ys ?_) | refine Yg ?_ | (simp only [X0, X1, X2, X3, X4, X5, X6, Nat.reduceBEq]) | (clear hK K; first | (apply hK; clear hK K) | (clear hK K; first | (apply hK; clear hK K) | (clear hK K; first | (apply hK; clear hK K) | (clear hK K; apply hK; clear hK K)))))
      exact .pure .bool
  · rw [if_neg (fun h => h0 h.1)]
    have h0' : ¬ (n : Int) = 0 := by omega
    repeat' (first | ((first | refine Y0 rfl fun K9 h9 => ?_ | (refine Y3 ?_ ?_; (focus (simp [h0, h0']; done)); intro K9 h9)); simp (disch := (first | (simp; done) | omega | (simp; omega))) [h0, h0']; (try simp (disch := (first | omega | (simp; omega))) only [X7, X8, X9, Xa, Xb, Xc]); ((first | refine acall_view h2 ⟨.pure (by simp), view_fn ⟨view_ref rfl (by simp) (by simp), trivial⟩, trivial⟩ .bool ?_ | skip) <;> ((repeat (refine Yz ?_)); (first | refine h9 _ _ (Ys ?_)); clear h9 K9))) | refine Y6 ?_ | (refine Y8 fun K hK => ?_) | refine Y9 ?_ | (apply hK; clear hK K) | (refine Yb rfl (fun hcnd => ?_) (fun hcnd => ?_) <;> (try simp at hcnd) <;> (try contradiction) <;> (try (exfalso; omega))) | refine Yc ?_ | (refine Ye ?_; refine Yf ?_) | (refine Yh ?_ ?_; (focus (simp [h0, h0']; done)); refine Ys ?_) | refine Yg ?_ | (simp only [X0, X1, X2, X3, X4, X5, X6, Nat.reduceBEq]) | (clear hK K; first | (apply hK; clear hK K) | (clear hK K; first | (apply hK; clear hK K) | (clear hK K; first | (apply hK; clear hK K) | (clear hK K; apply hK; clear hK K)))))
    exact .pure .bool
  exact .bool

theorem covers1_call (g : Gn) (p : Pt) (hg : WGk g) (hp : WPk p) : PCall Tryd.prog 28 [.agg g.c, .rptr p.c] (.bool (fitsG p g)) := by
  have h := fits_call g p hg hp
  rw [show g.c = [.int .i64 g.kind, .str g.text, nmV g.name] from rfl, show p.c = [gnsV p.names, .int .i64 p.reasons, .bool p.has, nmV p.issuer] from rfl] at *
  refine pcall_body Tryd.func28 rfl Tryd.call28 ?_ ?_
  rotate_left 1
  refine awp_slots (s' := [(.agg [.int .i64 g.kind, .str g.text, nmV g.name] : V), (.rptr [gnsV p.names, .int .i64 p.reasons, .bool p.has, nmV p.issuer] : V), .junk, .junk, .junk, .junk, .junk]) rfl ?_
  repeat' (first | (refine Y0 rfl fun K9 h9 => ?_; simp (disch := (first | (simp; done) | omega | (simp; omega))); (try simp (disch := (first | omega | (simp; omega))) only [X7, X8, X9, Xa, Xb, Xc]); ((first | refine acall_pure (h) (by simp) ?_ | skip) <;> ((repeat (refine Yz ?_)); (first | refine h9 _ _ (Ys ?_)); clear h9 K9))) | refine Y6 ?_ | (refine Y8 fun K hK => ?_) | refine Y9 ?_ | (apply hK; clear hK K) | (refine Ye ?_; refine Yf ?_) | refine Yg ?_ | (simp only [X0, X1, X2, X3, X4, X5, X6, Nat.reduceBEq]) | (clear hK K; first | (apply hK; clear hK K) | (clear hK K; first | (apply hK; clear hK K) | (clear hK K; first | (apply hK; clear hK K) | (clear hK K; apply hK; clear hK K)))))
  · exact .pure .bool
  · exact .bool
end Go.Proofs.YtbdfghlkkdkpgaaDoor

