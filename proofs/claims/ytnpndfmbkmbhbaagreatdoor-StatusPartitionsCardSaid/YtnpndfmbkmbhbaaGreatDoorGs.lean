/-
 SCOPE: when two general names are the same (names of hosts and directories).
 Conditions: none.
-/
import Derived.Test.YtnpndfmbkmbhbaaGreatDoorGo
import Derived.Test.YtnpndfmbkmbhbaaGreatDoorGn
set_option maxRecDepth 100000
set_option maxHeartbeats 32000000
namespace Go.Stp
open Go.VS
def ofK (k : Int) : Int := if k = 1 then 0 else if k = 2 then 1 else if k = 4 then 2 else if k = 7 then 3 else 4
structure WGk (g : Gn) : Prop where
 kind : g.kind = 2 ∨ g.kind = 4
 text : g.text.length ≤ 65536
 name : WN g.name
def sameG (a b : Gn) : Bool := if a.kind = b.kind then (if a.kind = 2 then lowS a.text == lowS b.text else nameB a.name b.name) else false
end Go.Stp
namespace Go.Proofs.YtnpndfmbkmbhbaaGreatDoor
open Go.Proofs.Tryz
open Go.VS Go.Stp
set_option linter.all false
attribute [local irreducible] arun arunD arunU AWp aend
theorem gof_call (k : Int) : PCall prog 123 [.int .i64 k] (.int .i64 (ofK k)) := by
 refine pcall_body func123 rfl call123 ?_ ?_
 rotate_left 1
 refine awp_slots (s' := (.int .i64 k : V) :: zJ 11) rfl ?_; dsimp only [zJ]
 unfold ofK
 by_cases h1 : k = 1
 ·rw [if_pos h1]
  repeat' (first | (refine Zu ?_; intro K9 h9; simp (disch := first | exact dd | fail) [h1]; refine Zm ?_; refine Zf h9 ?_; clear h9 K9) | refine Zt ?_ | refine Y8 fun K hK => ?_ | (apply hK; clear hK K) | (refine Yb rfl ?_ ?_ <;> intro hcnd <;> (try simp at hcnd) <;> try exact dc) | refine Zx ?_ | clear hK K)
  exact .pure .int
 rw [if_neg h1]
 by_cases h2 : k = 2
 ·rw [if_pos h2]
  repeat' (first | (refine Zu ?_; intro K9 h9; simp (disch := first | exact dd | fail) [h1, h2]; refine Zm ?_; refine Zf h9 ?_; clear h9 K9) | refine Zt ?_ | refine Y8 fun K hK => ?_ | (apply hK; clear hK K) | (refine Yb rfl ?_ ?_ <;> intro hcnd <;> (try simp at hcnd) <;> try exact dc) | refine Zx ?_ | clear hK K)
  exact .pure .int
 rw [if_neg h2]
 by_cases h3 : k = 4
 ·rw [if_pos h3]
  repeat' (first | (refine Zu ?_; intro K9 h9; simp (disch := first | exact dd | fail) [h1, h2, h3]; refine Zm ?_; refine Zf h9 ?_; clear h9 K9) | refine Zt ?_ | refine Y8 fun K hK => ?_ | (apply hK; clear hK K) | (refine Yb rfl ?_ ?_ <;> intro hcnd <;> (try simp at hcnd) <;> try exact dc) | refine Zx ?_ | clear hK K)
  exact .pure .int
 rw [if_neg h3]
 by_cases h4 : k = 7
 ·rw [if_pos h4]
  repeat' (first | (refine Zu ?_; intro K9 h9; simp (disch := first | exact dd | fail) [h1, h2, h3, h4]; refine Zm ?_; refine Zf h9 ?_; clear h9 K9) | refine Zt ?_ | refine Y8 fun K hK => ?_ | (apply hK; clear hK K) | (refine Yb rfl ?_ ?_ <;> intro hcnd <;> (try simp at hcnd) <;> try exact dc) | refine Zx ?_ | clear hK K)
  exact .pure .int
 rw [if_neg h4]
 repeat' (first | (refine Zu ?_; intro K9 h9; simp (disch := first | exact dd | fail) [h1, h2, h3, h4]; refine Zm ?_; refine Zf h9 ?_; clear h9 K9) | refine Zt ?_ | refine Y8 fun K hK => ?_ | (apply hK; clear hK K) | (refine Yb rfl ?_ ?_ <;> intro hcnd <;> (try simp at hcnd) <;> try exact dc) | refine Zx ?_ | clear hK K)
 exact .pure .int
 exact .int

theorem gsmall_call (l : List UInt8) (hl : l.length ≤ 4294967280) : PCall prog 126 [.str l] (.str (lowS l)) := by
 refine pcall_body func126 rfl call126 ?_ ?_
 rotate_left 1
 refine awp_slots (s' := (.str l : V) :: zJ 29) rfl ?_; dsimp only [zJ]
 repeat' (first | refine Zr ?_ | refine Zt ?_ | refine Y8 fun K hK => ?_ | (apply hK; clear hK K) | (refine Yb rfl ?_ ?_ <;> intro hcnd <;> (try simp at hcnd) <;> try exact dc) | refine Zo ?_ | refine Zx ?_ | clear hK K)
 ·refine awp_countU (fun i => (some V.junk :: none :: some V.junk :: none :: zS 4 (zN 2 (some (V.int .i64 i) :: zS 19 [])))) (fun i => [.live ((lowT l i).map byteV)]) l.length ?_ fun i hi KL hL => ?_
  ·dsimp only [ups, zN, zS]
   exact Yr [some 0] (by simp [rowsOver, lowT_zero])
  dsimp only [ups, zN, zS]
  have hpl := lowT_length l i
  rcases Nat.lt_or_ge i l.length with hi | hi
  ·have hg := lowT_get l i hi
   have hs := lowT_succ l i hi
   have hc : (l[i]).toNat < 256 := UInt8.toNat_lt _
   obtain ⟨c, hcc⟩ : ∃ c, l[i] = c := ⟨_, rfl⟩
   rw [hcc] at hg hs hc
   obtain ⟨L2, hL2⟩ : ∃ L2, lowT l (i + 1) = L2 := ⟨_, rfl⟩
   rw [hL2] at hs
   by_cases a1 : (65 : Int) ≤ c.toNat <;> by_cases a2 : (c.toNat : Int) ≤ 90 <;> (try (exfalso; omega))
   ·have hu := lowF_up c ⟨by omega, by omega⟩
    have hw : (c.toNat : Int) + 97 - 65 = ((lowF c).toNat : Int) := by omega
    repeat' (first | ((first | refine Zu ?_ | (refine Zv ?_ ?_; (focus (simp [hpl, hg, a1, a2]; done)))); intro K9 h9; simp (disch := first | exact dd | fail) [hpl, hg, a1, a2]; refine Zm ?_; refine Zf h9 ?_; clear h9 K9) | refine Zt ?_ | refine Y8 fun K hK => ?_ | (apply hK; clear hK K) | (refine Yb rfl ?_ ?_ <;> intro hcnd <;> (try simp at hcnd) <;> try exact dc) | (refine Zn ?_ ?_; (focus (simp [hpl, hg, a1, a2]; done)); refine Zs ?_) | refine Zx ?_ | clear hK K)
    refine hL _ _ hi ?_
    have e : ((lowT l i).map byteV).set i (.int .u8 (lowF c).toNat) = L2.map byteV := by rw [hs, List.map_set]; rfl
    exact Le.mk [some 0] (by dsimp only [ups, zN, zS]; simp) (rowsRen_of (by simp) (by rw [hw, e, hL2]; simp [rowsOver])) (by simp)
   all_goals
    have hid := lowF_id c (by omega)
    repeat' (first | ((first | refine Zu ?_ | (refine Zv ?_ ?_; (focus (simp [hpl, hg, a1, a2]; done)))); intro K9 h9; simp (disch := first | exact dd | fail) [hpl, hg, a1, a2]; refine Zm ?_; refine Zf h9 ?_; clear h9 K9) | refine Zt ?_ | refine Y8 fun K hK => ?_ | (apply hK; clear hK K) | (refine Yb rfl ?_ ?_ <;> intro hcnd <;> (try simp at hcnd) <;> try exact dc) | (refine Zn ?_ ?_; (focus (simp [hpl, hg, a1, a2]; done)); refine Zs ?_) | refine Zx ?_ | clear hK K)
    refine hL _ _ hi ?_
    rw [hid, bset_self (lowT l i) i c (by omega) hg] at hs
    rw [hL2, hs]
    exact Yr [some 0] (by simp [rowsOver])
  ·obtain rfl : i = l.length := by omega
   rw [lowT_full]
   have hB := bytes_full (l := lowS l) (n := l.length) (by simp)
   have hB2 : List.take l.length (lowS l) = lowS l := List.take_of_length_le (by simp)
   repeat' (first | ((first | refine Zu ?_ | (refine Zv ?_ ?_; (focus (simp [hB, hB2]; done)))); intro K9 h9; simp (disch := first | exact dd | fail) [hB, hB2]; refine Zm ?_; refine Zf h9 ?_; clear h9 K9) | refine Zt ?_ | refine Y8 fun K hK => ?_ | (apply hK; clear hK K) | (refine Yb rfl ?_ ?_ <;> intro hcnd <;> (try simp at hcnd) <;> try exact dc) | (refine Zn ?_ ?_; (focus (simp [hB, hB2]; done)); refine Zs ?_) | refine Zx ?_ | clear hK K)
   exact .pure .str
 ·exact .str

theorem gsame_call (a b : Gn) (ha : WGk a) (hb : WGk b) : PCall prog 77 [.agg a.c, .agg b.c] (.bool (sameG a b)) := by
 have hm := dmatch_call a.name b.name ha.name hb.name
 have ht := ha.text
 have ht2 := hb.text
 have hk := ha.kind
 rw [show a.c = [.int .i64 a.kind, .str a.text, nmV a.name] from rfl, show b.c = [.int .i64 b.kind, .str b.text, nmV b.name] from rfl]
 refine pcall_body func77 rfl call77 ?_ ?_
 rotate_left 1
 refine awp_slots (s' := (.agg [.int .i64 a.kind, .str a.text, nmV a.name] : V) :: (.agg [.int .i64 b.kind, .str b.text, nmV b.name] : V) :: zJ 56) rfl ?_; dsimp only [zJ]
 unfold sameG
 by_cases h0 : a.kind = b.kind
 ·rw [if_pos h0]
  rcases hk with hk | hk
  ·have hk2 : b.kind = 2 := by omega
   rw [if_pos hk]
   have e : ofK 2 = 1 := rfl
   repeat' (first | ((first | refine Zu ?_ | (refine Zv ?_ ?_; (focus (simp [hk, hk2, e]; done)))); intro K9 h9; simp (disch := first | exact dd | fail) [hk, hk2, e]; refine Zm ?_; ((first | refine Ap (gof_call _) ?_ | refine Ap (gsmall_call _ (by omega)) ?_ | refine ⟨_, gsmall_call _ (by omega), ?_⟩ | skip) <;> (refine Zf h9 ?_; clear h9 K9))) | refine Zt ?_ | refine Y8 fun K hK => ?_ | (apply hK; clear hK K) | ((first | refine Zk 0 [0, 0, 1, 0, 0, 1, 0, 0] ?_ | refine Zk 0 [] ?_); refine Zl ?_) | (refine Yb rfl ?_ ?_ <;> intro hcnd <;> (try simp at hcnd) <;> try exact dc) | (refine Zn ?_ ?_; (focus (simp [hk, hk2, e]; done)); refine Zs ?_) | refine Zx ?_ | clear hK K)
   simp
   exact .pure .bool
  ·have hk2 : b.kind = 4 := by omega
   rw [if_neg (by omega)]
   have e : ofK 4 = 2 := rfl
   repeat' (first | ((first | refine Zu ?_ | (refine Zv ?_ ?_; (focus (simp [hk, hk2, e]; done)))); intro K9 h9; simp (disch := first | exact dd | fail) [hk, hk2, e]; refine Zm ?_; ((first | refine Ap (gof_call _) ?_ | refine Ap hm ?_ | skip) <;> (refine Zf h9 ?_; clear h9 K9))) | refine Zt ?_ | refine Y8 fun K hK => ?_ | (apply hK; clear hK K) | (refine Zk 0 [] ?_; refine Zl ?_) | (refine Yb rfl ?_ ?_ <;> intro hcnd <;> (try simp at hcnd) <;> try exact dc) | (refine Zn ?_ ?_; (focus (simp [hk, hk2, e]; done)); refine Zs ?_) | refine Zx ?_ | clear hK K)
   exact .pure .bool
 ·rw [if_neg h0]
  repeat' (first | ((first | refine Zu ?_ | (refine Zv ?_ ?_; (focus (simp [h0]; done)))); intro K9 h9; simp (disch := first | exact dd | fail) [h0]; refine Zm ?_; refine Zf h9 ?_; clear h9 K9) | refine Zt ?_ | refine Y8 fun K hK => ?_ | (apply hK; clear hK K) | (refine Zk 0 [] ?_; refine Zl ?_) | (refine Yb rfl ?_ ?_ <;> intro hcnd <;> (try simp at hcnd) <;> try exact dc) | (refine Zn ?_ ?_; (focus (simp [h0]; done)); refine Zs ?_) | refine Zx ?_ | clear hK K)
  exact .pure .bool
 exact .bool

end Go.Proofs.YtnpndfmbkmbhbaaGreatDoor
namespace Go.Stp
open Go.VS
def allM (m : Int) : Int := if m = 0 then 510 else m
structure WPk (p : Pt) : Prop where
 names : ∀ x ∈ p.names, WGk x
 few : p.names.length ≤ 65536
 issuer : WN p.issuer
def dirG (n : Nm) : Gn := ⟨4, [], n⟩
def fitsG (p : Pt) (g : Gn) : Bool := if p.names.length = 0 ∧ p.has = true then sameG g (dirG p.issuer) else p.names.any (sameG g)
theorem view_fn {rows : List Row} {f : Fn} {c d : List V} (h : Views rows c d) : View rows (.fn f c) (.fn f d) := .fn h.get.1 h.get.2
theorem dir_wgk {n : Nm} (h : WN n) : WGk (dirG n) := ⟨.inr rfl, by simp [dirG], h⟩
end Go.Stp
namespace Go.Proofs.YtnpndfmbkmbhbaaGreatDoor
open Go.Proofs.Tryz
open Go.VS Go.Stp
set_option linter.all false
attribute [local irreducible] arun arunD arunU AWp aend bits
theorem all_call (m : Int) : PCall prog 67 [.int .i64 m] (.int .i64 (allM m)) := by
 refine pcall_body func67 rfl call67 ?_ ?_
 rotate_left 1
 refine awp_slots (s' := (.int .i64 m : V) :: zJ 5) rfl ?_; dsimp only [zJ]
 unfold allM
 by_cases h : m = 0
 ·rw [if_pos h]
  repeat' (first | (refine Zu ?_; intro K9 h9; simp (disch := first | exact dd | fail) [h]; refine Zm ?_; refine Zf h9 ?_; clear h9 K9) | refine Zt ?_ | refine Y8 fun K hK => ?_ | (apply hK; clear hK K) | (refine Yb rfl ?_ ?_ <;> intro hcnd <;> (try simp at hcnd) <;> try exact dc) | refine Zx ?_ | clear hK K)
  exact .pure .int
 ·rw [if_neg h]
  repeat' (first | (refine Zu ?_; intro K9 h9; simp (disch := first | exact dd | fail) [h]; refine Zm ?_; refine Zf h9 ?_; clear h9 K9) | refine Zt ?_ | refine Y8 fun K hK => ?_ | (apply hK; clear hK K) | (refine Yb rfl ?_ ?_ <;> intro hcnd <;> (try simp at hcnd) <;> try exact dc) | refine Zx ?_ | clear hK K)
  exact .pure .int
 exact .int

theorem gindex_call (l : List Gn) (f : FuncId) (cs : List V) (B : Gn → Bool) (hl : l.length ≤ 65536) (hc : ∀ x ∈ l, PCall prog f [.agg x.c, .rptr cs] (.bool (B x))) : PCall prog 118 [gnsV l, .fn (.func f) [.rptr cs]] (.int .i64 (findI B l)) := by
 unfold gnsV
 have hll : (l.flatMap Gn.c).length = l.length * 3 := gns_len l
 have hcells := gens_at l
 refine pcall_body func118 rfl call118 ?_ ?_
 rotate_left 1
 refine awp_slots (s' := (.sl l.length (l.flatMap Gn.c) : V) :: (.fn (.func f) [.rptr cs] : V) :: zJ 17) rfl ?_; dsimp only [zJ]
 generalize l.flatMap Gn.c = cells at *
 repeat' (first | refine Zq ?_ | refine Zt ?_ | refine Y8 fun K hK => ?_ | (apply hK; clear hK K) | (refine Yb rfl ?_ ?_ <;> intro hcnd <;> (try simp at hcnd) <;> try exact dc) | refine Zx ?_ | clear hK K)
 ·refine awp_loopU (α := Nat) (fun i => (zN 4 (zS 3 (none :: some (V.int .i64 i) :: zS 10 [])))) (fun i => []) (fun i => i ≤ l.length ∧ ∀ j (h : j < l.length), j < i → B l[j] = false) (fun i => l.length - i) 0 ⟨by omega, fun j _ h => by omega⟩ ?_ ?_
  ·dsimp only [ups, zN, zS]
   exact Yr [] (by simp [rowsOver])
  rintro i ⟨hi, hall⟩ KL hL
  dsimp only [ups, zN, zS]
  rcases Nat.lt_or_ge i l.length with hi | hi
  ·have hstep : B l[i] = false → i + 1 ≤ l.length ∧ ∀ j (h : j < l.length), j < i + 1 → B l[j] = false := fun hx => ⟨by omega, fun j hj h => by
    rcases Nat.lt_or_ge j i with h3 | h3
    ·exact hall j hj h3
    ·obtain rfl : j = i := by omega
     exact hx⟩
   have hfound : B l[i] = true → findI B l = i := fun h => findI_some hi h hall
   have hg := hcells i hi
   have hc := hc l[i] (List.getElem_mem hi)
   obtain ⟨x, hxx⟩ : ∃ x, l[i] = x := ⟨_, rfl⟩
   rw [hxx] at hstep hfound hg hc
   rw [show x.c = [.int .i64 x.kind, .str x.text, nmV x.name] from rfl] at hg hc
   cases h1 : B x
   ·rw [h1] at hc
    repeat' (first | (refine Zu ?_; intro K9 h9; simp (disch := first | exact dd | fail) [hg]; refine Zm ?_; ((first | refine Ap hc ?_ | skip) <;> (refine Zf h9 ?_; clear h9 K9))) | refine Zt ?_ | refine Y8 fun K hK => ?_ | (apply hK; clear hK K) | (refine Yb rfl ?_ ?_ <;> intro hcnd <;> (try simp at hcnd) <;> try exact dc) | refine Zx ?_ | clear hK K)
    refine hL (i + 1) _ _ (hstep h1) (by omega) ?_
    exact Yr [] (by simp [rowsOver])
   ·rw [h1] at hc
    repeat' (first | (refine Zu ?_; intro K9 h9; simp (disch := first | exact dd | fail) [hg]; refine Zm ?_; ((first | refine Ap hc ?_ | skip) <;> (refine Zf h9 ?_; clear h9 K9))) | refine Zt ?_ | refine Y8 fun K hK => ?_ | (apply hK; clear hK K) | (refine Yb rfl ?_ ?_ <;> intro hcnd <;> (try simp at hcnd) <;> try exact dc) | refine Zx ?_ | clear hK K)
    rw [hfound h1]
    exact .pure .int
  ·repeat' (first | refine Zq ?_ | refine Zt ?_ | refine Y8 fun K hK => ?_ | (apply hK; clear hK K) | (refine Yb rfl ?_ ?_ <;> intro hcnd <;> (try simp at hcnd) <;> try exact dc) | refine Zx ?_ | clear hK K)
   rw [findI_none fun j hj => hall j hj (by omega)]
   exact .pure .int
 ·exact .int

theorem gcontains_call (l : List Gn) (f : FuncId) (cs : List V) (B : Gn → Bool) (hl : l.length ≤ 65536) (hc : ∀ x ∈ l, PCall prog f [.agg x.c, .rptr cs] (.bool (B x))) : PCall prog 68 [gnsV l, .fn (.func f) [.rptr cs]] (.bool (l.any B)) := by
 have hi := gindex_call l f cs B hl hc
 have hg := findI_ge B l
 rw [← hg]
 unfold gnsV at *
 generalize findI B l = r at *
 refine pcall_body func68 rfl call68 ?_ ?_
 rotate_left 1
 refine awp_slots (s' := (.sl l.length (l.flatMap Gn.c) : V) :: (.fn (.func f) [.rptr cs] : V) :: zJ 7) rfl ?_; dsimp only [zJ]
 repeat' (first | (refine Zu ?_; intro K9 h9; refine Zd ?_; ((first | refine Ap hi ?_ | skip) <;> (refine Zf h9 ?_; clear h9 K9))) | refine Zt ?_ | refine Y8 fun K hK => ?_ | (apply hK; clear hK K) | refine Zx ?_ | clear hK K)
 ·exact .pure .bool
 ·exact .bool

theorem fits1_call (n g : Gn) (hn : WGk n) (hg : WGk g) : PCall prog 119 [.agg n.c, .rptr g.c] (.bool (sameG g n)) := by
 have h := gsame_call g n hg hn
 rw [show g.c = [.int .i64 g.kind, .str g.text, nmV g.name] from rfl, show n.c = [.int .i64 n.kind, .str n.text, nmV n.name] from rfl] at *
 refine pcall_body func119 rfl call119 ?_ ?_
 rotate_left 1
 refine awp_slots (s' := (.agg [.int .i64 n.kind, .str n.text, nmV n.name] : V) :: (.rptr [.int .i64 g.kind, .str g.text, nmV g.name] : V) :: zJ 5) rfl ?_; dsimp only [zJ]
 repeat' (first | (refine Zu ?_; intro K9 h9; refine Zd ?_; ((first | refine Ap h ?_ | skip) <;> (refine Zf h9 ?_; clear h9 K9))) | refine Zt ?_ | refine Y8 fun K hK => ?_ | (apply hK; clear hK K) | refine Zx ?_ | clear hK K)
 ·exact .pure .bool
 ·exact .bool

theorem fits_call (g : Gn) (p : Pt) (hg : WGk g) (hp : WPk p) : PCall prog 70 [.agg g.c, .agg p.c] (.bool (fitsG p g)) := by
 have h1 : PCall prog 77 [.agg [.int .i64 g.kind, .str g.text, nmV g.name], .agg [.int .i64 4, .str [], nmV p.issuer]] (.bool (sameG g (dirG p.issuer))) := gsame_call g (dirG p.issuer) hg (dir_wgk hp.issuer)
 have h2 := gcontains_call p.names 119 g.c (sameG g) hp.few fun x hx => fits1_call x g (hp.names x hx) hg
 rw [show g.c = [.int .i64 g.kind, .str g.text, nmV g.name] from rfl, show p.c = [gnsV p.names, .int .i64 p.reasons, .bool p.has, nmV p.issuer] from rfl]
 rw [show g.c = [.int .i64 g.kind, .str g.text, nmV g.name] from rfl] at h2
 unfold fitsG
 have hf := hp.few
 have hgv : gnsV p.names = .sl p.names.length (p.names.flatMap Gn.c) := rfl
 rw [hgv] at h2 ⊢
 refine pcall_body func70 rfl call70 ?_ ?_
 rotate_left 1
 refine awp_slots (s' := (.agg [.int .i64 g.kind, .str g.text, nmV g.name] : V) :: (.agg [.sl p.names.length (p.names.flatMap Gn.c), .int .i64 p.reasons, .bool p.has, nmV p.issuer] : V) :: zJ 20) rfl ?_; dsimp only [zJ]
 generalize p.names.flatMap Gn.c = cells at *
 generalize hn : p.names.length = n at *
 by_cases h0 : n = 0
 ·subst h0
  cases hh : p.has
  ·rw [if_neg (by simp)]
   repeat' (first | ((first | refine Zu ?_ | (refine Zv ?_ ?_; (focus (simp [hh]; done)))); intro K9 h9; simp (disch := first | exact dd | fail) [hh]; refine Zm ?_; ((first | refine acall_view h2 ⟨.pure (by simp), view_fn ⟨view_ref rfl (by simp) (by simp), trivial⟩, trivial⟩ .bool ?_ | skip) <;> (refine Zf h9 ?_; clear h9 K9))) | refine Zt ?_ | refine Y8 fun K hK => ?_ | (apply hK; clear hK K) | (refine Yb rfl ?_ ?_ <;> intro hcnd <;> (try simp at hcnd) <;> try exact dc) | (refine Zn ?_ ?_; (focus (simp [hh]; done)); refine Zs ?_) | refine Zx ?_ | clear hK K)
   exact .pure .bool
  ·rw [if_pos ⟨rfl, rfl⟩]
   repeat' (first | ((first | refine Zu ?_ | (refine Zv ?_ ?_; (focus (simp [hh]; done)))); intro K9 h9; simp (disch := first | exact dd | fail) [hh]; refine Zm ?_; ((first | refine Ap h1 ?_ | skip) <;> (refine Zf h9 ?_; clear h9 K9))) | refine Zt ?_ | refine Y8 fun K hK => ?_ | (apply hK; clear hK K) | (refine Yb rfl ?_ ?_ <;> intro hcnd <;> (try simp at hcnd) <;> try exact dc) | (refine Zn ?_ ?_; (focus (simp [hh]; done)); refine Zs ?_) | refine Zx ?_ | clear hK K)
   exact .pure .bool
 ·rw [if_neg (fun h => h0 h.1)]
  have h0' : ¬ (n : Int) = 0 := by omega
  repeat' (first | ((first | refine Zu ?_ | (refine Zv ?_ ?_; (focus (simp [h0, h0']; done)))); intro K9 h9; simp (disch := first | exact dd | fail) [h0, h0']; refine Zm ?_; ((first | refine acall_view h2 ⟨.pure (by simp), view_fn ⟨view_ref rfl (by simp) (by simp), trivial⟩, trivial⟩ .bool ?_ | skip) <;> (refine Zf h9 ?_; clear h9 K9))) | refine Zt ?_ | refine Y8 fun K hK => ?_ | (apply hK; clear hK K) | (refine Yb rfl ?_ ?_ <;> intro hcnd <;> (try simp at hcnd) <;> try exact dc) | (refine Zn ?_ ?_; (focus (simp [h0, h0']; done)); refine Zs ?_) | refine Zx ?_ | clear hK K)
  exact .pure .bool
 exact .bool

theorem covers1_call (g : Gn) (p : Pt) (hg : WGk g) (hp : WPk p) : PCall prog 69 [.agg g.c, .rptr p.c] (.bool (fitsG p g)) := by
 have h := fits_call g p hg hp
 rw [show g.c = [.int .i64 g.kind, .str g.text, nmV g.name] from rfl, show p.c = [gnsV p.names, .int .i64 p.reasons, .bool p.has, nmV p.issuer] from rfl] at *
 refine pcall_body func69 rfl call69 ?_ ?_
 rotate_left 1
 refine awp_slots (s' := (.agg [.int .i64 g.kind, .str g.text, nmV g.name] : V) :: (.rptr [gnsV p.names, .int .i64 p.reasons, .bool p.has, nmV p.issuer] : V) :: zJ 5) rfl ?_; dsimp only [zJ]
 repeat' (first | (refine Zu ?_; intro K9 h9; refine Zd ?_; ((first | refine Ap h ?_ | skip) <;> (refine Zf h9 ?_; clear h9 K9))) | refine Zt ?_ | refine Y8 fun K hK => ?_ | (apply hK; clear hK K) | refine Zx ?_ | clear hK K)
 ·exact .pure .bool
 ·exact .bool
end Go.Proofs.YtnpndfmbkmbhbaaGreatDoor
