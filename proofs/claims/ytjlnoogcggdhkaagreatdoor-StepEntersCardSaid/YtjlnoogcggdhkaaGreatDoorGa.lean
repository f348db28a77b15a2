/-
 VALUE SEMANTICS, 1: abstract values and what it means that a value of the model reads as one.
 Conditions: none.
-/
import Derived.Calls
import Derived.Orders
import Derived.WalkKit
import Derived.OrdersIn
import Derived.LoopNIn
import Derived.RangeFuncLeaves
import Derived.RangeFuncRecord
import Derived.OwnWalkIn
set_option linter.all false
def apN:=@List.getElem?_eq_some_iff
def apO:=@Option.some.inj
def apP:=@Bool.and_eq_true
def apQ:=@Nat.lt_or_ge
def apR:=@List.take_of_length_le
def apS:=@List.length_cons
def apT:=@List.length_take
def apU:=@List.length_drop
def apV:=@List.length_tail
def apW:=@List.eq_nil_of_length_eq_zero
def apX:=@Prod.mk.injEq
def apY:=@List.getElem_mem
def apZ:=@List.getElem?_map
def ap0:=@Option.map_eq_some_iff
def ap1:=@List.all_eq_true
def ap2:=@List.getD_eq_getElem?_getD
def ap3:=@List.append_assoc
def ap4:=@Array.getElem?_eq_some_iff
def ap5:=@List.getElem?_eq_getElem
def ap6:=@List.getElem?_set_ne
def ap7:=@List.getElem?_append_left
def ap8:=@List.mem_cons
def ap9:=@Nat.eq_of_beq_eq_true
def aqa:=@List.length_append
def aqb:=@List.getElem?_drop
def aqc:=@List.getElem?_take
def aqd:=@List.mem_map
def aqe:=@Bool.or_eq_true
def aqf:=@Nat.le_refl
def aqg:=@List.mem_of_getElem?
def aqh:=@List.length_nil
def aqi:=@Nat.beq_eq
def aqj:=@List.length_pos_iff
def aqk:=@UInt8.toNat_lt
def aql:=@List.getElem?_eq_none
def aqm:=@List.mem_iff_getElem?
def aqn:=@List.mem_singleton
def aqo:=@Bool.false_eq_true
def aqp:=@List.append_nil
def aqq:=@List.getElem?_append
def aqr:=@List.mem_append
def aqs:=@Array.getElem?_eq_getElem
def aqt:=@List.map_cons
def aqu:=@Array.getD_eq_getD_getElem?
def aqv:=@List.mem_range
def aqw:=@List.mem_append_left
def aqx:=@Nat.le_of_lt
def aqy:=@Option.some.injEq
def aqz:=@List.length_map
def aqA:=@List.take_succ_eq_append_getElem
def aqB:=@List.getElem?_set
def aqC:=@Bool.not_eq_true'
def aqD:=@Nat.le_trans
def aqE:=@List.take_append_drop
def aqF:=@List.mem_cons_of_mem
def aqG:=@Int.mul_le_mul_of_nonneg_left
def aqH:=@Int.eq_ofNat_of_zero_le
def aqI:=@Nat.mul_le_mul_right
def aqJ:=@Nat.lt_of_lt_of_le
def aqK:=@List.getElem?_range
def aqL:=@List.getElem?_append_right
def aqM:=@List.getElem?_cons_succ
def aqN:=@List.flatten_cons
def aqO:=@List.pairwise_append
def aqP:=@Bool.eq_iff_iff
def aqQ:=@Option.isSome_iff_exists
def aqR:=@List.getElem_of_mem
def aqS:=@Int.natCast_nonneg
def aqT:=@List.mem_cons_self
def aqU:=@Option.map_some
def aqV:=@List.range_succ
def aqW:=@List.mem_filter
def aqX:=@List.filter_append
def aqY:=@List.getElem?_cons_zero
def aqZ:=@List.eq_nil_iff_forall_not_mem
def aq0:=@List.mem_append_right
def aq1:=@Nat.mod_eq_of_lt
def aq2:=@List.map_nil
def aq3:=@List.drop_drop
def aq4:=@Int.toNat_natCast
def aq5:=@List.getElem?_set_self
def aq6:=@Nat.zero_add
def aq7:=@Prod.mk.inj
def aq8:=@Nat.add_assoc
def aq9:=@Bool.true_and
def ara:=@List.length_singleton
def arb:=@Nat.add_mul
def arc:=@Nat.mod_lt
def ard:=@UInt8.toNat_inj
def are:=@List.take_append_of_le_length
def arf:=@List.drop_append_of_le_length
def arh:=@List.getElem?_replicate
def ari:=@List.take_length
def arj:=@Option.getD_some
def ark:=@List.pairwise_cons
def arl:=@List.set_append_right
def arn:=@List.map_append
def aro:=@List.set_comm
def arp:=@List.getElem_take
def arq:=@List.drop_eq_getElem_cons
def ars:=@Int.ofNat_eq_natCast
def art:=@Nat.succ_mul
def aru:=@Nat.mul_comm
def arv:=@Int.tmod_lt_of_pos
def arw:=@List.find?_cons
def arx:=@Nat.lt_of_le_of_lt
def ary:=@Array.ext'
def arz:=@List.all_eq_false
def arA:=@List.ext_getElem?
def arB:=@List.map_set
def arC:=@Array.getElem?_modify
def arD:=@List.mem_of_mem_take
def arE:=@List.mem_of_mem_drop
def arF:=@List.mem_iff_getElem
def arG:=@Bool.false_or
def arH:=@List.getD_cons_zero
def arI:=@List.map_congr_left
def arJ:=@List.takeWhile_cons
def arK:=@List.Sublist.append
def arL:=@Int.toNat_of_nonneg
def arM:=@Nat.min_eq_left
def arN:=@List.foldl_cons
def arO:=@List.length_set
def arP:=@Nat.div_le_self
def arQ:=@Nat.mod_eq_sub_mod
def arR:=@List.nodup_nil
def arS:=@Nat.ble_eq
def arT:=@List.Sublist.refl
def arU:=@List.mem_range'_1
def arV:=@List.flatMap_cons
def arW:=@Nat.zero_le
def arX:=@List.map_take
def arY:=@List.map_drop
def arZ:=@List.drop_append
def ar0:=@List.filter_cons
def ar1:=@Nat.le_of_not_lt
def ar2:=@Array.toList_map
def ar3:=@Int.tmod_nonneg
def ar4:=@Nat.pow_succ
def ar5:=@Nat.mul_add_mod
namespace Go.VS
inductive V where
 |bool (b:Bool)
 |int (k:IntKind) (n:Int)
 |str (s:List UInt8)
 |bR
 |ref (id off:Nat)
 |aL (cells:List V)
 |aj
 |sl (n:Nat) (cells:List V)
 |av (id off n sz:Nat)
 |fn (f:Fn) (cap:List V)
 |aq
 |kt (ps:Array Tmp) (assign body:Code) (cap:List V)
 |cL
 |iface (t:TypeId) (v:V)
 |agg (cells:List V)
 |aB (vs:List V)
 |val (v:Value)
 |aa
 deriving Inhabited
structure tO where
 b:Nat
 o:Nat
 m:Nat
inductive Pl where
 |bu
 |dead
 |mU
 |on (x:tO)
abbrev bP:=List Pl
inductive Rd (w : World) (ro : Nat → Prop) : bP → Value → V → Prop
 |bool {ρ b}:Rd w ro ρ (.bool b) (.bool b)
 |int {ρ k n}:Rd w ro ρ (.int k n) (.int k n)
 |str {ρ s}:Rd w ro ρ (.string ⟨s.toArray⟩) (.str s)
 |bR {ρ}:Rd w ro ρ (.pointer none) .bR
 |ref {ρ id off a y}:ρ[id]?=some y→y≠.bu→y≠.mU→(∀x,y=.on x→a=⟨x.b,x.o+off,none⟩)→Rd w ro ρ (.pointer (some a)) (.ref id off)
 |aL {ρ} {a:Addr} {us:List Value} {cells}:a.spot=none→ro a.block→us.length=cells.length→(∀i u,us[i]?=some u→w.cell? ⟨a.block,a.off+i,none⟩=some u)→
   (∀(i:Nat) u x,us[i]?=some u→cells[i]?=some x→Rd w ro [] u x)→Rd w ro ρ (.pointer (some a)) (.aL cells)
 |aj {ρ}:Rd w ro ρ (.slice none 0 0) .aj
 |lB {ρ}:Rd w ro ρ (.slice none 0 0) (.sl 0 [])
 |oO {ρ} {a:Addr} {cap:Nat}:Rd w ro ρ (.slice (some a) 0 cap) (.sl 0 [])
 |sl {ρ} {a:Addr} {n cap:Nat} {us:List Value} {cells}:a.spot=none→ro a.block→n≤cap→us.length=cells.length→(∀i u,us[i]?=some u→w.cell? ⟨a.block,a.off+i,none⟩=some u)→
   (∀(i:Nat) u x,us[i]?=some u→cells[i]?=some x→Rd w ro [] u x)→Rd w ro ρ (.slice (some a) n cap) (.sl n cells)
 |iw {ρ id off sz y}:ρ[id]?=some y→y≠.bu→(∀x,y≠.on x)→Rd w ro ρ (.slice none 0 0) (.av id off 0 sz)
 |av {ρ id off n sz} {a:Addr} {cap y}:ρ[id]?=some y→y≠.bu→y≠.mU→n≤cap→
   (∀x,y=.on x→a.block=x.b∧a.spot=none∧(cap=0∨a.off=x.o+off)∧n≤cap∧a.off+cap*sz≤x.m)→Rd w ro ρ (.slice (some a) n cap) (.av id off n sz)
 |fn {ρ f} {fs us:Array Value} {cap}:fs=#[]→us.size=cap.length→(∀(i:Nat) u x,us[i]?=some u→cap[i]?=some x→Rd w ro ρ u x)→Rd w ro ρ (.func f fs us) (.fn f cap)
 |aq {ρ}:Rd w ro ρ .nilFunc .aq
 |kt {ρ l} {r:Loop} {cap} {k id off:Nat}:ro l→w.heap[l]?=some (.loop r)→r.state=.ready→r.pending=none→cap[k]?=some (.ref id off)→r.tmps.size=cap.length→
   (∀(i:Nat) u x,r.tmps[i]?=some u→cap[i]?=some x→Rd w ro ρ u x)→Rd w ro ρ (.func (.yield l) #[] #[]) (.kt r.params r.assign r.body cap)
 |cL {ρ}:Rd w ro ρ .nilIface .cL
 |iface {ρ t u x}:Rd w ro ρ u x→Rd w ro ρ (.iface t u) (.iface t x)
 |agg {ρ} {us:Array Value} {cells}:us.size=cells.length→(∀(i:Nat) u x,us[i]?=some u→cells[i]?=some x→Rd w ro ρ u x)→Rd w ro ρ (.agg us) (.agg cells)
 |aB {ρ} {us:Array Value} {cells}:us.size=cells.length→(∀(i:Nat) u x,us[i]?=some u→cells[i]?=some x→Rd w ro ρ u x)→Rd w ro ρ (.tuple us) (.aB cells)
 |val {ρ u}:Rd w ro ρ u (.val u)
 |aa {ρ u}:Rd w ro ρ u .aa
def bh(w:World)(ro:Nat→Prop)(ρ:bP)(us:List Value)(xs:List V):Prop:=
 us.length=xs.length∧ ∀(i:Nat) u x,us[i]?=some u→xs[i]?=some x→Rd w ro ρ u x
structure Ext (w : World) (ro : Nat → Prop) (ρ : bP) (w' : World) (aY : Nat → Prop) (ρ' : bP) : Prop where
 fg: ∀b,ro b→aY b
 heap: ∀b,ro b→w'.heap[b]?=w.heap[b]?
 own: ∀(id:Nat) y,ρ[id]?=some y→y≠.bu→ ∃y',ρ'[id]?=some y'∧(y'=.dead∨y'=y)
theorem Ext.refl(w:World)(ro:Nat→Prop)(ρ:bP):Ext w ro ρ w ro ρ:=
 ⟨fun _ h=>h,fun _ _=>rfl,fun _ y h _=>⟨y,h,.inr rfl⟩⟩
theorem Ext.trans{w w' lV:World}{ro aY aaG:Nat→Prop}{ρ ρ' ρ'':bP}(h:Ext w ro ρ w' aY ρ')(k:Ext w' aY ρ' lV aaG ρ''):
  Ext w ro ρ lV aaG ρ'':=
 ⟨fun b hb=>k.fg b (h.fg b hb),fun b hb=>(k.heap b (h.fg b hb)).trans (h.heap b hb),fun id y hy hn=>by
  obtain⟨y',pB,hc⟩:=h.own id y hy hn
  obtain⟨y'',af3,c8⟩:=k.own id y' pB (by rcases hc with rfl|rfl<;>first|exact hn|exact(fun h=>by cases h))
  refine⟨y'',af3,?_⟩
  rcases hc with rfl|rfl
  ·rcases c8 with rfl|rfl<;>exact .inl rfl
  ·exact c8⟩
theorem Ext.nil{w w':World}{ro aY:Nat→Prop}{ρ ρ':bP}(h:Ext w ro ρ w' aY ρ'):Ext w ro [] w' aY []:=
 ⟨h.fg,h.heap,fun id y hy _=>by simp at hy⟩
theorem zW{w w':World}{b o:Nat}(h:w'.heap[b]?=w.heap[b]?):w'.cell? ⟨b,o,none⟩=w.cell? ⟨b,o,none⟩:=by
 simp[World.cell?,h]
theorem Rd.ext{w w':World}{ro aY:Nat→Prop}{ρ:bP}{u:Value}{x:V}(h:Rd w ro ρ u x):
  ∀{ρ':bP},Ext w ro ρ w' aY ρ'→Rd w' aY ρ' u x:=by
 induction h with
 |bool=>exact fun _=>.bool
 |int=>exact fun _=>.int
 |str=>exact fun _=>.str
 |bR=>exact fun _=>.bR
 |ref h1 hn hv h2=>
  intro ρ' e
  obtain⟨y',pB,hc⟩:=e.own _ _ h1 hn
  rcases hc with rfl|rfl
  ·exact .ref pB (fun h=>by cases h) (fun h=>by cases h) (fun x hx=>by cases hx)
  ·exact .ref pB hn hv h2
 |aL h1 h2 h3 h4 _ ih=>
  intro ρ' e
  exact .aL h1 (e.fg _ h2) h3 (fun i u hu=>(zW (e.heap _ h2)).trans (h4 i u hu)) fun i u x hu hx=>ih i u x hu hx e.nil
 |aj=>exact fun _=>.aj
 |sl h1 h2 h3 h4 h5 _ ih=>
  intro ρ' e
  exact .sl h1 (e.fg _ h2) h3 h4 (fun i u hu=>(zW (e.heap _ h2)).trans (h5 i u hu)) fun i u x hu hx=>ih i u x hu hx e.nil
 |lB=>exact fun _=>.lB
 |oO=>exact fun _=>.oO
 |iw h1 hn h2=>
  intro ρ' e
  obtain⟨y',pB,hc⟩:=e.own _ _ h1 hn
  rcases hc with rfl|rfl
  ·exact .iw pB (fun h=>by cases h) (fun x hx=>by cases hx)
  ·exact .iw pB hn h2
 |av h1 hn hv hle h2=>
  intro ρ' e
  obtain⟨y',pB,hc⟩:=e.own _ _ h1 hn
  rcases hc with rfl|rfl
  ·exact .av pB (fun h=>by cases h) (fun h=>by cases h) hle (fun x hx=>by cases hx)
  ·exact .av pB hn hv hle h2
 |fn h0 h1 _ ih=>exact fun e=>.fn h0 h1 fun i u x hu hx=>ih i u x hu hx e
 |aq=>exact fun _=>.aq
 |kt h1 h2 h3 h4 h5 h6 _ ih=>exact fun e=>.kt (e.fg _ h1) ((e.heap _ h1).trans h2) h3 h4 h5 h6 fun i u x hu hx=>ih i u x hu hx e
 |cL=>exact fun _=>.cL
 |iface _ ih=>exact fun e=>.iface (ih e)
 |agg h1 _ ih=>exact fun e=>.agg h1 fun i u x hu hx=>ih i u x hu hx e
 |aB h1 _ ih=>exact fun e=>.aB h1 fun i u x hu hx=>ih i u x hu hx e
 |val=>exact fun _=>.val
 |aa=>exact fun _=>.aa
theorem bh.ext{w w':World}{ro aY:Nat→Prop}{ρ ρ':bP}{us:List Value}{xs:List V}(h:bh w ro ρ us xs)(e:Ext w ro ρ w' aY ρ'):bh w' aY ρ' us xs:=
 ⟨h.1,fun i u x hu hx=>(h.2 i u x hu hx).ext e⟩
inductive V.Pure : V → Prop
 |bool {b}:Pure (.bool b)
 |int {k n}:Pure (.int k n)
 |str {s}:Pure (.str s)
 |bR:Pure .bR
 |aL {c}:Pure (.aL c)
 |aj:Pure .aj
 |sl {n c}:Pure (.sl n c)
 |fn {f c}:(∀x∈c,Pure x)→Pure (.fn f c)
 |aq:Pure .aq
 |cL:Pure .cL
 |iface {t x}:Pure x→Pure (.iface t x)
 |agg {c}:(∀x∈c,Pure x)→Pure (.agg c)
 |aB {c}:(∀x∈c,Pure x)→Pure (.aB c)
 |val {u}:Pure (.val u)
 |aa:Pure .aa
attribute [simp] V.Pure.bool V.Pure.int V.Pure.str V.Pure.bR V.Pure.aL V.Pure.aj V.Pure.sl V.Pure.aq V.Pure.cL V.Pure.val V.Pure.aa
@[simp] theorem V.qb{c:List V}:(V.agg c).Pure↔ ∀x∈c,x.Pure:=⟨fun h=>by cases h;assumption,.agg⟩
@[simp] theorem V.xF{c:List V}:(V.aB c).Pure↔ ∀x∈c,x.Pure:=⟨fun h=>by cases h;assumption,.aB⟩
@[simp] theorem V.Fo{f:Fn}{c:List V}:(V.fn f c).Pure↔ ∀x∈c,x.Pure:=⟨fun h=>by cases h;assumption,.fn⟩
@[simp] theorem V.xG{t:TypeId}{x:V}:(V.iface t x).Pure↔x.Pure:=⟨fun h=>by cases h;assumption,.iface⟩
@[simp] theorem V.T7{i o:Nat}:(V.ref i o).Pure↔False:=⟨fun h=>(by cases h),False.elim⟩
@[simp] theorem V.T8{i o n s:Nat}:(V.av i o n s).Pure↔False:=⟨fun h=>(by cases h),False.elim⟩
theorem mem_of_getElem?{α:Type}{l:List α}{i:Nat}{x:α}(h:l[i]?=some x):x∈l:=aqg h
theorem Rd.pure{w:World}{ro:Nat→Prop}{ρ:bP}{u:Value}{x:V}(h:Rd w ro ρ u x):x.Pure→ ∀ρ',Rd w ro ρ' u x:=by
 induction h with
 |bool=>exact fun _ _=>.bool
 |int=>exact fun _ _=>.int
 |str=>exact fun _ _=>.str
 |bR=>exact fun _ _=>.bR
 |ref=>intro h;cases h
 |aL h1 h2 h3 h4 h5=>exact fun _ _=>.aL h1 h2 h3 h4 h5
 |aj=>exact fun _ _=>.aj
 |sl h1 h2 h3 h4 h5 h6=>exact fun _ _=>.sl h1 h2 h3 h4 h5 h6
 |lB=>exact fun _ _=>.lB
 |oO=>exact fun _ _=>.oO
 |iw=>intro h;cases h
 |av=>intro h;cases h
 |fn h0 h1 _ ih=>exact fun hp ρ'=>.fn h0 h1 fun i u x hu hx=>ih i u x hu hx (V.Fo.1 hp x (mem_of_getElem? hx)) ρ'
 |aq=>exact fun _ _=>.aq
 |kt=>intro h;cases h
 |cL=>exact fun _ _=>.cL
 |iface _ ih=>exact fun hp ρ'=>.iface (ih (V.xG.1 hp) ρ')
 |agg h1 _ ih=>exact fun hp ρ'=>.agg h1 fun i u x hu hx=>ih i u x hu hx (V.qb.1 hp x (mem_of_getElem? hx)) ρ'
 |aB h1 _ ih=>exact fun hp ρ'=>.aB h1 fun i u x hu hx=>ih i u x hu hx (V.xF.1 hp x (mem_of_getElem? hx)) ρ'
 |val=>exact fun _ _=>.val
 |aa=>exact fun _ _=>.aa
inductive V.Below (L : Nat) : V → Prop
 |pure {x}:x.Pure→Below L x
 |ref {i o}:i<L→Below L (.ref i o)
 |av {i o n s}:i<L→Below L (.av i o n s)
 |fn {f c}:(∀x∈c,Below L x)→Below L (.fn f c)
 |iface {t x}:Below L x→Below L (.iface t x)
 |agg {c}:(∀x∈c,Below L x)→Below L (.agg c)
 |aB {c}:(∀x∈c,Below L x)→Below L (.aB c)
section
variable {L : Nat}
@[simp] theorem V.aci{b:Bool}:(V.bool b).Below L:=.pure .bool
@[simp] theorem V.adR{k:IntKind}{n:Int}:(V.int k n).Below L:=.pure .int
@[simp] theorem V.adS{s:List UInt8}:(V.str s).Below L:=.pure .str
@[simp] theorem V.acj:V.bR.Below L:=.pure .bR
@[simp] theorem V.ack{c:List V}:(V.aL c).Below L:=.pure .aL
@[simp] theorem V.acm:V.aj.Below L:=.pure .aj
@[simp] theorem V.af4{n:Nat}{c:List V}:(V.sl n c).Below L:=.pure .sl
@[simp] theorem V.acn:V.aq.Below L:=.pure .aq
@[simp] theorem V.aaH:V.cL.Below L:=.pure .cL
@[simp] theorem V.adT{u:Value}:(V.val u).Below L:=.pure .val
@[simp] theorem V.aco:V.aa.Below L:=.pure .aa
@[simp] theorem V.adU{i o:Nat}:(V.ref i o).Below L↔i<L:=⟨fun h=>by cases h with|pure h=>cases h|ref h=>exact h,.ref⟩
@[simp] theorem V.adV{i o n s:Nat}:(V.av i o n s).Below L↔i<L:=⟨fun h=>by cases h with|pure h=>cases h|av h=>exact h,.av⟩
@[simp] theorem V.R4{c:List V}:(V.agg c).Below L↔ ∀x∈c,x.Below L:=
 ⟨fun h=>by cases h with|pure h=>exact fun x hx=>.pure (V.qb.1 h x hx)|agg h=>exact h,.agg⟩
@[simp] theorem V.R5{c:List V}:(V.aB c).Below L↔ ∀x∈c,x.Below L:=
 ⟨fun h=>by cases h with|pure h=>exact fun x hx=>.pure (V.xF.1 h x hx)|aB h=>exact h,.aB⟩
@[simp] theorem V.UH{f:Fn}{c:List V}:(V.fn f c).Below L↔ ∀x∈c,x.Below L:=
 ⟨fun h=>by cases h with|pure h=>exact fun x hx=>.pure (V.Fo.1 h x hx)|fn h=>exact h,.fn⟩
@[simp] theorem V.Me{t:TypeId}{x:V}:(V.iface t x).Below L↔x.Below L:=
 ⟨fun h=>by cases h with|pure h=>exact .pure (V.xG.1 h)|iface h=>exact h,.iface⟩
end
theorem Rd.R6{w w':World}{ro:Nat→Prop}{ρ:bP}{u:Value}{x:V}(h:Rd w ro ρ u x)(hc: ∀a,w'.cell? a=w.cell? a):ρ=[]→Rd w' ro ρ u x:=by
 induction h with
 |bool=>exact fun _=>.bool
 |int=>exact fun _=>.int
 |str=>exact fun _=>.str
 |bR=>exact fun _=>.bR
 |ref h1=>rintro rfl;simp at h1
 |aL h1 h2 h3 h4 _ ih=>exact fun _=>.aL h1 h2 h3 (fun i u hu=>(hc _).trans (h4 i u hu)) fun i u x hu hx=>ih i u x hu hx rfl
 |aj=>exact fun _=>.aj
 |sl h1 h2 h3 h4 h5 _ ih=>exact fun _=>.sl h1 h2 h3 h4 (fun i u hu=>(hc _).trans (h5 i u hu)) fun i u x hu hx=>ih i u x hu hx rfl
 |lB=>exact fun _=>.lB
 |oO=>exact fun _=>.oO
 |iw h1=>rintro rfl;simp at h1
 |av h1=>rintro rfl;simp at h1
 |fn h0 h1 _ ih=>exact fun e=>.fn h0 h1 fun i u x hu hx=>ih i u x hu hx e
 |aq=>exact fun _=>.aq
 |@kt ρ l r cap k id off h1 h2 h3 h4 h5 h6 h7 ih=>
  rintro rfl
  have aO:k<r.tmps.size:=by rw[h6];exact(apN.1 h5).1
  obtain⟨u,hu⟩: ∃u,r.tmps[k]?=some u:=⟨r.tmps[k],by simp[aO]⟩
  cases h7 k u _ hu h5 with
  |ref q=>simp at q
 |cL=>exact fun _=>.cL
 |iface _ ih=>exact fun e=>.iface (ih e)
 |agg h1 _ ih=>exact fun e=>.agg h1 fun i u x hu hx=>ih i u x hu hx e
 |aB h1 _ ih=>exact fun e=>.aB h1 fun i u x hu hx=>ih i u x hu hx e
 |val=>exact fun _=>.val
 |aa=>exact fun _=>.aa
theorem Rd.cells{w w':World}{ro:Nat→Prop}{ρ:bP}{L:Nat}(hc: ∀a,w'.cell? a=w.cell? a){u:Value}{x:V}(h:Rd w ro ρ u x):x.Below L→Rd w' ro ρ u x:=by
 induction h with
 |ref h1 h2 h3 h4=>exact fun _=>.ref h1 h2 h3 h4
 |aL h1 h2 h3 h4 h5=>exact fun _=>.aL h1 h2 h3 (fun i u hu=>(hc _).trans (h4 i u hu)) fun i u x hu hx=>(h5 i u x hu hx).R6 hc rfl
 |sl h1 h2 h3 h4 h5 h6=>exact fun _=>.sl h1 h2 h3 h4 (fun i u hu=>(hc _).trans (h5 i u hu)) fun i u x hu hx=>(h6 i u x hu hx).R6 hc rfl
 |iw h1 h2 h3=>exact fun _=>.iw h1 h2 h3
 |av h1 h2 h3 h4 h5=>exact fun _=>.av h1 h2 h3 h4 h5
 |fn h0 h1 _ ih=>exact fun hb=>.fn h0 h1 fun i u x hu hx=>ih i u x hu hx (V.UH.1 hb x (mem_of_getElem? hx))
 |kt=>intro hb;cases hb with|pure h=>cases h
 |iface _ ih=>exact fun hb=>.iface (ih (V.Me.1 hb))
 |agg h1 _ ih=>exact fun hb=>.agg h1 fun i u x hu hx=>ih i u x hu hx (V.R4.1 hb x (mem_of_getElem? hx))
 |aB h1 _ ih=>exact fun hb=>.aB h1 fun i u x hu hx=>ih i u x hu hx (V.R5.1 hb x (mem_of_getElem? hx))
 |bool=>exact fun _=>.bool
 |int=>exact fun _=>.int
 |str=>exact fun _=>.str
 |bR=>exact fun _=>.bR
 |aj=>exact fun _=>.aj
 |lB=>exact fun _=>.lB
 |oO=>exact fun _=>.oO
 |aq=>exact fun _=>.aq
 |cL=>exact fun _=>.cL
 |val=>exact fun _=>.val
 |aa=>exact fun _=>.aa
theorem Rd.same{w w':World}{ro:Nat→Prop}{ρ:bP}(hc: ∀a,w'.cell? a=w.cell? a)(hl: ∀(b:Nat) r,w.heap[b]?=some (.loop r)→w'.heap[b]?=some (.loop r)){u:Value}{x:V}(h:Rd w ro ρ u x):Rd w' ro ρ u x:=by
 induction h with
 |ref h1 h2 h3 h4=>exact .ref h1 h2 h3 h4
 |aL h1 h2 h3 h4 _ ih=>exact .aL h1 h2 h3 (fun i u hu=>(hc _).trans (h4 i u hu)) ih
 |sl h1 h2 h3 h4 h5 _ ih=>exact .sl h1 h2 h3 h4 (fun i u hu=>(hc _).trans (h5 i u hu)) ih
 |iw h1 h2 h3=>exact .iw h1 h2 h3
 |av h1 h2 h3 h4 h5=>exact .av h1 h2 h3 h4 h5
 |fn h0 h1 _ ih=>exact .fn h0 h1 ih
 |kt h1 h2 h3 h4 h5 h6 _ ih=>exact .kt h1 (hl _ _ h2) h3 h4 h5 h6 ih
 |iface _ ih=>exact .iface ih
 |agg h1 _ ih=>exact .agg h1 ih
 |aB h1 _ ih=>exact .aB h1 ih
 |bool=>exact .bool
 |int=>exact .int
 |str=>exact .str
 |bR=>exact .bR
 |aj=>exact .aj
 |lB=>exact .lB
 |oO=>exact .oO
 |aq=>exact .aq
 |cL=>exact .cL
 |val=>exact .val
 |aa=>exact .aa
end Go.VS
namespace Go.VS
inductive Row where
 |bu
 |dead
 |live (cs:List V)
 deriving Inhabited
structure Ctx where
 w:World
 ro:Nat→Prop
 ρ:bP
def Ctx.may(c:Ctx)(b:Nat):Prop:= ∃(id:Nat) (x:tO),c.ρ[id]?=some (.on x)∧x.b=b
def mG(w:World)(ro:Nat→Prop)(ρ:bP)(x:tO)(cs:List V):Prop:=
 ∃C e fr,w.heap[x.b]?=some (.cells C e fr)∧C.size=x.m∧(∀i,i<x.m→ ¬(fr.1≤i∧i<fr.2))∧x.o+cs.length≤x.m∧
  ∀(i:Nat) v,cs[i]?=some v→ ∃u,C[x.o+i]?=some u∧Rd w ro ρ u v
def cX(w:World)(ro:Nat→Prop)(ρ:bP)(id:Nat):Row→Prop
 |.bu=>ρ[id]?=some .bu
 |.dead=>ρ[id]?=some .dead
 |.live cs=>(∃x,ρ[id]?=some (.on x)∧mG w ro ρ x cs)∨(cs=[]∧ρ[id]?=some .mU)
structure Good (c : Ctx) (rows : List Row) (w : World) (ro : Nat → Prop) (ρ : bP) : Prop where
 os:w.os=c.w.os
 tape:w.tape=c.w.tape
 output:w.output=c.w.output
 size:c.w.heap.size≤w.heap.size
 eW: ∀b,b<c.w.heap.size→ ¬c.may b→w.heap[b]?=c.w.heap[b]?
 iN: ∀b,ro b→b<w.heap.size
 gW: ∀b,ro b→c.ro b∨c.may b∨c.w.heap.size≤b
 len:ρ.length=rows.length
 cK: ∀(id:Nat) x,ρ[id]?=some (.on x)→(c.may x.b∨c.w.heap.size≤x.b)∧ ¬ro x.b
 inj: ∀(i j:Nat) x y,ρ[i]?=some (.on x)→ρ[j]?=some (.on y)→x.b=y.b→i=j
 row: ∀(id:Nat) r,rows[id]?=some r→cX w ro ρ id r
 ext:Ext c.w c.ro c.ρ w ro ρ
theorem mG.ext{w w':World}{ro aY:Nat→Prop}{ρ ρ':bP}{x:tO}{cs:List V}(h:mG w ro ρ x cs)(e:Ext w ro ρ w' aY ρ')
  (hb:w'.heap[x.b]?=w.heap[x.b]?):mG w' aY ρ' x cs:=by
 obtain⟨C,t,fr,h1,h2,h3,h4,h5⟩:=h
 refine⟨C,t,fr,hb.trans h1,h2,h3,h4,fun i v hv=>?_⟩
 obtain⟨u,hu,hr⟩:=h5 i v hv
 exact⟨u,hu,hr.ext e⟩
section
variable {c : Ctx} {rows : List Row} {w : World} {ro : Nat → Prop} {ρ : bP}
theorem Good.alive(g:Good c rows w ro ρ){id:Nat}{x:tO}(h:ρ[id]?=some (.on x)): ∃cs,rows[id]?=some (.live cs)∧mG w ro ρ x cs:=by
 have aO:id<ρ.length:=(apN.1 h).1
 have q8:id<rows.length:=by rw[←g.len];exact aO
 obtain⟨r,hr⟩: ∃r,rows[id]?=some r:=⟨rows[id],by simp[q8]⟩
 have:=g.row id r hr
 cases r with
 |bu=>simp[cX,h]at this
 |dead=>simp[cX,h]at this
 |live cs=>
  rcases this with⟨y,hy,bA⟩|⟨-,hv⟩
  ·rw[h]at hy
   simp at hy
   subst hy
   exact⟨cs,hr,bA⟩
  ·rw[h]at hv;simp at hv
theorem Good.oP(g:Good c rows w ro ρ){id:Nat}{x:tO}(h:ρ[id]?=some (.on x)):x.b<w.heap.size:=by
 obtain⟨cs,_,C,e,fr,hb,_⟩:=g.alive h
 exact(ap4.1 hb).1
theorem Good.live(g:Good c rows w ro ρ){id:Nat}{cs:List V}(h:rows[id]?=some (.live cs)): ∃y,ρ[id]?=some y∧y≠.bu∧y≠.dead∧
  (∀x,y=.on x→mG w ro ρ x cs)∧(y=.mU→cs=[]):=by
 rcases g.row id _ h with⟨x,hx,bA⟩|⟨hc,hv⟩
 ·exact⟨_,hx,(fun h=>by cases h),(fun h=>by cases h),(fun y hy=>by cases hy;exact bA),(fun h=>by cases h)⟩
 ·exact⟨_,hv,(fun h=>by cases h),(fun h=>by cases h),(fun y hy=>by cases hy),fun _=>hc⟩
theorem Good.world(g:Good c rows w ro ρ){w':World}(KE:w'.os=w.os)(ht:w'.tape=w.tape)(ho:w'.output=w.output)(hs:w.heap.size≤w'.heap.size)
  (hh: ∀b,b<w.heap.size→(ro b∨(∃(id:Nat) (x:tO),ρ[id]?=some (.on x)∧x.b=b)∨(b<c.w.heap.size∧ ¬c.may b))→w'.heap[b]?=w.heap[b]?):
  Good c rows w' ro ρ∧Ext w ro ρ w' ro ρ:=by
 have cY:Ext w ro ρ w' ro ρ:=⟨fun _ h=>h,fun b hb=>hh b (g.iN b hb) (.inl hb),fun id y h _=>⟨y,h,.inr rfl⟩⟩
 refine⟨⟨KE.trans g.os,ht.trans g.tape,ho.trans g.output,aqD g.size hs,fun b hb hm=>(hh b (aqJ hb g.size) (.inr (.inr ⟨hb,hm⟩))).trans (g.eW b hb hm),
  fun b hb=>aqJ (g.iN b hb) hs,g.gW,g.len,g.cK,g.inj,fun id r hr=>?_,g.ext.trans cY⟩,cY⟩
 have:=g.row id r hr
 cases r with
 |bu=>exact this
 |dead=>exact this
 |live cs=>
  rcases this with⟨x,hx,bA⟩|hv
  ·exact .inl ⟨x,hx,bA.ext cY (hh x.b (g.oP hx) (.inr (.inl ⟨id,x,hx,rfl⟩)))⟩
  ·exact .inr hv
theorem Good.drew(g:Good c rows w ro ρ)(n:Nat):Good c rows {w with drawn:=n} ro ρ∧Ext w ro ρ {w with drawn:=n} ro ρ:=
 g.world rfl rfl rfl (aqf _) fun _ _ _=>rfl
theorem Good.push(g:Good c rows w ro ρ)(o:Obj):Good c rows {w with heap:=w.heap.push o} ro ρ∧Ext w ro ρ {w with heap:=w.heap.push o} ro ρ:=
 g.world rfl rfl rfl (by simp) fun b hb _=>by
  show(w.heap.push o)[b]?=_
  rw[Array.getElem?_push,if_neg (by omega)]
theorem Good.loose(g:Good c rows w ro ρ){w':World}(k:Nat)(KE:w'.os=w.os)(ht:w'.tape=w.tape)(ho:w'.output=w.output)(hs:w'.heap.size=w.heap.size)
  (hh: ∀b,b≠k→w'.heap[b]?=w.heap[b]?) (gd: ¬ro k) (kc: ∀(id:Nat) x,ρ[id]?=some (.on x)→x.b≠k) (hk:c.may k∨c.w.heap.size≤k):
  Good c rows w' ro ρ∧Ext w ro ρ w' ro ρ:=
 g.world KE ht ho (by omega) fun b _ h=>hh b fun e=>by
  subst e
  rcases h with h|⟨id,x,hx,hb⟩|⟨h1,h2⟩
  ·exact gd h
  ·exact kc id x hx hb
  ·rcases hk with hk|hk
   ·exact h2 hk
   ·omega
theorem Good.kill(g:Good c rows w ro ρ){id:Nat}{cs:List V}(h:rows[id]?=some (.live cs)):
  Good c (rows.set id .dead) w ro (ρ.set id .dead)∧Ext w ro ρ w ro (ρ.set id .dead):=by
 obtain⟨y0,lN,-⟩:=g.live h
 have aO:id<ρ.length:=(apN.1 lN).1
 have jP: ∀(j:Nat) y,(ρ.set id .dead)[j]?=some (.on y)→ρ[j]?=some (.on y):=by
  intro j y hy
  rw[aqB]at hy
  split at hy
  ·simp at hy
  ·exact hy
 have cY:Ext w ro ρ w ro (ρ.set id .dead):=by
  refine⟨fun _ h=>h,fun _ _=>rfl,fun j y hy _=>?_⟩
  by_cases hj:id=j
  ·subst hj
   exact⟨.dead,by simp[aO],.inl rfl⟩
  ·exact⟨y,by rw[ap6 hj];exact hy,.inr rfl⟩
 refine⟨⟨g.os,g.tape,g.output,g.size,g.eW,g.iN,g.gW,by simp[g.len],fun j y hy=>g.cK j y (jP j y hy),fun i j y z hy hz=>g.inj i j y z (jP i y hy) (jP j z hz),
  fun j r hr=>?_,g.ext.trans cY⟩,cY⟩
 by_cases hj:id=j
 ·subst hj
  rw[aq5 (by rw[←g.len];exact aO)]at hr
  cases hr
  simp[cX,aO]
 ·rw[ap6 hj]at hr
  have:=g.row j r hr
  cases r with
  |bu=>simpa[cX,ap6 hj]using this
  |dead=>simpa[cX,ap6 hj]using this
  |live ds=>
   rcases this with⟨y,hy,bA⟩|hv
   ·exact .inl ⟨y,by rw[ap6 hj];exact hy,bA.ext cY rfl⟩
   ·exact .inr (by rw[ap6 hj];exact hv)
theorem Good.abQ(g:Good c rows w ro ρ){k:Nat}(hk:k<w.heap.size)(kc: ∀(id:Nat) x,ρ[id]?=some (.on x)→x.b≠k)(hm:c.may k∨c.w.heap.size≤k):
  Good c rows w (fun b=>ro b∨b=k) ρ∧Ext w ro ρ w (fun b=>ro b∨b=k) ρ:=by
 have cY:Ext w ro ρ w (fun b=>ro b∨b=k) ρ:=⟨fun _ h=>.inl h,fun _ _=>rfl,fun id y h _=>⟨y,h,.inr rfl⟩⟩
 refine⟨⟨g.os,g.tape,g.output,g.size,g.eW,fun b hb=>?_,fun b hb=>?_,g.len,fun j y hy=>⟨(g.cK j y hy).1,fun h=>?_⟩,g.inj,fun j r hr=>?_,g.ext.trans cY⟩,cY⟩
 ·rcases hb with hb|rfl
  ·exact g.iN b hb
  ·exact hk
 ·rcases hb with hb|rfl
  ·exact g.gW b hb
  ·exact .inr hm
 ·rcases h with h|h
  ·exact(g.cK j y hy).2 h
  ·exact kc j y hy h
 ·have:=g.row j r hr
  cases r with
  |bu=>exact this
  |dead=>exact this
  |live ds=>
   rcases this with⟨y,hy,bA⟩|hv
   ·exact .inl ⟨y,hy,bA.ext cY rfl⟩
   ·exact .inr hv
def da{α:Type}(l:List α)(id:Nat)(x:α):List α:=if id=l.length then l++[x]else l.set id x
theorem bH{α:Type}{l:List α}{id:Nat}{x:α}(h:id≤l.length)(j:Nat):(da l id x)[j]?=if j=id then some x else l[j]?:=by
 unfold da
 split
 ·rename_i e
  subst e
  rw[aqq]
  by_cases hj:j<l.length
  ·rw[if_pos hj,if_neg (by omega)]
  ·rw[if_neg hj]
   by_cases oB:j=l.length
   ·subst oB;simp
   ·rw[if_neg oB,aql (by simp;omega),aql (by omega)]
 ·rename_i e
  rw[aqB]
  by_cases hj:id=j
  ·subst hj;simp;omega
  ·rw[if_neg hj,if_neg (fun h=>hj h.symm)]
theorem iE{α:Type}{l:List α}{id:Nat}{x:α}:(da l id x).length=if id=l.length then l.length+1 else l.length:=by
 unfold da
 split<;>simp
def dB(rows:List Row)(id:Nat):Prop:=id=rows.length∨rows[id]?=some .bu
theorem Good.EA(g:Good c rows w ro ρ){id:Nat}(hf:dB rows id):id≤ρ.length:=by
 rcases hf with hf|hf
 ·rw[g.len];omega
 ·have:=(apN.1 hf).1
  rw[g.len];omega
theorem Good.aaI(g:Good c rows w ro ρ){id:Nat}(hf:dB rows id)(x:Pl):Ext w ro ρ w ro (da ρ id x):=by
 refine⟨fun _ h=>h,fun _ _=>rfl,fun j y hy hn=>⟨y,?_,.inr rfl⟩⟩
 rw[bH (g.EA hf),if_neg,hy]
 rintro rfl
 rcases hf with hf|hf
 ·have:=(apN.1 hy).1
  rw[g.len]at this;omega
 ·have:=g.row j _ hf
  simp[cX,hy]at this
  exact hn this
theorem Good.UI(g:Good c rows w ro ρ){id:Nat}(hf:dB rows id){p:Pl}{cs:List V}(hp:(∃x,p=.on x∧mG w ro ρ x cs∧ ¬ro x.b∧
  (∀(id:Nat) y,ρ[id]?=some (.on y)→y.b≠x.b)∧(c.may x.b∨c.w.heap.size≤x.b))∨(p=.mU∧cs=[])):
  Good c (da rows id (.live cs)) w ro (da ρ id p)∧Ext w ro ρ w ro (da ρ id p):=by
 have cY:=g.aaI hf p
 have hle:=g.EA hf
 have xC:id≤rows.length:=by rw[←g.len];exact hle
 refine⟨⟨g.os,g.tape,g.output,g.size,g.eW,g.iN,g.gW,?_,fun j y hy=>?_,fun i j y z hy hz hb=>?_,fun j r hr=>?_,g.ext.trans cY⟩,cY⟩
 ·rw[iE,iE,g.len]
 ·rw[bH hle]at hy
  split at hy
  ·simp at hy
   rcases hp with⟨x,rfl,bA,gd,kc,hm⟩|⟨rfl,-⟩
   ·cases hy;exact⟨hm,gd⟩
   ·cases hy
  ·exact g.cK j y hy
 ·rw[bH hle]at hy hz
  rcases hp with⟨x,rfl,bA,gd,kc,hm⟩|⟨rfl,-⟩
  ·split at hy<;>split at hz
   ·omega
   ·simp at hy;subst hy;exact absurd hb.symm (kc j z hz)
   ·simp at hz;subst hz;exact absurd hb (kc i y hy)
   ·exact g.inj i j y z hy hz hb
  ·split at hy
   ·simp at hy
   ·split at hz
    ·simp at hz
    ·exact g.inj i j y z hy hz hb
 ·rw[bH xC]at hr
  split at hr
  ·rename_i e
   subst e
   simp at hr
   subst hr
   rcases hp with⟨x,rfl,bA,gd,kc,hm⟩|⟨rfl,hc⟩
   ·exact .inl ⟨x,by rw[bH hle,if_pos rfl],bA.ext cY rfl⟩
   ·exact .inr ⟨hc,by rw[bH hle,if_pos rfl]⟩
  ·rename_i bw
   have:=g.row j r hr
   cases r with
   |bu=>simpa[cX,bH hle,bw]using this
   |dead=>simpa[cX,bH hle,bw]using this
   |live ds=>
    rcases this with⟨y,hy,KF⟩|hv
    ·exact .inl ⟨y,by rw[bH hle,if_neg bw];exact hy,KF.ext cY rfl⟩
    ·exact .inr (by rw[bH hle,if_neg bw];exact hv)
theorem Good.add(g:Good c rows w ro ρ){id:Nat}(hf:dB rows id){x:tO}{cs:List V}(bA:mG w ro ρ x cs)(gd: ¬ro x.b)
  (kc: ∀(id:Nat) y,ρ[id]?=some (.on y)→y.b≠x.b) (hm:c.may x.b∨c.w.heap.size≤x.b):
  Good c (da rows id (.live cs)) w ro (da ρ id (.on x))∧Ext w ro ρ w ro (da ρ id (.on x)):=
 g.UI hf (.inl ⟨x,rfl,bA,gd,kc,hm⟩)
theorem Good.store(g:Good c rows w ro ρ){id:Nat}{x:tO}{cs ds:List V}(h:rows[id]?=some (.live cs))(hx:ρ[id]?=some (.on x)){w':World}
  (KE:w'.os=w.os) (ht:w'.tape=w.tape) (ho:w'.output=w.output) (hs:w'.heap.size=w.heap.size) (hh: ∀b,b≠x.b→w'.heap[b]?=w.heap[b]?)
  (bA:Ext w ro ρ w' ro ρ→mG w' ro ρ x ds):Good c (rows.set id (.live ds)) w' ro ρ∧Ext w ro ρ w' ro ρ:=by
 have cY:Ext w ro ρ w' ro ρ:=⟨fun _ h=>h,fun b hb=>hh b fun e=>(g.cK id x hx).2 (e▸hb),fun id y h _=>⟨y,h,.inr rfl⟩⟩
 have aO:id<rows.length:=(apN.1 h).1
 refine⟨⟨KE.trans g.os,ht.trans g.tape,ho.trans g.output,by rw[hs];exact g.size,fun b hb hm=>(hh b fun e=>?_).trans (g.eW b hb hm),fun b hb=>by rw[hs];exact g.iN b hb,
  g.gW,by simp[g.len],g.cK,g.inj,fun j r hr=>?_,g.ext.trans cY⟩,cY⟩
 ·subst e
  rcases(g.cK id x hx).1 with h1|h1
  ·exact hm h1
  ·omega
 ·by_cases hj:id=j
  ·subst hj
   rw[aq5 aO]at hr
   cases hr
   exact .inl ⟨x,hx,bA cY⟩
  ·rw[ap6 hj]at hr
   have:=g.row j r hr
   cases r with
   |bu=>exact this
   |dead=>exact this
   |live es=>
    rcases this with⟨y,hy,KF⟩|hv
    ·exact .inl ⟨y,hy,KF.ext cY (hh y.b fun e=>hj (g.inj id j x y hx hy e.symm))⟩
    ·exact .inr hv
theorem Good.AO(g:Good c rows w ro ρ)(n:Nat):
  Good c (rows++List.replicate n .bu) w ro (ρ++List.replicate n .bu)∧Ext w ro ρ w ro (ρ++List.replicate n .bu):=by
 have jP: ∀(j:Nat) y,y≠.bu→(ρ++List.replicate n .bu)[j]?=some y→ρ[j]?=some y:=by
  intro j y hn hy
  rw[aqq]at hy
  split at hy
  ·exact hy
  ·rw[arh]at hy
   split at hy
   ·simp at hy;exact absurd hy.symm hn
   ·simp at hy
 have cY:Ext w ro ρ w ro (ρ++List.replicate n .bu):=by
  refine⟨fun _ h=>h,fun _ _=>rfl,fun j y hy _=>⟨y,?_,.inr rfl⟩⟩
  rw[ap7 (apN.1 hy).1]
  exact hy
 refine⟨⟨g.os,g.tape,g.output,g.size,g.eW,g.iN,g.gW,by simp[g.len],fun j y hy=>g.cK j y (jP j _ (fun h=>by cases h) hy),
  fun i j y z hy hz=>g.inj i j y z (jP i _ (fun h=>by cases h) hy) (jP j _ (fun h=>by cases h) hz),fun j r hr=>?_,g.ext.trans cY⟩,cY⟩
 rw[aqq]at hr
 split at hr
 ·rename_i aO
  have q8:j<ρ.length:=by rw[g.len];exact aO
  have:=g.row j r hr
  cases r with
  |bu=>simpa[cX,ap7 q8]using this
  |dead=>simpa[cX,ap7 q8]using this
  |live ds=>
   rcases this with⟨y,hy,bA⟩|hv
   ·exact .inl ⟨y,by rw[ap7 q8];exact hy,bA.ext cY rfl⟩
   ·exact .inr (by rw[ap7 q8];exact hv)
 ·rename_i D3
  rw[arh]at hr
  split at hr
  ·rename_i aO
   simp at hr
   subst hr
   have af5:ρ.length≤j:=by rw[g.len];omega
   simp only[cX]
   rw[aqL af5,arh,if_pos (by rw[g.len];omega)]
  ·simp at hr
end
end Go.VS
namespace Go.VS
def dW(P:Program)(t:TypeId):Option Nat:=(P.info? t).map (·.size)
def nH(P:Program)(t:TypeId):Option Nat:=(P.info? t).map (·.bytes)
def p9(P:Program)(t:TypeId):Option Bool:=
 match P.underlying t with
 |some (.struct _)|some (.array _ _)=>some true
 |some _=>some false
 |none=>none
def bt(P:Program)(t:TypeId):Option TypeId:=
 match P.underlying t with
 |some (.slice e)=>some e
 |_=>none
def x6(P:Program)(t:TypeId):Option (Nat×TypeId):=
 match P.underlying t with
 |some (.array n e)=>some (n,e)
 |_=>none
def uint(P:Program)(t:TypeId):Option IntKind:=
 match P.underlying t with
 |some (.int k)=>some k
 |_=>none
def fP(P:Program)(t:TypeId):Bool:=
 match P.underlying t with
 |some .string=>true
 |_=>false
def KG(P:Program)(t:TypeId):Option Bool:=
 match P.underlying t with
 |some (.interface _)=>some true
 |some _=>some false
 |none=>none
def tq(P:Program)(t:TypeId)(f:Nat):Option (TypeId×Nat):=
 match P.underlying t with
 |some (.struct fs)=>(fs[f]?).map fun d=>(d.type,d.offset)
 |_=>none
def ba(P:Program)(t:TypeId):Option (Nat→Option (Nat×Nat)):=
 match P.underlying t with
 |some (.struct fs)=>(fs.toList.mapM fun f=>(dW P f.type).map fun n=>(f.offset,n)).map fun l i=>l[i]?
 |some (.array _ e)=>(dW P e).map fun n i=>some (i*n,n)
 |_=>none
def l8(P:Program)(t:TypeId)(i:Nat):Option (Nat×Nat):=(ba P t).bind (· i)
def ku:Value→V
 |.bool b=>.bool b
 |.int k n=>.int k n
 |.string s=>.str s.data.toList
 |.pointer none=>.bR
 |.slice none 0 0=>.aj
 |.nilFunc=>.aq
 |.nilIface=>.cL
 |v=>.val v
def ofConst:Value→V
 |.agg cs=>.agg (cs.toList.map ku)
 |.tuple cs=>.aB (cs.toList.map ku)
 |v=>ku v
def ag(P:Program)(t:TypeId):Option (List V):=((P.info? t).bind (·.zero)).map fun z=>z.cells.toList.map ku
def bL:List V→Nat→V
 |[],_=>.aa
 |a::_,0=>a
 |_::l,n+1=>bL l n
def sset:List V→Nat→V→List V
 |[],_,_=> []
 |_::l,0,v=>v::l
 |a::l,n+1,v=>a::sset l n v
def aD(s:List V)(dst:Option Tmp)(v:V):List V:=
 match dst with
 |some d=>sset s d v
 |none=>s
def eB:List V→Nat→List V→List V
 |cs,_,[]=>cs
 |cs,i,v::r=>eB (cs.set i v) (i+1) r
def ax(s:List V):Operand→V
 |.tmp t=>bL s t
 |.const v=>ofConst v
 |.global g=>.val (.pointer (some ⟨g,0,none⟩))
 |.func f=>.fn (.func f) []
def V.one:V→Bool
 |.agg _|.aB _|.aa=>false
 |.val u=>u.oneCell'
 |_=>true
def eH:V→Option (List V)
 |.agg cs=>some cs
 |v=>if v.one then some [v]else none
def aF(b:UInt8):V:=.int .u8 b.toNat
def V.isByte:V→Bool
 |.int .u8 _=>true
 |_=>false
def toByte:V→UInt8
 |.int .u8 n=>UInt8.ofNat n.toNat
 |_=>0
def tK(op:BinOp)(kd:IntKind)(a:Int)(cH:IntKind)(b:Int)(k:V→Prop):Prop:=
 match op with
 |.add=>kd=cH∧k (.int kd (kd.wrap (a+b)))
 |.sub=>kd=cH∧k (.int kd (kd.wrap (a-b)))
 |.mul=>kd=cH∧k (.int kd (kd.wrap (a*b)))
 |.quo=>kd=cH∧b≠0∧k (.int kd (kd.wrap (a.tdiv b)))
 |.rem=>kd=cH∧b≠0∧k (.int kd (a.tmod b))
 |.and=>kd=cH∧k (.int kd (bits .and kd a b))
 |.or=>kd=cH∧k (.int kd (bits .or kd a b))
 |.xor=>kd=cH∧k (.int kd (bits .xor kd a b))
 |.andNot=>kd=cH∧k (.int kd (bits .andNot kd a b))
 |.shl=>0≤b∧k (.int kd (kd.wrap (a*2^(min b.toNat kd.bits))))
 |.shr=>0≤b∧k (.int kd (a/2^(min b.toNat kd.bits)))
 |.eql=>kd=cH∧k (.bool (a==b))
 |.neq=>kd=cH∧k (.bool (a !=b))
 |.lss=>kd=cH∧k (.bool (decide (a<b)))
 |.leq=>kd=cH∧k (.bool (decide (a≤b)))
 |.gtr=>kd=cH∧k (.bool (decide (b<a)))
 |.geq=>kd=cH∧k (.bool (decide (b≤a)))
def vt(op:BinOp)(a b:List UInt8)(k:V→Prop):Prop:=
 match op with
 |.add=>a.length+b.length≤9223372036854775807∧k (.str (a++b))
 |.eql=>k (.bool (a==b))
 |.neq=>k (.bool (!(a==b)))
 |.lss=>k (.bool (Op.bytesLess a b))
 |.leq=>k (.bool (Op.bytesLess a b||a==b))
 |.gtr=>k (.bool (!(Op.bytesLess a b||a==b)))
 |.geq=>k (.bool (!(Op.bytesLess a b)))
 |_=>False
def apart(P:Program)(t:TypeId)(cs:List V)(off:Nat)(k:V→Prop):Prop:=
 match p9 P t with
 |some true=> ∃n,dW P t=some n∧k (.agg ((cs.drop off).take n))
 |some false=> ∃v,cs[off]?=some v∧k v
 |none=>False
def jd(P:Program)(t:TypeId)(cs:List V)(off:Nat):Option V:=
 match p9 P t with
 |some true=>(dW P t).map fun n=>.agg ((cs.drop off).take n)
 |some false=>cs[off]?
 |none=>none
def dH(P:Program):Nat→TypeId→V→V→Option Bool
 |0,_,_,_=>none
 |d+1,t,x,y=>
  match P.underlying t,x,y with
  |some .bool,.bool a,.bool b=>some (a==b)
  |some (.int _),.int k a,.int k' b=>if k=k' then some (a==b)else none
  |some .string,.str a,.str b=>some (a==b)
  |some (.pointer _),.bR,.bR=>some true
  |some (.pointer _),.bR,.ref _ _|some (.pointer _),.ref _ _,.bR|some (.pointer _),.bR,.aL _|some (.pointer _),.aL _,.bR=>some false
  |some (.slice _),.aj,.aj=>some true
  |some (.slice _),.val (.slice (some _) _ _),.aj=>some false
  |some (.slice _),.aj,.sl (_+1) _|some (.slice _),.sl (_+1) _,.aj|some (.slice _),.aj,.av _ _ (_+1) _|some (.slice _),.av _ _ (_+1) _,.aj=>some false
  |some (.func _ _ _),.aq,.aq=>some true
  |some (.func _ _ _),.aq,.fn _ _|some (.func _ _ _),.fn _ _,.aq=>some false
  |some (.interface _),.iface _ _,.cL=>some false
  |some (.struct fs),.agg xs,.agg ys=>if P.stoodInHeld t then none else
    fs.toList.foldr (fun f acc=>if f.name≠ "_" then(match jd P f.type xs f.offset,jd P f.type ys f.offset with
     |some a,some b=>(match dH P d f.type a b with|some true=>acc|some false=>some false|none=>none)
     |_,_=>none)else acc) (some true)
  |some (.array n e),.agg xs,.agg ys=>match dW P e with
   |none=>none
   |some m=>(List.range n).foldr (fun i acc=>match jd P e xs (i*m),jd P e ys (i*m)with
     |some a,some b=>(match dH P d e a b with|some true=>acc|some false=>some false|none=>none)
     |_,_=>none) (some true)
  |_,_,_=>none
def qS(P:Program)(t:TypeId)(x:V):Prop:=
 match x with
 |.agg _=>P.eqGuardType P.depth t=false
 |_=>True
def V.eK:V→Bool
 |.bool _|.bR|.ref _ _|.aL _|.aj|.sl _ _|.av _ _ _ _|.aq|.fn _ _|.iface _ _|.agg _=>true
 |.val (.slice _ _ _)=>true
 |_=>false
def vA(P:Program)(op:BinOp)(xt:TypeId)(x y:V)(k:V→Prop):Prop:=
 match x,y with
 |.int kd a,.int cH b=>tK op kd a cH b k
 |.str a,.str b=>vt op a b k
 |x,y=>match op with
  |.eql=>x.eK=true∧qS P xt x∧ ∃r,dH P 20 xt x y=some r∧k (.bool r)
  |.neq=>x.eK=true∧qS P xt x∧ ∃r,dH P 20 xt x y=some r∧k (.bool (!r))
  |_=>False
def KH(op:UnOp)(x:V)(k:V→Prop):Prop:=
 match op,x with
 |.neg,.int kd n=>k (.int kd (kd.wrap (0-n)))
 |.xor,.int kd n=>k (.int kd (bits .xor kd (if kd.signed then-1 else kd.max) n))
 |.not,.bool b=>k (.bool !b)
 |_,_=>False
abbrev KV:=V→List Row→Prop
def eI:Option V→Nat→(Nat→Prop)→Prop
 |none,d,k=>k d
 |some (.int _ n),_,k=>0≤n∧k n.toNat
 |some _,_,_=>False
def DV(P:Program)(t:TypeId)(x:V)(lo hi mx:Option V)(rows:List Row)(k:KV):Prop:=
 mx=none∧
 match x with
 |.str s=>fP P t=true∧eI hi s.length fun h=>eI lo 0 fun l=>l≤h∧h≤s.length∧k (.str ((s.drop l).take (h-l))) rows
 |.aj=>(∃e,bt P t=some e∧(dW P e).isSome)∧eI hi 0 fun h=>eI lo 0 fun l=>l≤h∧h≤0∧k .aj rows
 |.sl n cs=> ∃e sz,bt P t=some e∧dW P e=some sz∧eI hi n fun h=>eI lo 0 fun l=>l≤h∧h≤n∧k (.sl (h-l) ((cs.drop (l*sz)).take ((h-l)*sz))) rows
 |.av id off n sz=> ∃e,bt P t=some e∧dW P e=some sz∧eI hi n fun h=>eI lo 0 fun l=>l≤h∧h≤n∧k (.av id (off+l*sz) (h-l) sz) rows
 |.ref id off=> ∃n e sz cs,x6 P t=some (n,e)∧dW P e=some sz∧rows[id]?=some (.live cs)∧off+n*sz≤cs.length∧cs≠ []∧
   eI hi n fun h=>eI lo 0 fun l=>l≤h∧h≤n∧k (.av id (off+l*sz) (h-l) sz) rows
 |_=>False
def x7(P:Program)(t:TypeId)(x ix:V)(rows:List Row)(k:KV):Prop:=
 match ix with
 |.int _ i=>(match x with
  |.sl n cs=> ∃e sz,bt P t=some e∧dW P e=some sz∧0≤i∧i<n∧k (.aL (cs.drop (i.toNat*sz))) rows
  |.av id off n sz=> ∃e,bt P t=some e∧dW P e=some sz∧0≤i∧i<n∧k (.ref id (off+i.toNat*sz)) rows
  |.ref id off=> ∃n e sz,x6 P t=some (n,e)∧dW P e=some sz∧0≤i∧i<n∧k (.ref id (off+i.toNat*sz)) rows
  |.aL cs=> ∃n e sz,x6 P t=some (n,e)∧dW P e=some sz∧0≤i∧i<n∧k (.aL (cs.drop (i.toNat*sz))) rows
  |_=>False)
 |_=>False
def x8(P:Program)(t:TypeId)(x:V)(f:Nat)(rows:List Row)(k:KV):Prop:=
 ∃ft o n,tq P t f=some (ft,o)∧dW P ft=some (n+1)∧
  match x with
  |.ref id off=>k (.ref id (off+o)) rows
  |.aL cs=>k (.aL (cs.drop o)) rows
  |_=>False
def tP(P:Program)(t:TypeId)(x:V)(f:Nat)(k:V→Prop):Prop:=
 match x with
 |.agg cs=> ∃ft o,tq P t f=some (ft,o)∧apart P ft cs o k
 |_=>False
def wO(P:Program)(t:TypeId)(x ix:V)(k:V→Prop):Prop:=
 match ix with
 |.int _ i=>(match x with
  |.agg cs=> ∃n e sz,x6 P t=some (n,e)∧dW P e=some sz∧0≤i∧i<n∧apart P e cs (i.toNat*sz) k
  |.str s=>fP P t=true∧0≤i∧ ∃b,s[i.toNat]?=some b∧k (.int .u8 b.toNat)
  |_=>False)
 |_=>False
def gr(P:Program)(t:TypeId)(cs:List V)(off:Nat)(k:V→Prop):Prop:=
 match p9 P t with
 |some true=> ∃n,dW P t=some n∧off+n≤cs.length∧k (.agg ((cs.drop off).take n))
 |some false=> ∃v,cs[off]?=some v∧k v
 |none=>False
def xz(P:Program)(t:TypeId)(x:V)(rows:List Row)(k:KV):Prop:=
 match x with
 |.ref id off=> ∃cs,rows[id]?=some (.live cs)∧cs≠ []∧gr P t cs off fun v=>k v rows
 |.aL cs=>gr P t cs 0 fun v=>k v rows
 |_=>False
def KI(P:Program)(t:TypeId)(x v:V)(rows:List Row)(k:KV):Prop:=
 match x with
 |.ref id off=> ∃cs vs n,rows[id]?=some (.live cs)∧cs≠ []∧eH v=some vs∧dW P t=some n∧vs.length=n∧off+n≤cs.length∧(∀c∈vs,c.one=true)∧
   k .aa (rows.set id (.live (eB cs off vs)))
 |_=>False
def UJ(v:V)(id:Nat)(rows:List Row)(k:KV):Prop:=
 ∃vs,eH v=some vs∧dB rows id∧k (.ref id 0) (da rows id (.live vs))
def nQ(place:Nat→Option (Nat×Nat))(ρ:Operand→V):List (Nat×Operand)→List V→(List V→Prop)→Prop
 |[],cs,k=>k cs
 |(i,x)::r,cs,k=> ∃off sz vs,place i=some (off,sz)∧eH (ρ x)=some vs∧vs.length=sz∧off+sz≤cs.length∧nQ place ρ r (eB cs off vs) k
def KJ(P:Program)(t:TypeId)(ρ:Operand→V)(parts:List (Nat×Operand))(k:V→Prop):Prop:=
 ∃z,ag P t=some z∧(ba P t).isSome=true∧nQ (l8 P t) ρ parts z fun cs=>k (.agg cs)
def uN(n:Nat)(z:List V):List V:=(List.replicate n z).flatten
def vB(P:Program)(t:TypeId)(len:Nat)(ρ:Operand→V)(parts:List (Nat×Operand))(id:Nat)(rows:List Row)(k:KV):Prop:=
 ∃e sz z,bt P t=some e∧dW P e=some sz∧ag P e=some z∧z.length=sz∧len*sz≤16777216∧dB rows id∧
  nQ (fun i=>some (i*sz,sz)) ρ parts (uN len z) fun cs=>k (.av id 0 len sz) (da rows id (.live cs))
def x9(P:Program)(t:TypeId)(l c:V)(id:Nat)(rows:List Row)(k:KV):Prop:=
 match l,c with
 |.int _ l,.int _ c=> ∃e sz db z,bt P t=some e∧dW P e=some sz∧nH P e=some db∧ag P e=some z∧z.length=sz∧0≤l∧l≤c∧c≤4611686018427387904∧db*c≤281474976710656∧dB rows id∧
   k (.av id 0 l.toNat sz) (da rows id (.live (uN c.toNat z)))
 |_,_=>False
def b7(cs:List V)(off m:Nat):List V:=(cs.drop off).take m
def gT(sz:Nat)(x:V)(rows:List Row)(k:Nat→List V→Prop):Prop:=
 match x with
 |.aj=>k 0 []
 |.sl n cs=>cs.length=n*sz∧k n cs
 |.av id off n cG=>cG=sz∧ ∃cs,rows[id]?=some (.live cs)∧off+n*sz≤cs.length∧k n (b7 cs off (n*sz))
 |.str s=>sz=1∧k s.length (s.map aF)
 |.val v=>(∃a c,v=.slice (some a) 0 c)∧k 0 []
 |_=>False
def uZ(P:Program)(s d:TypeId)(x:V)(id:Nat)(rows:List Row)(k:KV):Prop:=
 match x with
 |.int _ n=> ∃kd,uint P d=some kd∧(P.underlying s).isSome=true∧k (.int kd (kd.wrap n)) rows
 |.str l=>(P.underlying s).isSome=true∧if fP P d then k x rows else
   ∃e,bt P d=some e∧uint P e=some .u8∧dB rows id∧k (.av id 0 l.length 1) (da rows id (.live (l.map aF)))
 |_=>fP P d=true∧(∃e,bt P s=some e∧uint P e=some .u8)∧gT 1 x rows fun _ cs=>(∀c∈cs,c.isByte=true)∧k (.str (cs.map toByte)) rows
def FL(P:Program)(t:TypeId)(s x:V)(id:Nat)(rows:List Row)(k:KV):Prop:=
 ∃e sz db z,bt P t=some e∧dW P e=some sz∧nH P e=some db∧ag P e=some z∧z.length=sz∧
  gT sz x rows fun m new=>(∀c∈new,c.one=true)∧
  match s with
  |.aj=>m*db≤140737488355328∧m≤1099511627776∧dB rows id∧k (.av id 0 m sz) (da rows id (.live new))
  |.av fi off n cG=>cG=sz∧(n+m)*db≤140737488355328∧n+m≤1099511627776∧dB rows id∧ ∃cs,rows[fi]?=some (.live cs)∧off+n*sz≤cs.length∧
    k (.av id 0 (n+m) sz) (da (rows.set fi .dead) id (.live (b7 cs off (n*sz)++new)))
  |_=>False
def FM(P:Program)(t:TypeId)(x:V)(k:V→Prop):Prop:=
 match x with
 |.str s=>fP P t=true∧k (.int .i64 s.length)
 |.aj=>(bt P t).isSome=true∧k (.int .i64 0)
 |.sl n _=>(bt P t).isSome=true∧k (.int .i64 n)
 |.av _ _ n _=>(bt P t).isSome=true∧k (.int .i64 n)
 |_=> ∃n e,x6 P t=some (n,e)∧k (.int .i64 n)
def Pp(P:Program)(t:TypeId)(d x:V)(rows:List Row)(k:KV):Prop:=
 match d with
 |.av id off n sz=> ∃e cs,bt P t=some e∧dW P e=some sz∧rows[id]?=some (.live cs)∧cs≠ []∧off+n*sz≤cs.length∧
   gT sz x rows fun m new=>m≤n∧(∀c∈new,c.one=true)∧k (.int .i64 m) (rows.set id (.live (eB cs off new)))
 |_=>False
def js(mx:Bool):List V→(V→Prop)→Prop
 |[.int kd a,.int cH b],k=>kd=cH∧k (.int kd (if mx then(if a<b then b else a)else(if b<a then b else a)))
 |[.int kd a,.int cH b,.int aaJ c],k=>kd=cH∧cH=aaJ∧k (.int kd (if mx then(if(if a<b then b else a)<c then c else(if a<b then b else a))else(if c<(if b<a then b else a)then c else(if b<a then b else a))))
 |_,_=>False
def ic(P:Program)(b:Builtin)(ts:Array TypeId)(args:List V)(id:Nat)(rows:List Row)(k:KV):Prop:=
 match b,args with
 |.len,[x]=> ∃t,ts[0]?=some t∧FM P t x fun v=>k v rows
 |.append,[s,x]=> ∃t t',ts[0]?=some t∧ts[1]?=some t'∧((bt P t').isSome=true∨fP P t'=true)∧FL P t s x id rows k
 |.copy,[d,x]=> ∃t,ts[0]?=some t∧Pp P t d x rows k
 |.min,args=>js false args fun v=>k v rows
 |.max,args=>js true args fun v=>k v rows
 |_,_=>False
end Go.VS
set_option linter.all false
namespace Go.VS
def lU(c:Ctx)(k:KV)(w:World)(ro:Nat→Prop)(ρ:bP)(v:Value)(w':World):Prop:=
 ∃r ad aY ρ',k r ad∧Good c ad w' aY ρ'∧Rd w' aY ρ' v r∧Ext w ro ρ w' aY ρ'
def ee(P:Program)(s:Sem Value)(c:Ctx)(k:KV)(w:World)(ro:Nat→Prop)(ρ:bP):Prop:=
 ∃v w',s.run P w=.ok v w'∧lU c k w ro ρ v w'
section
variable {P : Program} {c : Ctx} {rows : List Row} {w : World} {ro : Nat → Prop} {ρ : bP} {k : KV}
theorem ee.same{s:Sem Value}{v:Value}{r:V}(g:Good c rows w ro ρ)(hr:s.run P w=.ok v w)(hv:Rd w ro ρ v r)(hk:k r rows):ee P s c k w ro ρ:=
 ⟨v,w,hr,r,rows,ro,ρ,hk,g,hv,Ext.refl _ _ _⟩
theorem ga{u:Value}{kd:IntKind}{n:Int}(h:Rd w ro ρ u (.int kd n)):u=.int kd n:=by cases h;rfl
theorem oa{u:Value}{b:Bool}(h:Rd w ro ρ u (.bool b)):u=.bool b:=by cases h;rfl
theorem pC{u:Value}{s:List UInt8}(h:Rd w ro ρ u (.str s)):u=.string ⟨s.toArray⟩:=by cases h;rfl
theorem gX{u:Value}(h:Rd w ro ρ u .aj):u=.slice none 0 0:=by cases h;rfl
theorem sy{u:Value}(h:Rd w ro ρ u .bR):u=.pointer none:=by cases h;rfl
theorem qT{u:Value}{cs:List V}(h:Rd w ro ρ u (.agg cs)): ∃us:Array Value,u=.agg us∧bh w ro ρ us.toList cs:=by
 cases h with
 |agg h1 h2=>exact⟨_,rfl,by simpa using h1,fun i u x hu hx=>h2 i u x (by simpa using hu) hx⟩
theorem R7{u:Value}{cs:List V}(h:Rd w ro ρ u (.aB cs)): ∃us:Array Value,u=.tuple us∧bh w ro ρ us.toList cs:=by
 cases h with
 |aB h1 h2=>exact⟨_,rfl,by simpa using h1,fun i u x hu hx=>h2 i u x (by simpa using hu) hx⟩
theorem bh.agg{us:Array Value}{cs:List V}(h:bh w ro ρ us.toList cs):Rd w ro ρ (.agg us) (.agg cs):=
 .agg (by simpa using h.1) fun i u x hu hx=>h.2 i u x (by simpa using hu) hx
theorem bh.aB{us:Array Value}{cs:List V}(h:bh w ro ρ us.toList cs):Rd w ro ρ (.tuple us) (.aB cs):=
 .aB (by simpa using h.1) fun i u x hu hx=>h.2 i u x (by simpa using hu) hx
theorem bh.get{us:List Value}{xs:List V}(h:bh w ro ρ us xs){i:Nat}{x:V}(hx:xs[i]?=some x): ∃u,us[i]?=some u∧Rd w ro ρ u x:=by
 have aO:i<us.length:=by rw[h.1];exact(apN.1 hx).1
 exact⟨us[i],by simp[aO],h.2 i _ x (by simp[aO]) hx⟩
theorem bh.drop{us:List Value}{xs:List V}(h:bh w ro ρ us xs)(n:Nat):bh w ro ρ (us.drop n) (xs.drop n):=
 ⟨by simp[h.1],fun i u x hu hx=>h.2 (n+i) u x (by rwa[aqb]at hu) (by rwa[aqb]at hx)⟩
theorem bh.take{us:List Value}{xs:List V}(h:bh w ro ρ us xs)(n:Nat):bh w ro ρ (us.take n) (xs.take n):=
 ⟨by simp[h.1],fun i u x hu hx=>by
  rw[aqc]at hu hx
  split at hu<;>simp_all
  exact h.2 i u x hu hx⟩
theorem R8{op:BinOp}{kd cH:IntKind}{a b:Int}{xt:TypeId}{ox oy:Operand}(g:Good c rows w ro ρ)
  (h:tK op kd a cH b fun v=>k v rows):ee P (do eqGuard op xt ox oy (.int kd a) (.int cH b);binOp op xt (.int kd a) (.int cH b)) c k w ro ρ:=by
 have hp: ∀n:Nat,(0:Int)≤2^n:=fun n=>Int.pow_nonneg (by decide)
 cases op<;>simp only[tK]at h
 case add=>obtain⟨rfl,h⟩:=h;exact .same g (by simp[eqGuard,binOp,Op.intArith]) .int h
 case sub=>obtain⟨rfl,h⟩:=h;exact .same g (by simp[eqGuard,binOp,Op.intArith]) .int h
 case mul=>obtain⟨rfl,h⟩:=h;exact .same g (by simp[eqGuard,binOp,Op.intArith]) .int h
 case quo=>obtain⟨rfl,hb,h⟩:=h;exact .same g (by simp[eqGuard,binOp,Op.intDiv,hb]) .int h
 case rem=>obtain⟨rfl,hb,h⟩:=h;exact .same g (by simp[eqGuard,binOp,Op.intDiv,hb]) .int h
 case and=>obtain⟨rfl,h⟩:=h;exact .same g (by simp[eqGuard,binOp,Op.intBits,bits]) .int h
 case or=>obtain⟨rfl,h⟩:=h;exact .same g (by simp[eqGuard,binOp,Op.intBits,bits]) .int h
 case xor=>obtain⟨rfl,h⟩:=h;exact .same g (by simp[eqGuard,binOp,Op.intBits,bits]) .int h
 case andNot=>obtain⟨rfl,h⟩:=h;exact .same g (by simp[eqGuard,binOp,Op.intBits,bits]) .int h
 case shl=>obtain⟨hb,h⟩:=h;exact .same g (by simp[eqGuard,binOp,Op.shift,Int.not_lt.2 hb]) .int h
 case shr=>obtain⟨hb,h⟩:=h;exact .same g (by simp[eqGuard,binOp,Op.shift,Int.not_lt.2 hb,Int.fdiv_eq_ediv_of_nonneg _ (hp _)]) .int h
 case eql=>obtain⟨rfl,h⟩:=h;exact .same g (by simp[eqGuard,binOp,Op.intCmp]) .bool h
 case neq=>obtain⟨rfl,h⟩:=h;exact .same g (by simp[eqGuard,binOp,Op.intCmp]) .bool h
 case lss=>obtain⟨rfl,h⟩:=h;exact .same g (by simp[eqGuard,binOp,Op.intCmp]) .bool h
 case leq=>obtain⟨rfl,h⟩:=h;exact .same g (by simp[eqGuard,binOp,Op.intCmp]) .bool h
 case gtr=>obtain⟨rfl,h⟩:=h;exact .same g (by simp[eqGuard,binOp,Op.intCmp]) .bool h
 case geq=>obtain⟨rfl,h⟩:=h;exact .same g (by simp[eqGuard,binOp,Op.intCmp]) .bool h
theorem Pq(a b:List UInt8):(⟨a.toArray⟩:ByteArray)++⟨b.toArray⟩=⟨(a++b).toArray⟩:=by
 apply ByteArray.ext
 simp
theorem tQ(a:List UInt8):(⟨a.toArray⟩:ByteArray).size=a.length:=by simp[ByteArray.size]
theorem R9{op:BinOp}{a b:List UInt8}{xt:TypeId}{ox oy:Operand}(g:Good c rows w ro ρ)
  (h:vt op a b fun v=>k v rows):ee P (do eqGuard op xt ox oy (.string ⟨a.toArray⟩) (.string ⟨b.toArray⟩);binOp op xt (.string ⟨a.toArray⟩) (.string ⟨b.toArray⟩)) c k w ro ρ:=by
 cases op<;>simp only[vt]at h
 case add=>
  obtain⟨hb,h⟩:=h
  exact .same g (by simp[eqGuard,binOp,Op.stringOp,tQ,Pq];omega) .str h
 case eql=>exact .same g (by simp[eqGuard,binOp,Op.stringOp]) .bool h
 case neq=>exact .same g (by simp[eqGuard,binOp,Op.stringOp]) .bool h
 case lss=>exact .same g (by simp[eqGuard,binOp,Op.stringOp]) .bool h
 case leq=>exact .same g (by simp[eqGuard,binOp,Op.stringOp]) .bool h
 case gtr=>exact .same g (by simp[eqGuard,binOp,Op.stringOp]) .bool h
 case geq=>exact .same g (by simp[eqGuard,binOp,Op.stringOp]) .bool h
theorem UK{op:UnOp}{x:V}{u:Value}(g:Good c rows w ro ρ)(hx:Rd w ro ρ u x)(h:KH op x fun v=>k v rows):ee P (Op.unary op u) c k w ro ρ:=by
 unfold KH at h
 split at h
 ·obtain rfl:=ga hx;exact .same g (by simp[Op.unary,Op.intArith]) .int h
 ·obtain rfl:=ga hx;exact .same g (by simp[Op.unary,Op.intBits,bits]) .int h
 ·obtain rfl:=oa hx;exact .same g (by simp[Op.unary]) .bool h
 ·exact h.elim
theorem mH{t:TypeId}{b:Bool}(h:p9 P t=some b):(isAgg t).run P w=.ok b w:=by
 unfold p9 at h
 split at h
 ·rename_i hu;simp at h;subst h;simp[isAgg,run_underlying hu]
 ·rename_i hu;simp at h;subst h;simp[isAgg,run_underlying hu]
 ·rename_i d h1 h2 hu
  simp at h;subst h
  simp only[isAgg,Sem.run_bind,run_underlying hu,Result.andThen_ok]
  first|rfl|(split<;>simp_all)
 ·simp at h
theorem UL{t:TypeId}{n:Nat}(h:dW P t=some n): ∃i,P.info? t=some i∧i.size=n:=by
 simpa[dW]using h
theorem cz{t:TypeId}{n:Nat}(h:dW P t=some n):(sizeOf t).run P w=.ok n w:=by
 obtain⟨i,hi,rfl⟩:=UL h
 simp[sizeOf,typeInfo,hi]
theorem qi{t:TypeId}{cs:List V}{us:Array Value}{off:Nat}{r:V}(hr:bh w ro ρ us.toList cs)(h:jd P t cs off=some r):
  ∃v,(part t us off).run P w=.ok v w∧Rd w ro ρ v r:=by
 unfold jd at h
 split at h
 ·rename_i ha
  cases hn:dW P t with
  |none=>simp[hn]at h
  |some n=>
   simp[hn]at h
   subst h
   refine⟨.agg (us.extract off (off+n)),by simp[part,mH ha,cz hn],?_⟩
   refine bh.agg ?_
   have:(us.extract off (off+n)).toList=(us.toList.drop off).take n:=by simp
   rw[this]
   exact(hr.drop off).take n
 ·rename_i ha
  obtain⟨u,hu,ju⟩:=hr.get h
  have KK:us[off]?=some u:=by simpa using hu
  exact⟨u,by simp[part,mH ha,KK],ju⟩
 ·simp at h
theorem BX{t:TypeId}{cs:List V}{off:Nat}{k:V→Prop}(h:apart P t cs off k): ∃r,jd P t cs off=some r∧k r:=by
 unfold apart at h
 unfold jd
 split at h
 ·rename_i ha
  obtain⟨n,hn,hk⟩:=h
  exact⟨_,by simp[ha,hn],hk⟩
 ·rename_i ha
  obtain⟨v,hv,hk⟩:=h
  exact⟨v,by simp[ha,hv],hk⟩
 ·exact h.elim
theorem Mf{t:TypeId}{x:V}{u:Value}{f:Nat}(g:Good c rows w ro ρ)(hx:Rd w ro ρ u x)(h:tP P t x f fun v=>k v rows):ee P (Instr.field t u f) c k w ro ρ:=by
 unfold tP at h
 split at h
 ·obtain⟨ft,o,hf,h⟩:=h
  obtain⟨r,hr,hk⟩:=BX h
  obtain⟨us,rfl,fQ⟩:=qT hx
  obtain⟨v,hv,ju⟩:=qi (P:=P) fQ hr
  unfold tq at hf
  split at hf
  ·rename_i fs hu
   cases hd:fs[f]? with
   |none=>simp[hd]at hf
   |some d=>
    simp[hd]at hf
    obtain⟨rfl,rfl⟩:=hf
    exact .same g (by simp[Instr.field,run_underlying hu,hd,asAgg,hv]) ju hk
  ·simp at hf
 ·exact h.elim
theorem bQ{t e:TypeId}(h:bt P t=some e):P.underlying t=some (.slice e):=by
 unfold bt at h;split at h<;>simp_all
theorem pD{t e:TypeId}{n:Nat}(h:x6 P t=some (n,e)):P.underlying t=some (.array n e):=by
 unfold x6 at h;split at h<;>simp_all
theorem kU{t:TypeId}(h:fP P t=true):P.underlying t=some .string:=by
 unfold fP at h;split at h<;>simp_all
theorem yc{t:TypeId}{kd:IntKind}(h:uint P t=some kd):P.underlying t=some (.int kd):=by
 unfold uint at h;split at h<;>simp_all
theorem Mg{t:TypeId}{x ix:V}{u i:Value}(g:Good c rows w ro ρ)(hx:Rd w ro ρ u x)(hi:Rd w ro ρ i ix)(h:wO P t x ix fun v=>k v rows):ee P (Instr.index t u i) c k w ro ρ:=by
 cases ix with
 |int kd n=>
  obtain rfl:=ga hi
  cases x with
  |agg cs=>
   obtain⟨m,e,sz,hu,hs,h0,h1,h⟩:=h
   obtain⟨r,hr,hk⟩:=BX h
   obtain⟨us,rfl,fQ⟩:=qT hx
   obtain⟨v,hv,ju⟩:=qi (P:=P) fQ hr
   exact .same g (by simp[Instr.index,asIntOf,run_underlying (pD hu),h0,h1,cz hs,hv]) ju hk
  |str s=>
   obtain⟨hu,h0,b,hb,hk⟩:=h
   obtain rfl:=pC hx
   have gF:(ByteArray.mk s.toArray)[n.toNat]?=some b:=by
    have aO:n.toNat<s.length:=(apN.1 hb).1
    have e:=(apN.1 hb).2
    rw[getElem?_pos _ _ (by simpa[ByteArray.size]using aO)]
    simp[ByteArray.getElem_eq_getElem_data,e]
   exact .same g (by simp[Instr.index,asIntOf,run_underlying (kU hu),h0,gF]) .int hk
  |_=>exact False.elim h
 |_=>exact False.elim h
theorem vC{α:Type}(B:α→Sem (ForInStep (Option Bool×Unit)))(q:α→Option Bool)
  (hB: ∀a b,q a=some b→(B a).run P w=.ok (if b then .yield (none,())else .done (some false,())) w): ∀(l:List α) (r:Bool),
  l.foldr (fun a acc=>match q a with|some true=>acc|some false=>some false|none=>none) (some true)=some r→
  (forIn l (none,()) fun a _=>B a).run P w=.ok ((if r then none else some false),()) w
 |[],r,h=>by
  simp at h;subst h;rfl
 |a::l,r,h=>by
  simp only[List.foldr_cons]at h
  cases hq:q a with
  |none=>simp[hq]at h
  |some b=>
   have ha:=hB a b hq
   cases b with
   |true=>
    simp only[hq]at h
    simp[List.forIn_cons,ha,vC B q hB l r h]
   |false=>
    simp[hq]at h
    subst h
    simp[List.forIn_cons,ha]
theorem Xk(a b:List UInt8):((⟨a.toArray⟩:ByteArray)==⟨b.toArray⟩)=(a==b):=by
 rw[aqP]
 show(a.toArray==b.toArray)=true↔_
 simp
theorem FN{d D:Nat}(ih: ∀(t:TypeId) (x y:V) (u v:Value) (r:Bool),dH P d t x y=some r→Rd w ro ρ u x→Rd w ro ρ v y→(Op.equalIn D t u v).run P w=.ok r w)
  {t:TypeId} {fs:Array Field} {xs ys:List V} {us vs:Array Value} (hu:P.underlying t=some (.struct fs)) (hs:P.stoodInHeld t=false) (fQ:bh w ro ρ us.toList xs) (dV:bh w ro ρ vs.toList ys) {r:Bool}
  (h:fs.toList.foldr (fun f acc=>if f.name≠ "_" then(match jd P f.type xs f.offset,jd P f.type ys f.offset with
     |some a,some b=>(match dH P d f.type a b with|some true=>acc|some false=>some false|none=>none)
     |_,_=>none)else acc) (some true)=some r):(Op.equalIn (D+1) t (.agg us) (.agg vs)).run P w=.ok r w:=by
 have hl:=vC (P:=P) (w:=w) (fun f:Field=>if f.name= "_" then pure (ForInStep.yield (none,()))else do
     let a←part f.type us f.offset
     let b←part f.type vs f.offset
     let e←Op.equalIn D f.type a b
     if e=false then pure (ForInStep.done (some false,()))else pure (ForInStep.yield (none,())))
  (fun f=>if f.name≠ "_" then(match jd P f.type xs f.offset,jd P f.type ys f.offset with|some a,some b=>dH P d f.type a b|_,_=>none)else some true)
  (fun f b hq=>by
   by_cases hn:f.name= "_"
   ·simp[hn]at hq⊢;subst hq;rfl
   ·simp only[hn,ne_eq,not_false_eq_true,if_true]at hq
    split at hq
    ·rename_i a b' ha hb
     obtain⟨va,hva,ra⟩:=qi (P:=P) fQ ha
     obtain⟨vb,hvb,rb⟩:=qi (P:=P) dV hb
     have he:=ih f.type a b' va vb b hq ra rb
     cases b<;>simp[hn,hva,hvb,he]
    ·simp at hq) fs.toList r (by
   rw[←h]
   congr 1
   funext f acc
   by_cases hn:f.name= "_"
   ·simp[hn]
   ·simp only[hn,ne_eq,not_false_eq_true,if_true]
    split<;>split<;>simp_all)
 simp only[Op.equalIn,Sem.run_bind,run_underlying hu,Result.andThen_ok,run_program]
 simp[hs]
 simp at hl
 rw[hl]
 cases r<;>simp
theorem HI{d D:Nat}(ih: ∀(t:TypeId) (x y:V) (u v:Value) (r:Bool),dH P d t x y=some r→Rd w ro ρ u x→Rd w ro ρ v y→(Op.equalIn D t u v).run P w=.ok r w)
  {t e:TypeId} {n m:Nat} {xs ys:List V} {us vs:Array Value} (hu:P.underlying t=some (.array n e)) (hm:dW P e=some m) (fQ:bh w ro ρ us.toList xs) (dV:bh w ro ρ vs.toList ys) {r:Bool}
  (h:(List.range n).foldr (fun i acc=>match jd P e xs (i*m),jd P e ys (i*m)with
     |some a,some b=>(match dH P d e a b with|some true=>acc|some false=>some false|none=>none)
     |_,_=>none) (some true)=some r):(Op.equalIn (D+1) t (.agg us) (.agg vs)).run P w=.ok r w:=by
 have hl:=vC (P:=P) (w:=w) (fun i:Nat=>do
     let a←part e us (i*m)
     let b←part e vs (i*m)
     let q←Op.equalIn D e a b
     if q=false then pure (ForInStep.done (some false,()))else pure (ForInStep.yield (none,())))
  (fun i=>(match jd P e xs (i*m),jd P e ys (i*m)with|some a,some b=>dH P d e a b|_,_=>none))
  (fun i b hq=>by
    split at hq
    ·rename_i a b' ha hb
     obtain⟨va,hva,ra⟩:=qi (P:=P) fQ ha
     obtain⟨vb,hvb,rb⟩:=qi (P:=P) dV hb
     have he:=ih e a b' va vb b hq ra rb
     cases b<;>simp[hva,hvb,he]
    ·simp at hq) (List.range n) r (by
   rw[←h]
   congr 1
   funext i acc
   split<;>split<;>simp_all)
 simp only[Op.equalIn,Sem.run_bind,run_underlying hu,Result.andThen_ok,cz hm]
 simp
 rw[←List.range_eq_range']
 rw[hl]
 cases r<;>simp
theorem FO: ∀(d:Nat) (t:TypeId) (x y:V) (u v:Value) (r:Bool),dH P d t x y=some r→Rd w ro ρ u x→Rd w ro ρ v y→ ∀D,d≤D→(Op.equalIn D t u v).run P w=.ok r w
 |0,_,_,_,_,_,_,h,_,_,_,_=>by simp[dH]at h
 |d+1,t,x,y,u,v,r,h,hx,hy,0,hD=>by omega
 |d+1,t,x,y,u,v,r,h,hx,hy,D+1,hD=>by
  have ih: ∀(t:TypeId) (x y:V) (u v:Value) (r:Bool),dH P d t x y=some r→Rd w ro ρ u x→Rd w ro ρ v y→(Op.equalIn D t u v).run P w=.ok r w:=
   fun t x y u v r h hx hy=>FO d t x y u v r h hx hy D (by omega)
  unfold dH at h
  split at h
  ·rename_i hu;simp at h;subst h;obtain rfl:=oa hx;obtain rfl:=oa hy;simp[Op.equalIn,run_underlying hu]
  ·rename_i hu;split at h<;>simp at h
   rename_i hk;subst h;subst hk;obtain rfl:=ga hx;obtain rfl:=ga hy;simp[Op.equalIn,run_underlying hu]
  ·rename_i hu;simp at h;subst h;obtain rfl:=pC hx;obtain rfl:=pC hy;simp[Op.equalIn,run_underlying hu,Xk]
  ·rename_i hu;simp at h;subst h;obtain rfl:=sy hx;obtain rfl:=sy hy;simp[Op.equalIn,run_underlying hu]
  ·rename_i hu;simp at h;subst h;obtain rfl:=sy hx;cases hy;simp[Op.equalIn,run_underlying hu]
  ·rename_i hu;simp at h;subst h;obtain rfl:=sy hy;cases hx;simp[Op.equalIn,run_underlying hu]
  ·rename_i hu;simp at h;subst h;obtain rfl:=sy hx;cases hy;simp[Op.equalIn,run_underlying hu]
  ·rename_i hu;simp at h;subst h;obtain rfl:=sy hy;cases hx;simp[Op.equalIn,run_underlying hu]
  ·rename_i hu;simp at h;subst h;obtain rfl:=gX hx;obtain rfl:=gX hy;simp[Op.equalIn,run_underlying hu]
  ·rename_i hu;simp at h;subst h;cases hx;obtain rfl:=gX hy;simp[Op.equalIn,run_underlying hu]
  ·rename_i hu;simp at h;subst h;obtain rfl:=gX hx;cases hy;simp[Op.equalIn,run_underlying hu]
  ·rename_i hu;simp at h;subst h;obtain rfl:=gX hy;cases hx;simp[Op.equalIn,run_underlying hu]
  ·rename_i hu;simp at h;subst h;obtain rfl:=gX hx;cases hy;simp[Op.equalIn,run_underlying hu]
  ·rename_i hu;simp at h;subst h;obtain rfl:=gX hy;cases hx;simp[Op.equalIn,run_underlying hu]
  ·rename_i hu;simp at h;subst h;cases hx;cases hy;simp[Op.equalIn,run_underlying hu]
  ·rename_i hu;simp at h;subst h;cases hx;cases hy;simp[Op.equalIn,run_underlying hu]
  ·rename_i hu;simp at h;subst h;cases hx;cases hy;simp[Op.equalIn,run_underlying hu]
  ·rename_i hu;simp at h;subst h;cases hx;cases hy;simp[Op.equalIn,run_underlying hu]
  ·rename_i fs xs ys hu
   split at h
   ·simp at h
   rename_i hs
   obtain⟨us,rfl,fQ⟩:=qT hx
   obtain⟨vs,rfl,dV⟩:=qT hy
   exact FN ih hu (by simpa using hs) fQ dV h
  ·rename_i n e xs ys hu
   split at h
   ·simp at h
   rename_i m hm
   obtain⟨us,rfl,fQ⟩:=qT hx
   obtain⟨vs,rfl,dV⟩:=qT hy
   exact HI ih hu hm fQ dV h
  ·simp at h
theorem zX{op:BinOp}{xt:TypeId}{ox oy:Operand}{u v:Value}{x:V}{r:Bool}(he:x.eK=true)(hx:Rd w ro ρ u x)(hg:qS P xt x)
  (h:(Op.equal xt u v).run P w=.ok r w) (wx:op=.eql∨op=.neq):
  (do eqGuard op xt ox oy u v;binOp op xt u v).run P w=.ok (.bool (if op=.eql then r else !r)) w:=by
 by_cases hv: ∃a n c,x=.val (.slice a n c)
 ·obtain⟨a,n,c,rfl⟩:=hv
  obtain rfl:u=.slice a n c:=by cases hx;rfl
  have h1:(eqGuard op xt ox oy (.slice a n c) v).run P w=.ok () w:=by
   rcases wx with rfl|rfl<;>cases v<;>simp[eqGuard]
  have h2:(binOp op xt (.slice a n c) v).run P w=.ok (.bool (if op=.eql then r else !r)) w:=by
   rcases wx with rfl|rfl<;>simp[binOp,h]
  simp[h1,h2]
 have bw: ∀v,x≠.val v:=by
  rintro v rfl
  unfold V.eK at he
  split at he<;>simp_all
 have hn:u≠.nilIface:=by rintro rfl;cases hx<;>(try exact absurd rfl (bw _))<;>simp[V.eK]at he
 have h1:(eqGuard op xt ox oy u v).run P w=.ok () w:=by
  cases hx<;>(try exact absurd rfl (bw _))<;>simp[V.eK]at he<;>(try(rcases wx with rfl|rfl<;>cases v<;>simp[eqGuard]))<;>(simp[qS]at hg;simp[hg])
 have h2:(binOp op xt u v).run P w=.ok (.bool (if op=.eql then r else !r)) w:=by
  rcases wx with rfl|rfl<;>cases hx<;>(try exact absurd rfl (bw _))<;>simp[V.eK]at he<;>simp[binOp,h]
 simp[h1,h2]
theorem Sa{op:BinOp}{xt:TypeId}{ox oy:Operand}{x y:V}{u v:Value}(g:Good c rows w ro ρ)(hx:Rd w ro ρ u x)(hy:Rd w ro ρ v y)
  (h:vA P op xt x y fun v=>k v rows):ee P (do eqGuard op xt ox oy u v;binOp op xt u v) c k w ro ρ:=by
 unfold vA at h
 split at h
 ·obtain rfl:=ga hx;obtain rfl:=ga hy;exact R8 g h
 ·obtain rfl:=pC hx;obtain rfl:=pC hy;exact R9 g h
 ·split at h
  ·obtain⟨he,hg,r,hr,hk⟩:=h
   have hq:=FO (P:=P) 20 xt _ _ u v r hr hx hy Op.maxDepth (by unfold Op.maxDepth;omega)
   exact .same g (zX (ox:=ox) (oy:=oy) he hx hg hq (.inl rfl)) .bool (by simpa using hk)
  ·obtain⟨he,hg,r,hr,hk⟩:=h
   have hq:=FO (P:=P) 20 xt _ _ u v r hr hx hy Op.maxDepth (by unfold Op.maxDepth;omega)
   exact .same g (zX (ox:=ox) (oy:=oy) he hx hg hq (.inr rfl)) .bool (by simpa using hk)
  ·exact h.elim
end
end Go.VS
set_option linter.all false
namespace Go.VS
def ct(w:World)(ro:Nat→Prop)(ρ:bP)(b o:Nat)(cs:List V):Prop:=
 ∀(i:Nat) v,cs[i]?=some v→ ∃u,w.cell? ⟨b,o+i,none⟩=some u∧Rd w ro ρ u v
section
variable {P : Program} {c : Ctx} {rows : List Row} {w : World} {ro : Nat → Prop} {ρ : bP} {k : KV}
theorem mG.pR{x:tO}{cs:List V}(h:mG w ro ρ x cs):ct w ro ρ x.b x.o cs:=by
 obtain⟨C,e,fr,h1,h2,h3,h4,h5⟩:=h
 intro i v hv
 obtain⟨u,hu,hr⟩:=h5 i v hv
 exact⟨u,by simp[World.cell?,h1,hu],hr⟩
theorem ext_nil(w:World)(ro:Nat→Prop)(ρ:bP):Ext w ro [] w ro ρ:=⟨fun _ h=>h,fun _ _=>rfl,fun id y h=>by simp at h⟩
theorem Rd.Pr{u:Value}{x:V}(h:Rd w ro [] u x):Rd w ro ρ u x:=h.ext (ext_nil w ro ρ)
theorem ct.drop{b o:Nat}{cs:List V}(h:ct w ro ρ b o cs)(n:Nat):ct w ro ρ b (o+n) (cs.drop n):=by
 intro i v hv
 rw[aqb]at hv
 obtain⟨u,hu,hr⟩:=h (n+i) v hv
 exact⟨u,by rwa[show o+(n+i)=o+n+i by omega]at hu,hr⟩
theorem ct.take{b o:Nat}{cs:List V}(h:ct w ro ρ b o cs)(n:Nat):ct w ro ρ b o (cs.take n):=by
 intro i v hv
 rw[aqc]at hv
 split at hv
 ·exact h i v hv
 ·simp at hv
theorem wP{u:Value}{cs:List V}(h:Rd w ro ρ u (.aL cs)): ∃b o,u=.pointer (some ⟨b,o,none⟩)∧ro b∧ct w ro [] b o cs:=by
 cases h with
 |@aL _ a us _ h1 h2 h3 h4 h5=>
  obtain⟨b,o,s⟩:=a
  simp at h1
  subst h1
  refine⟨b,o,rfl,h2,fun i v hv=>?_⟩
  have aO:i<us.length:=by rw[h3];exact(apN.1 hv).1
  exact⟨us[i],h4 i _ (by simp[aO]),h5 i _ v (by simp[aO]) hv⟩
theorem ct.list{b o:Nat}{cs:List V}(h:ct w ro ρ b o cs): ∃us:List Value,us.length=cs.length∧(∀(i:Nat) u,us[i]?=some u→w.cell? ⟨b,o+i,none⟩=some u)∧
  ∀(i:Nat) u x,us[i]?=some u→cs[i]?=some x→Rd w ro ρ u x:=by
 induction cs generalizing o with
 |nil=>exact⟨[],rfl,fun i u h=>by simp at h,fun i u x h=>by simp at h⟩
 |cons v cs ih=>
  obtain⟨u,hu,hr⟩:=h 0 v rfl
  obtain⟨us,h1,h2,h3⟩:=ih (o:=o+1) (fun i x hx=>by
   obtain⟨y,hy,hr⟩:=h (i+1) x (by simpa using hx)
   exact⟨y,by rwa[show o+(i+1)=o+1+i by omega]at hy,hr⟩)
  refine⟨u::us,by simp[h1],fun i y hy=>?_,fun i y x hy hx=>?_⟩
  ·cases i with
   |zero=>simp at hy;subst hy;exact hu
   |succ i=>have:=h2 i y (by simpa using hy);rwa[show o+1+i=o+(i+1) by omega]at this
  ·cases i with
   |zero=>simp at hy hx;subst hy;subst hx;exact hr
   |succ i=>exact h3 i y x (by simpa using hy) (by simpa using hx)
theorem ct.aL{b o:Nat}{cs:List V}(h:ct w ro [] b o cs)(gd:ro b):Rd w ro ρ (.pointer (some ⟨b,o,none⟩)) (.aL cs):=by
 obtain⟨us,h1,h2,h3⟩:=h.list
 exact .aL rfl gd h1 h2 h3
theorem ct.sl{b o n cap:Nat}{cs:List V}(h:ct w ro [] b o cs)(gd:ro b)(hn:n≤cap):Rd w ro ρ (.slice (some ⟨b,o,none⟩) n cap) (.sl n cs):=by
 obtain⟨us,h1,h2,h3⟩:=h.list
 exact .sl rfl gd hn h1 h2 h3
theorem H2{u:Value}{n:Nat}{cs:List V}(h:Rd w ro ρ u (.sl n cs)):(u=.slice none 0 0∧n=0∧cs=[])∨
  (∃b o cap,u=.slice (some ⟨b,o,none⟩) n cap∧ro b∧n≤cap∧ct w ro [] b o cs)∨ ∃a cap,u=.slice (some a) 0 cap∧n=0∧cs=[]:=by
 cases h with
 |lB=>exact .inl ⟨rfl,rfl,rfl⟩
 |@oO _ a cap=>exact .inr (.inr ⟨a,cap,rfl,rfl,rfl⟩)
 |@sl _ a _ cap us _ h1 h2 h3 h4 h5 h6=>
  obtain⟨b,o,s⟩:=a
  simp at h1
  subst h1
  refine .inr (.inl ⟨b,o,cap,rfl,h2,h3,fun i v hv=>?_⟩)
  have aO:i<us.length:=by rw[h4];exact(apN.1 hv).1
  exact⟨us[i],h5 i _ (by simp[aO]),h6 i _ v (by simp[aO]) hv⟩
theorem vP{u:Value}{id off:Nat}{cs:List V}(g:Good c rows w ro ρ)(h:Rd w ro ρ u (.ref id off))(hl:rows[id]?=some (.live cs)):
  ∃x,ρ[id]?=some (.on x)∧mG w ro ρ x cs∧u=.pointer (some ⟨x.b,x.o+off,none⟩):=by
 obtain⟨y,hy,hn,hd,bA,hv⟩:=g.live hl
 cases h with
 |ref h1 h2 h3 h4=>
  rw[hy]at h1
  simp at h1
  subst h1
  cases y with
  |bu=>exact absurd rfl hn
  |dead=>exact absurd rfl hd
  |mU=>exact absurd rfl h3
  |on x=>exact⟨x,hy,bA x rfl,by rw[h4 x rfl]⟩
theorem vO{u:Value}{id off n sz:Nat}{cs:List V}(g:Good c rows w ro ρ)(h:Rd w ro ρ u (.av id off n sz))(hl:rows[id]?=some (.live cs)):
  (u=.slice none 0 0∧n=0∧cs=[]∧ρ[id]?=some .mU)∨
  ∃x o cap,ρ[id]?=some (.on x)∧mG w ro ρ x cs∧u=.slice (some ⟨x.b,o,none⟩) n cap∧(cap=0∨o=x.o+off)∧n≤cap∧o+cap*sz≤x.m:=by
 obtain⟨y,hy,hn,hd,bA,hv⟩:=g.live hl
 cases h with
 |iw h1 h2 h3=>
  rw[hy]at h1
  simp at h1
  subst h1
  cases y with
  |bu=>exact absurd rfl hn
  |dead=>exact absurd rfl hd
  |mU=>exact .inl ⟨rfl,rfl,hv rfl,hy⟩
  |on x=>exact absurd rfl (h3 x)
 |@av _ _ _ _ _ a cap _ h1 h2 h3 hle h4=>
  rw[hy]at h1
  simp at h1
  subst h1
  cases y with
  |bu=>exact absurd rfl hn
  |dead=>exact absurd rfl hd
  |mU=>exact absurd rfl h3
  |on x=>
   obtain⟨e1,e2,e3,e4,e5⟩:=h4 x rfl
   obtain⟨b,o,s⟩:=a
   simp at e1 e2
   subst e1;subst e2
   exact .inr ⟨x,o,cap,hy,bA x rfl,rfl,e3,e4,e5⟩
theorem add_eq(b o i:Nat):(⟨b,o,none⟩:Addr).add i=⟨b,o+i,none⟩:=by
 unfold Addr.add
 split
 ·rename_i h;subst h;rfl
 ·rfl
theorem mV{b o:Nat}{cs:List V}(h:ct w ro ρ b o cs): ∃us:List Value,(∀w',w'.heap=w.heap→(loadCells ⟨b,o,none⟩ cs.length).run P w'=.ok us.toArray w')∧bh w ro ρ us cs:=by
 obtain⟨us,h1,h2,h3⟩:=h.list
 refine⟨us,fun w' hw=>?_,h1,h3⟩
 rw[←h1]
 exact run_loadCells_list w' _ us fun j v hv=>by rw[add_eq];have:=h2 j v hv;simpa[World.cell?,hw]using this
theorem tR{b o:Nat}{cs:List V}(h:ct w ro ρ b o cs): ∃us:List Value,(loadCells ⟨b,o,none⟩ cs.length).run P w=.ok us.toArray w∧bh w ro ρ us cs:=by
 obtain⟨us,h1,h2⟩:=mV (P:=P) h
 exact⟨us,h1 w rfl,h2⟩
theorem BY{t:TypeId}{b o off:Nat}{cs:List V}(g:Good c rows w ro ρ)(hc:ct w ro ρ b o cs)(h:gr P t cs off fun v=>k v rows):
  ee P (loadVar t ⟨b,o+off,none⟩) c k w ro ρ:=by
 unfold gr at h
 split at h
 ·rename_i ha
  obtain⟨n,hn,hle,hk⟩:=h
  obtain⟨us,hl,fQ⟩:=tR (P:=P) ((hc.drop off).take n)
  have hlen:((cs.drop off).take n).length=n:=by simp;omega
  rw[hlen]at hl
  exact .same (v:=.agg us.toArray) g (by simp[loadVar,mH ha,cz hn,hl]) (bh.agg (by simpa using fQ)) hk
 ·rename_i ha
  obtain⟨v,hv,hk⟩:=h
  obtain⟨u,hu,hr⟩:=hc off v hv
  exact .same g (by simp[loadVar,mH ha,hu]) hr hk
 ·exact h.elim
theorem Ps{t:TypeId}{x:V}{u:Value}(g:Good c rows w ro ρ)(hx:Rd w ro ρ u x)(h:xz P t x rows k):ee P (Instr.loadAt t u) c k w ro ρ:=by
 cases x with
 |ref id off=>
  obtain⟨cs,hl,bw,h⟩:=h
  obtain⟨x,fp,bA,rfl⟩:=vP g hx hl
  have:=BY g bA.pR h
  simpa[Instr.loadAt,Instr.sureAddr,ee]using this
 |aL cs=>
  obtain⟨b,o,rfl,gd,bA⟩:=wP hx
  have:=BY (b:=b) (o:=o) g (fun i v hv=>by obtain⟨u,hu,hr⟩:=bA i v hv;exact⟨u,hu,hr.Pr⟩) h
  simpa[Instr.loadAt,Instr.sureAddr,ee]using this
 |_=>exact False.elim h
theorem EB{t:TypeId}{x:V}{u:Value}{f:Nat}(g:Good c rows w ro ρ)(hx:Rd w ro ρ u x)(h:x8 P t x f rows k):ee P (Instr.fieldAt t u f) c k w ro ρ:=by
 obtain⟨ft,o,n,hf,hs,h⟩:=h
 unfold tq at hf
 split at hf
 ·rename_i fs hu
  cases hd:fs[f]? with
  |none=>simp[hd]at hf
  |some d=>
   simp[hd]at hf
   obtain⟨rfl,rfl⟩:=hf
   have pU: ∀a:Addr,(Instr.fieldAt t (.pointer (some a)) f).run P w=.ok (.pointer (some (a.add d.offset))) w:=by
    intro a
    simp[Instr.fieldAt,run_underlying hu,hd,Instr.sureAddr,fieldPlace,cz hs]
   cases x with
   |ref id off=>
    cases hx with
    |@ref _ _ _ a y h1 h2 h3 h4=>
     refine .same g (pU a) (.ref h1 h2 h3 fun x hx=>?_) h
     rw[h4 x hx,add_eq,aq8]
   |aL cs=>
    obtain⟨b,o,rfl,gd,bA⟩:=wP hx
    refine .same g (pU _) ?_ h
    rw[add_eq]
    exact(bA.drop d.offset).aL gd
   |_=>exact False.elim h
 ·simp at hf
theorem ED{t:TypeId}{x ix:V}{u i:Value}(g:Good c rows w ro ρ)(hx:Rd w ro ρ u x)(hi:Rd w ro ρ i ix)(h:x7 P t x ix rows k):ee P (Instr.indexAt t u i) c k w ro ρ:=by
 cases ix with
 |int kd n=>
  obtain rfl:=ga hi
  cases x with
  |sl m cs=>
   obtain⟨e,sz,hu,hs,h0,h1,hk⟩:=h
   rcases H2 hx with⟨-,rfl,-⟩|⟨b,o,cap,rfl,gd,tS,bA⟩|⟨a,cap,-,rfl,-⟩
   ·omega
   rotate_left
   ·omega
   ·refine .same g (by simp[Instr.indexAt,asIntOf,run_underlying (bQ hu),h0,h1,cz hs,add_eq];rfl) ?_ hk
    exact(bA.drop _).aL gd
  |av id off m sz=>
   obtain⟨e,hu,hs,h0,h1,hk⟩:=h
   cases hx with
   |iw=>omega
   |@av _ _ _ _ _ a cap y q1 q2 q3 KN q4=>
    refine .same g (by simp[Instr.indexAt,asIntOf,run_underlying (bQ hu),h0,h1,cz hs];rfl) (.ref q1 q2 q3 fun x hx=>?_) hk
    obtain⟨e1,e2,e3,e4,e5⟩:=q4 x hx
    obtain⟨b,o,s⟩:=a
    simp at e1 e2 e3
    subst e1;subst e2
    rw[add_eq]
    congr 1
    omega
  |ref id off=>
   obtain⟨m,e,sz,hu,hs,h0,h1,hk⟩:=h
   cases hx with
   |@ref _ _ _ a y q1 q2 q3 q4=>
    refine .same g (by simp[Instr.indexAt,asIntOf,Instr.sureAddr,run_underlying (pD hu),h0,h1,cz hs];rfl) (.ref q1 q2 q3 fun x hx=>?_) hk
    rw[q4 x hx,add_eq,aq8]
  |aL cs=>
   obtain⟨m,e,sz,hu,hs,h0,h1,hk⟩:=h
   obtain⟨b,o,rfl,gd,bA⟩:=wP hx
   refine .same g (by simp[Instr.indexAt,asIntOf,Instr.sureAddr,run_underlying (pD hu),h0,h1,cz hs,add_eq];rfl) ?_ hk
   exact(bA.drop _).aL gd
  |_=>exact False.elim h
 |_=>exact False.elim h
theorem Sd{t ty:TypeId}{x:V}{u:Value}(g:Good c rows w ro ρ)(hx:Rd w ro ρ u x)(h:FM P t x fun v=>k v rows):ee P (Builtin.len_ #[t] ty #[u]) c k w ro ρ:=by
 have wQ: ∀(a:Option Addr) (n cap:Nat),(bt P t).isSome=true→(Builtin.len_ #[t] ty #[.slice a n cap]).run P w=.ok (.int .i64 n) w:=by
  intro a n cap hs
  obtain⟨e,he⟩:=aqQ.1 hs
  simp[Builtin.len_,run_underlying (bQ he),goInt]
 have vD:(∃n e,x6 P t=some (n,e)∧k (.int .i64 n) rows)→ee P (Builtin.len_ #[t] ty #[u]) c k w ro ρ:=by
  rintro⟨n,e,hu,hk⟩
  exact .same g (by simp[Builtin.len_,run_underlying (pD hu),goInt]) .int hk
 cases x with
 |str s=>
  obtain rfl:=pC hx
  exact .same g (by simp[Builtin.len_,run_underlying (kU h.1),goInt,tQ]) .int h.2
 |aj=>obtain rfl:=gX hx;exact .same g (wQ _ _ _ h.1) .int (by simpa using h.2)
 |sl n cs=>
  rcases H2 hx with⟨rfl,rfl,-⟩|⟨b,o,cap,rfl,-⟩|⟨a,cap,rfl,rfl,-⟩
  ·exact .same g (wQ _ _ _ h.1) .int h.2
  ·exact .same g (wQ _ _ _ h.1) .int h.2
  ·exact .same g (wQ _ _ _ h.1) .int h.2
 |av id off n sz=>
  cases hx with
  |iw=>exact .same g (wQ _ _ _ h.1) .int h.2
  |av=>exact .same g (wQ _ _ _ h.1) .int h.2
 |_=>exact vD h
end
end Go.VS
set_option linter.all false
namespace Go.VS
section
variable {P : Program} {c : Ctx} {rows : List Row} {w : World} {ro : Nat → Prop} {ρ : bP} {k : KV}
theorem BZ{u:Value}{x:V}(h:Rd w ro ρ u x)(ho:x.one=true):u.oneCell'=true:=by
 cases h<;>simp_all[V.one,Value.oneCell']
theorem bh.Nz{us:List Value}{xs:List V}(h:bh w ro ρ us xs)(ho: ∀x∈xs,x.one=true): ∀u∈us,u.oneCell'=true:=by
 intro u hu
 obtain⟨i,hi,rfl⟩:=arF.1 hu
 have aO:i<xs.length:=by rw[←h.1];exact hi
 exact BZ (h.2 i _ xs[i] (by simp[hi]) (by simp[aO])) (ho _ (by simp))
theorem zY{u:Value}{x:V}{xs:List V}(h:Rd w ro ρ u x)(hx:eH x=some xs):bh w ro ρ u.cells.toList xs:=by
 cases x with
 |agg cs=>
  simp[eH]at hx
  subst hx
  obtain⟨us,rfl,fQ⟩:=qT h
  exact fQ
 |_=>
  all_goals
   simp only[eH]at hx
   split at hx
   ·simp at hx
    subst hx
    rename_i ho
    have hu:=BZ h ho
    have he:u.cells=#[u]:=by cases u<;>simp_all[Value.cells,Value.oneCell']
    rw[he]
    exact⟨rfl,fun i a b ha hb=>by cases i<;>simp_all⟩
   ·simp at hx
theorem B0: ∀(vs cs:List V) (o:Nat),(eB cs o vs).length=cs.length
 |[],_,_=>rfl
 |v::vs,cs,o=>by rw[eB,B0 vs];simp
theorem nZ: ∀(vs cs:List V) (o j:Nat),o+vs.length≤cs.length→(eB cs o vs)[j]?=if o≤j∧j<o+vs.length then vs[j-o]? else cs[j]?
 |[],cs,o,j,_=>by simp[eB];omega
 |v::vs,cs,o,j,h=>by
  simp at h
  rw[eB,nZ vs _ _ j (by simp;omega)]
  by_cases h1:o+1≤j∧j<o+1+vs.length
  ·rw[if_pos h1,if_pos (by simp;omega)]
   rw[show j-o=(j-(o+1))+1 by omega,aqM]
  ·rw[if_neg h1,aqB]
   by_cases h2:o=j
   ·subst h2
    rw[if_pos rfl,if_pos (by omega),if_pos (by simp)]
    simp
   ·rw[if_neg h2,if_neg (by simp;omega)]
theorem l9{b o:Nat}{e:TypeId}{fr:Nat×Nat}: ∀(vs:List Value) (i:Nat) (w:World) (C:Array Value),(∀v∈vs,v.oneCell'=true)→w.heap[b]?=some (.cells C e fr)→
  (∀i,i<C.size→ ¬(fr.1≤i∧i<fr.2))→o+i+vs.length≤C.size→ ∃w' C',(storeCells ⟨b,o,none⟩ vs i).run P w=.ok () w'∧w'.os=w.os∧w'.tape=w.tape∧w'.output=w.output∧
   w'.heap.size=w.heap.size∧(∀k,k≠b→w'.heap[k]?=w.heap[k]?)∧w'.heap[b]?=some (.cells C' e fr)∧C'.size=C.size∧
   ∀j:Nat,C'[j]?=if o+i≤j∧j<o+i+vs.length then vs[j-(o+i)]? else C[j]?
 |[],i,w,C,_,hb,_,_=>⟨w,C,rfl,rfl,rfl,rfl,rfl,fun _ _=>rfl,hb,rfl,fun j=>by simp;omega⟩
 |v::vs,i,w,C,h1,hb,hf,hle=>by
  simp at hle
  have aO:o+i<C.size:=by omega
  have acp:w.cell? ⟨b,o+i,none⟩=some C[o+i]:=by simp[World.cell?,hb,aO]
  have af6:w.frozen? ⟨b,o+i,none⟩=false:=by
   have:=hf (o+i) aO
   simp[World.frozen?,hb];omega
  have QC:b<w.heap.size:=(ap4.1 hb).1
  have pc:(w.setCell ⟨b,o+i,none⟩ v).heap[b]?=some (.cells (C.setIfInBounds (o+i) v) e fr):=by
   simp[World.setCell,arC,hb]
  have rz:(store ((⟨b,o,none⟩:Addr).add i) v).run P w=.ok () (w.setCell ⟨b,o+i,none⟩ v):=by
   rw[add_eq,run_store P w _ v _ (h1 v (by simp)),acp]
   simp[af6]
  obtain⟨w',C',r1,r2,r3,r4,r5,r6,r7,r8,r9⟩:=l9 (b:=b) (o:=o) vs (i+1) (w.setCell ⟨b,o+i,none⟩ v) (C.setIfInBounds (o+i) v) (fun x hx=>h1 x (by simp[hx])) pc
   (by simpa using hf) (by simp;omega)
  refine⟨w',C',?_,r2,r3,r4,by rw[r5];simp[World.setCell],fun k hk=>?_,r7,by simpa using r8,fun j=>?_⟩
  ·simp only[storeCells,Sem.run_bind,rz,Result.andThen_ok,r1]
  ·rw[r6 k hk]
   simp only[World.setCell,arC]
   rw[if_neg (fun h=>hk h.symm)]
  ·rw[r9]
   by_cases q:o+(i+1)≤j∧j<o+(i+1)+vs.length
   ·rw[if_pos q,if_pos (by simp;omega),show j-(o+i)=(j-(o+(i+1)))+1 by omega,aqM]
   ·rw[if_neg q,Array.getElem?_setIfInBounds]
    by_cases q2:o+i=j
    ·subst q2
     rw[if_pos rfl,if_pos (by simp[aO]),if_pos (by simp)]
     simp
    ·rw[if_neg q2,if_neg (by simp;omega)]
theorem Good.stored(g:Good c rows w ro ρ){id off:Nat}{x:tO}{cs xs:List V}{vs:List Value}(hl:rows[id]?=some (.live cs))(hx:ρ[id]?=some (.on x))(dV:bh w ro ρ vs xs)
  (ho: ∀y∈xs,y.one=true) (hle:off+xs.length≤cs.length): ∃w',(storeCells ⟨x.b,x.o+off,none⟩ vs).run P w=.ok () w'∧Good c (rows.set id (.live (eB cs off xs))) w' ro ρ∧Ext w ro ρ w' ro ρ:=by
 obtain⟨iy,lR,bA⟩:=g.alive hx
 rw[hl]at lR
 simp at lR
 subst lR
 obtain⟨C,e,fr,h1,h2,h3,h4,h5⟩:=bA
 obtain⟨w',C',r1,r2,r3,r4,r5,r6,r7,r8,r9⟩:=l9 (P:=P) (b:=x.b) (o:=x.o+off) vs 0 w C (dV.Nz ho) h1 (by rw[h2];exact h3) (by rw[h2];have:=dV.1;omega)
 refine⟨w',r1,g.store hl hx r2 r3 r4 r5 r6 fun cY=>⟨C',e,fr,r7,by rw[r8,h2],h3,by rw[B0];exact h4,fun i v hv=>?_⟩⟩
 rw[nZ _ _ _ _ hle]at hv
 have hlen:=dV.1
 by_cases q:off≤i∧i<off+xs.length
 ·rw[if_pos q]at hv
  obtain⟨u,hu,hr⟩:=dV.get hv
  refine⟨u,?_,hr.ext cY⟩
  rw[r9,if_pos (by omega),show x.o+i-(x.o+off+0)=i-off by omega]
  exact hu
 ·rw[if_neg q]at hv
  obtain⟨u,hu,hr⟩:=h5 i v hv
  refine⟨u,?_,hr.ext cY⟩
  rw[r9,if_neg (by omega)]
  exact hu
def Pu(P:Program)(s:Sem Unit)(c:Ctx)(k:KV)(w:World)(ro:Nat→Prop)(ρ:bP):Prop:=
 ∃w',s.run P w=.ok () w'∧lU c k w ro ρ undef w'
theorem Mh{t:TypeId}{x v:V}{u uv:Value}(g:Good c rows w ro ρ)(hx:Rd w ro ρ u x)(hv:Rd w ro ρ uv v)(h:KI P t x v rows k):Pu P (Instr.storeAt t u uv) c k w ro ρ:=by
 cases x with
 |ref id off=>
  obtain⟨cs,vs,n,hl,bw,hvc,hs,hlen,hle,ho,hk⟩:=h
  obtain⟨x,fp,bA,rfl⟩:=vP g hx hl
  have fQ:=zY hv hvc
  obtain⟨w',hr,hg,he⟩:=g.stored (P:=P) (off:=off) hl fp fQ ho (by omega)
  refine⟨w',?_,.aa,_,ro,ρ,hk,hg,.aa,he⟩
  have cm:uv.cells.size=n:=by have:=fQ.1;simp at this;omega
  simp[Instr.storeAt,Instr.sureAddr,storeVar,cz hs,cm,hr]
 |_=>exact False.elim h
theorem Good.newRow(g:Good c rows w ro ρ){id:Nat}(hf:dB rows id){us:List Value}{xs:List V}(h:bh w ro ρ us xs)(rest:List Value)(e:TypeId):
  Good c (da rows id (.live xs)) (w.alloc (.cells (us++rest).toArray e)) ro (da ρ id (.on ⟨w.heap.size,0,us.length+rest.length⟩))∧
   Ext w ro ρ (w.alloc (.cells (us++rest).toArray e)) ro (da ρ id (.on ⟨w.heap.size,0,us.length+rest.length⟩)):=by
 obtain⟨g1,e1⟩:=g.push (.cells (us++rest).toArray e)
 have af7: ¬ro w.heap.size:=fun hr=>by have:=g.iN _ hr;omega
 obtain⟨g2,e2⟩:=g1.add (x:=⟨w.heap.size,0,us.length+rest.length⟩) (cs:=xs) hf (by
   refine⟨(us++rest).toArray,e,(0,0),by simp,by simp,fun i _=>by omega,by have:=h.1;simp;omega,fun i v hv=>?_⟩
   obtain⟨u,hu,hr⟩:=h.get hv
   refine⟨u,?_,hr.ext e1⟩
   have aO:=(apN.1 hu).1
   simp[ap7 aO,hu]) af7
  (fun j y hy hb=>by have:=g.oP hy;simp at hb;omega) (.inr g.size)
 exact⟨g2,e1.trans e2⟩
theorem qj(g:Good c rows w ro ρ){id:Nat}(hf:dB rows id)(p:Pl):(da ρ id p)[id]?=some p:=by
 rw[bH (g.EA hf),if_pos rfl]
theorem B3{id:Nat}{us:Array Value}{xs:List V}{e:TypeId}(g:Good c rows w ro ρ)(hf:dB rows id)(h:bh w ro ρ us.toList xs)(hk:k (.ref id 0) (da rows id (.live xs))):
  ee P (do pure (.pointer (some (←Go.newRow e us)))) c k w ro ρ:=by
 obtain⟨g1,e1⟩:=g.newRow hf h [] e
 refine⟨.pointer (some ⟨w.heap.size,0,none⟩),_,?_,.ref id 0,_,ro,_,hk,g1,?_,e1⟩
 ·simp[Go.newRow]
 ·exact .ref (qj g hf _) (fun h=>by cases h) (fun h=>by cases h) (fun x hx=>by cases hx;rfl)
theorem Se{v:V}{u:Value}{id:Nat}{e:TypeId}(g:Good c rows w ro ρ)(hv:Rd w ro ρ u v)(h:UJ v id rows k):ee P (Instr.box e u) c k w ro ρ:=by
 obtain⟨vs,hvc,hf,hk⟩:=h
 exact B3 g hf (zY hv hvc) hk
theorem GZ(u:Value):Rd w ro ρ u (ku u):=by
 unfold ku
 split
 ·exact .bool
 ·exact .int
 ·rename_i s
  have:(.string s:Value)=.string ⟨s.data.toList.toArray⟩:=by simp
  rw[this]
  exact .str
 ·exact .bR
 ·exact .aj
 ·exact .aq
 ·exact .cL
 ·exact .val
theorem iK(us:List Value):bh w ro ρ us (us.map ku):=
 ⟨by simp,fun i u x hu hx=>by simp[hu]at hx;subst hx;exact GZ u⟩
theorem Pv(u:Value):Rd w ro ρ u (ofConst u):=by
 unfold ofConst
 split
 ·exact bh.agg (iK _)
 ·exact bh.aB (iK _)
 ·exact GZ _
theorem qU{t:TypeId}{z:List V}(h:ag P t=some z): ∃v,(zeroValue t).run P w=.ok v w∧z=v.cells.toList.map ku∧ ∃i,P.info? t=some i:=by
 unfold ag at h
 cases hi:P.info? t with
 |none=>simp[hi]at h
 |some i=>
  simp only[hi,Option.bind_some]at h
  cases hz:i.zero with
  |none=>simp[hz]at h
  |some v=>
   simp[hz]at h
   exact⟨v,by simp[zeroValue,typeInfo,hi,hz],h.symm,i,rfl⟩
theorem Mi{t:TypeId}{id:Nat}{z:List V}(g:Good c rows w ro ρ)(hz:ag P t=some z)(hf:dB rows id)(hk:k (.ref id 0) (da rows id (.live z))):
  ee P (Instr.alloc t true (.tuple #[])) c k w ro ρ:=by
 obtain⟨v,hv,rfl,-⟩:=qU (P:=P) (w:=w) hz
 have:=B3 (P:=P) (e:=t) g hf (iK v.cells.toList) hk
 obtain⟨r,w',hr,dN⟩:=this
 exact⟨r,w',by simpa[Instr.alloc,hv,newVar]using hr,dN⟩
theorem bh.eB: ∀{vs:List Value} {xs:List V} {us:List Value} {cs:List V} {o:Nat},bh w ro ρ us cs→bh w ro ρ vs xs→ ∀(C:Array Value),C.toList=us→
  bh w ro ρ ((vs.zipIdx.foldl (fun(D:Array Value) (p:Value×Nat)=>D.setIfInBounds (o+p.2) p.1) C).toList) (eB cs o xs)
 |vs,xs,us,cs,o,hu,hv,C,hC=>by
  have key: ∀(vs:List Value) (xs:List V) (us:List Value) (cs:List V) (n:Nat) (C:Array Value),bh w ro ρ us cs→bh w ro ρ vs xs→C.toList=us→
    bh w ro ρ (((vs.zipIdx n).foldl (fun(D:Array Value) (p:Value×Nat)=>D.setIfInBounds (o+p.2) p.1) C).toList) (VS.eB cs (o+n) xs):=by
   intro vs
   induction vs with
   |nil=>
    intro xs us cs n C hu hv hC
    cases xs with
    |nil=>simpa[VS.eB,hC]using hu
    |cons x xs=>simp[bh]at hv
   |cons v vs ih=>
    intro xs us cs n C hu hv hC
    cases xs with
    |nil=>simp[bh]at hv
    |cons x xs=>
     have hvx:Rd w ro ρ v x:=hv.2 0 v x rfl rfl
     have Qz:bh w ro ρ vs xs:=⟨by simpa using hv.1,fun i a b ha hb=>hv.2 (i+1) a b (by simpa using ha) (by simpa using hb)⟩
     simp only[List.zipIdx_cons,arN,VS.eB]
     have:=ih xs (us.set (o+n) v) (cs.set (o+n) x) (n+1) (C.setIfInBounds (o+n) v) ⟨by simp[hu.1],fun i a b ha hb=>by
      rw[aqB]at ha hb
      by_cases hi:o+n=i
      ·subst hi
       simp at ha hb
       obtain⟨_,rfl⟩:=ha
       obtain⟨_,rfl⟩:=hb
       exact hvx
      ·rw[if_neg hi]at ha hb
       exact hu.2 i a b ha hb⟩ Qz (by simp[hC])
     rw[show o+(n+1)=o+n+1 by omega]at this
     exact this
  simpa using key vs xs us cs 0 C hu hv hC
theorem CU{place wR:Nat→Option (Nat×Nat)}{a:Operand→Value}{s:Operand→V}: ∀(parts:List (Nat×Operand)) (C:Array Value) (cs:List V) {K:List V→Prop},
  (∀p∈parts,Rd w ro ρ (a p.2) (s p.2))→(∀i q,place i=some q→wR i=some q)→bh w ro ρ C.toList cs→nQ place s parts cs K→
  ∃D ds,Instr.fill wR C (parts.map fun p=>(p.1,a p.2))=some D∧K ds∧bh w ro ρ D.toList ds
 |[],C,cs,K,_,_,hC,h=>⟨C,cs,rfl,h,hC⟩
 |(i,x)::parts,C,cs,K,hp,eR,hC,h=>by
  obtain⟨off,sz,vs,h1,h2,h3,h4,h5⟩:=h
  have hx:=zY (hp (i,x) (by simp)) h2
  have hlen:=hx.1
  simp at hlen
  have hCl:=hC.1
  simp at hCl
  obtain⟨D,ds,r1,r2,r3⟩:=CU (place:=place) (wR:=wR) (a:=a) parts _ (eB cs off vs) (fun p sI=>hp p (by simp[sI])) eR (bh.eB (o:=off) hC hx C rfl) h5
  refine⟨D,ds,?_,r2,r3⟩
  simp only[aqt,Instr.fill,eR i _ h1]
  rw[if_neg (by simp;omega)]
  rw[←r1]
  congr 1
  rw[←Array.foldl_toList,Array.toList_zipIdx]
end
end Go.VS
set_option linter.all false
namespace Go.VS
section
variable {P : Program} {c : Ctx} {rows : List Row} {w : World} {ro : Nat → Prop} {ρ : bP} {k : KV}
theorem z6{α β:Type}(f:α→Sem β)(q:α→Option β)(hf: ∀a b,q a=some b→(f a).run P w=.ok b w): ∀(l:List α) (r:List β),l.mapM q=some r→(l.mapM f).run P w=.ok r w
 |[],r,h=>by simp at h;subst h;simp
 |a::l,r,h=>by
  simp only[List.mapM_cons,Option.bind_eq_bind,Option.bind_eq_some_iff,Option.pure_def,aqy]at h
  obtain⟨b,hb,bs,hbs,rfl⟩:=h
  simp[List.mapM_cons,hf a b hb,z6 f q hf l bs hbs]
theorem Mj{t:TypeId}{a:Operand→Value}{s:Operand→V}{parts:List (Nat×Operand)}(g:Good c rows w ro ρ)(hp: ∀p∈parts,Rd w ro ρ (a p.2) (s p.2))
  (h:KJ P t s parts fun v=>k v rows):ee P (Instr.build t (parts.map fun p=>(p.1,a p.2)).toArray) c k w ro ρ:=by
 obtain⟨z,hz,eR,h⟩:=h
 obtain⟨v,hv,rfl,-⟩:=qU (P:=P) (w:=w) hz
 obtain⟨pl,eR⟩:=aqQ.1 eR
 obtain⟨D,ds,r1,r2,r3⟩:=CU (wR:=pl) parts v.cells _ hp (fun i q hq=>by simpa[l8,eR]using hq) (iK _) h
 refine .same (v:=.agg D) g ?_ (bh.agg r3) r2
 unfold ba at eR
 split at eR
 ·rename_i fs hu
  simp only[ap0]at eR
  obtain⟨l,hl,rfl⟩:=eR
  have hm:=z6 (P:=P) (w:=w) (fun f:Field=>do pure (f.offset,←sizeOf f.type)) (fun f=>(dW P f.type).map fun n=>(f.offset,n))
   (fun f b hb=>by
    simp only[ap0]at hb
    obtain⟨n,hn,rfl⟩:=hb
    simp[cz hn]) fs.toList l hl
  have nu:(fs.mapM fun f:Field=>(do pure (f.offset,←sizeOf f.type):Sem (Nat×Nat))).run P w=.ok l.toArray w:=by
   rw[Array.mapM_eq_mapM_toList]
   simp only[Sem.run_map,hm,Result.andThen_ok]
  simp only[Instr.build,Sem.run_bind,hv,Result.andThen_ok,run_underlying hu,nu]
  have e:(fun i:Nat=>l.toArray[i]?)=fun i=>l[i]?:=by funext i;simp
  simp[e,r1]
 ·rename_i n e hu
  simp only[ap0]at eR
  obtain⟨m,hm,rfl⟩:=eR
  simp only[Instr.build,Sem.run_bind,hv,Result.andThen_ok,run_underlying hu,cz hm]
  simp[r1]
 ·simp at eR
theorem G0{z:Array Value}{n:Nat}:((Array.range (n*z.size)).map (z[· %z.size]!)).toList=(List.replicate n z.toList).flatten:=by
 apply arA
 intro i
 by_cases hz:z.size=0
 ·have:z=#[]:=by simpa using hz
  subst this
  simp
 ·have cI:0<z.size:=by omega
  by_cases hi:i<n*z.size
  ·have hq:i/z.size<n:=by rwa[Nat.div_lt_iff_lt_mul cI]
   have hm:i%z.size<z.size:=arc _ cI
   have aaN:((Array.range (n*z.size)).map (z[· %z.size]!)).toList[i]?=some z[i%z.size]:=by
    simp[hi,hm]
   rw[aaN]
   clear aaN
   have key: ∀(n i:Nat),i<n*z.size→(List.replicate n z.toList).flatten[i]?=some (z[i%z.size]'(arc _ cI)):=by
    intro n
    induction n with
    |zero=>intro i h;omega
    |succ n ih=>
     intro i h
     rw[List.replicate_succ,aqN,aqq]
     by_cases aO:i<z.size
     ·rw[if_pos (by simpa using aO)]
      simp[aq1 aO,aO]
     ·rw[if_neg (by simpa using aO)]
      have:=ih (i-z.size) (by rw[art]at h;omega)
      simp only[Array.length_toList]
      rw[this]
      congr 2
      exact(arQ (by omega)).symm
   rw[key n i hi]
  ·rw[aql (by simp;omega),aql (by simp[List.length_flatten,List.sum_replicate_nat];omega)]
theorem G1(n:Nat)(us:List Value):uN n (us.map ku)=((List.replicate n us).flatten).map ku:=by
 simp[uN,List.map_flatten]
theorem rn{id n cap sz:Nat}{us rest:List Value}{xs:List V}{e:TypeId}(g:Good c rows w ro ρ)(hf:dB rows id)(h:bh w ro ρ us xs)(hn:n≤cap)(hc:cap*sz≤us.length+rest.length)
  (hk:k (.av id 0 n sz) (da rows id (.live xs))):lU c k w ro ρ (.slice (some ⟨w.heap.size,0,none⟩) n cap) (w.alloc (.cells (us++rest).toArray e)):=by
 obtain⟨g1,e1⟩:=g.newRow hf h rest e
 exact⟨.av id 0 n sz,_,ro,_,hk,g1,.av (qj g hf _) (fun h=>by cases h) (fun h=>by cases h) hn (fun x hx=>by cases hx;exact⟨rfl,rfl,.inr rfl,hn,by simpa using hc⟩),e1⟩
theorem EE(f:Nat→Value):(Array.range 0).map f=#[]:=Array.eq_empty_of_size_eq_zero (by simp)
theorem CV{t:TypeId}{len id:Nat}{a:Operand→Value}{s:Operand→V}{parts:List (Nat×Operand)}(g:Good c rows w ro ρ)(hp: ∀p∈parts,Rd w ro ρ (a p.2) (s p.2))
  (h:vB P t len s parts id rows k):ee P (Instr.buildSlice t len (parts.map fun p=>(p.1,a p.2)).toArray) c k w ro ρ:=by
 obtain⟨e,sz,z,hu,hs,hz,uU,hle,hf,h⟩:=h
 obtain⟨v,hv,rfl,-⟩:=qU (P:=P) (w:=w) hz
 have dV:v.cells.size=sz:=by simpa using uU
 have I2:bh w ro ρ ((Array.range (len*v.cells.size)).map (v.cells[· %v.cells.size]!)).toList (uN len (v.cells.toList.map ku)):=by
  rw[G0,G1]
  exact iK _
 obtain⟨D,ds,r1,r2,r3⟩:=CU (wR:=fun i=>some (i*sz,sz)) parts _ _ hp (fun i q hq=>hq) I2 h
 have gq:(Array.range (len*sz)).map (v.cells[· %v.cells.size]!)=(Array.range (len*v.cells.size)).map (v.cells[· %v.cells.size]!):=by rw[dV]
 rw[←gq]at r1
 have hD:D.size=len*sz:=by
  have acq: ∀(l:List (Nat×Value)) (C D:Array Value) (pl:Nat→Option (Nat×Nat)),Instr.fill pl C l=some D→D.size=C.size:=by
   intro l
   induction l with
   |nil=>intro C D pl h;simp[Instr.fill]at h;rw[h]
   |cons p l ih=>
    intro C D pl h
    obtain⟨i,u⟩:=p
    simp only[Instr.fill]at h
    split at h
    ·simp at h
    ·split at h
     ·simp at h
     ·rw[ih _ _ _ h]
      have: ∀(l:List (Value×Nat)) (o:Nat) (C:Array Value),(l.foldl (fun cs (p:Value×Nat)=>cs.setIfInBounds (o+p.2) p.1) C).size=C.size:=by
       intro l
       induction l with
       |nil=>intro o C;rfl
       |cons q l ih=>intro o C;rw[arN,ih];simp
      rw[←Array.foldl_toList]
      exact this _ _ _
  rw[acq _ _ _ _ r1]
  simp
 refine⟨_,_,?_,rn (e:=e) (rest:=[]) (n:=len) (cap:=len) (us:=D.toList) g hf r3 (aqf _) (by simp[hD]) r2⟩
 have xC: ¬len*sz>2^24:=by omega
 simp only[Instr.buildSlice,Sem.run_bind,run_underlying (bQ hu),Result.andThen_ok,cz hs]
 rw[if_neg xC]
 by_cases h0:len*sz=0
 ·have vR:Instr.fill (fun i=>some (i*sz,sz)) #[] (parts.map fun p=>(p.1,a p.2))=some D:=by
   rw[←r1,h0,EE]
  simp only[h0,if_true]
  simp[EE,vR,Go.newRow]
 ·simp[h0,hv,r1,Go.newRow]
theorem EF{t:TypeId}{l m:V}{ul um:Value}{id:Nat}(g:Good c rows w ro ρ)(hl:Rd w ro ρ ul l)(hm:Rd w ro ρ um m)(h:x9 P t l m id rows k):ee P (Instr.makeSlice t ul um) c k w ro ρ:=by
 cases l with
 |int k1 l=>
  cases m with
  |int k2 m=>
   obtain rfl:=ga hl
   obtain rfl:=ga hm
   obtain⟨e,sz,db,z,hu,hs,hb,hz,uU,h0,h1,h2,h3,hf,hk⟩:=h
   obtain⟨v,hv,rfl,i,hi⟩:=qU (P:=P) (w:=w) hz
   have dV:v.cells.size=sz:=by simpa using uU
   have VQ:i.bytes=db:=by simpa[nH,hi]using hb
   have hsi:i.size=sz:=by simpa[dW,hi]using hs
   have w1:IntKind.i64.wrap l=l:=by simp[IntKind.wrap,IntKind.signed,IntKind.bits];omega
   have w2:IntKind.i64.wrap m=m:=by simp[IntKind.wrap,IntKind.signed,IntKind.bits];omega
   have hD:bh w ro ρ ((Array.range (m.toNat*v.cells.size)).map (v.cells[· %v.cells.size]!)).toList (uN m.toNat (v.cells.toList.map ku)):=by
    rw[G0,G1]
    exact iK _
   refine⟨_,_,?_,rn (e:=e) (rest:=[]) (n:=l.toNat) (cap:=m.toNat) (sz:=sz) (us:=_) g hf hD (by omega) (by simp[dV]) hk⟩
   have hnm: ¬m<0:=by omega
   have F9: ¬l<0:=by omega
   have aaP: ¬m<l:=by omega
   have Pw: ¬(281474976710656:Int)<db*m:=by omega
   by_cases I2:m.toNat*sz=0
   ·have af8:((Array.range (m.toNat*v.cells.size)).map (v.cells[· %v.cells.size]!))=#[]:=by
     rw[dV,I2,EE]
    simp[Instr.makeSlice,run_underlying (bQ hu),asInt,asIntOf,typeInfo,sizeOf,hi,VQ,hsi,w1,w2,hnm,F9,aaP,Pw,I2,Go.newRow,af8]
    rw[EE]
   ·simp[Instr.makeSlice,run_underlying (bQ hu),asInt,asIntOf,typeInfo,sizeOf,hi,VQ,hsi,w1,w2,hnm,F9,aaP,Pw,I2,Go.newRow,hv,dV]
    congr 2
    apply ary
    simp
  |_=>exact False.elim h
 |_=>exact False.elim h
end
end Go.VS
set_option linter.all false
namespace Go.VS
def NA(w:World)(ro:Nat→Prop)(ρ:bP):Option Value→Option V→Prop
 |none,none=>True
 |some u,some x=>Rd w ro ρ u x
 |_,_=>False
section
variable {P : Program} {c : Ctx} {rows : List Row} {w : World} {ro : Nat → Prop} {ρ : bP} {k : KV}
theorem fa{lo hi:Option V}{ul uh:Option Value}{z7:Bool}{len cap:Nat}{K:Nat→Nat→Prop}(hl:NA w ro ρ ul lo)(hh:NA w ro ρ uh hi)(hc:len≤cap)
  (h:eI hi len fun h=>eI lo 0 fun l=>l≤h∧h≤len∧K l h): ∃l h,(Instr.sliceBounds z7 len cap ul uh none).run P w=.ok (l,h,cap) w∧l≤h∧h≤len∧K l h:=by
 have inner: ∀q,eI lo 0 (fun l=>l≤q∧q≤len∧K l q)→ ∃l,(∀code,(match ul with|some v=>Instr.sliceBound v q code|none=>(pure 0:Sem Nat)).run P w=.ok l w)∧l≤q∧q≤len∧K l q:=by
  intro q hb
  cases lo with
  |none=>
   cases ul with
   |none=>exact⟨0,fun _=>rfl,hb⟩
   |some u=>exact False.elim hl
  |some x=>
   cases ul with
   |none=>exact False.elim hl
   |some u=>
    cases x with
    |int kd n=>
     obtain rfl:=ga (show Rd w ro ρ u _ from hl)
     obtain⟨h0,h1,h2⟩:=hb
     refine⟨n.toNat,fun code=>?_,h1,h2⟩
     have:n≤q:=by omega
     simp[Instr.sliceBound,asIntOf,h0,this]
    |_=>exact False.elim hb
 cases hi with
 |none=>
  cases uh with
  |none=>
   obtain⟨l,r1,r2,r3,r4⟩:=inner len h
   refine⟨l,len,?_,r2,r3,r4⟩
   have:=r1 .sliceB
   cases ul with
   |none=>simp at this;subst this;simp[Instr.sliceBounds]
   |some u=>simp only at this;simp[Instr.sliceBounds,this]
  |some u=>exact False.elim hh
 |some x=>
  cases uh with
  |none=>exact False.elim hh
  |some u=>
   cases x with
   |int kd n=>
    obtain rfl:=ga (show Rd w ro ρ u _ from hh)
    obtain⟨h0,h1⟩:=h
    obtain⟨l,r1,r2,r3,r4⟩:=inner n.toNat h1
    refine⟨l,n.toNat,?_,r2,r3,r4⟩
    have tS:n≤cap:=by omega
    have hq: ∀code,(Instr.sliceBound (.int kd n) cap code).run P w=.ok n.toNat w:=fun code=>by simp[Instr.sliceBound,asIntOf,h0,tS]
    have:=r1 .sliceB
    cases ul with
    |none=>simp at this;subst this;cases z7<;>simp[Instr.sliceBounds,hq]
    |some u=>simp only at this;cases z7<;>simp[Instr.sliceBounds,hq,this]
   |_=>exact False.elim h
theorem Mk{t:TypeId}{x:V}{u:Value}{lo hi mx:Option V}{ul uh um:Option Value}(g:Good c rows w ro ρ)(hx:Rd w ro ρ u x)(hl:NA w ro ρ ul lo)(hh:NA w ro ρ uh hi)(hm:NA w ro ρ um mx)
  (h:DV P t x lo hi mx rows k):ee P (Instr.sliceAt t u ul uh um) c k w ro ρ:=by
 obtain⟨rfl,h⟩:=h
 cases um with
 |some u=>exact False.elim hm
 |none=>
 cases x with
 |str s=>
  obtain⟨hu,h⟩:=h
  obtain rfl:=pC hx
  obtain⟨l,e,r1,r2,r3,hk⟩:=fa (P:=P) (z7:=false) (cap:=s.length) hl hh (aqf _) h
  have hex:(⟨s.toArray⟩:ByteArray).extract l e=⟨((s.drop l).take (e-l)).toArray⟩:=by
   apply ByteArray.ext
   rw[ByteArray.data_extract]
   apply ary
   simp[List.take_drop]
  exact .same (v:=.string ⟨((s.drop l).take (e-l)).toArray⟩) g (by simp[Instr.sliceAt,Instr.slice,run_underlying (kU hu),tQ,r1,hex]) .str hk
 |aj=>
  obtain⟨⟨e,hu,hs⟩,h⟩:=h
  obtain⟨sz,hs⟩:=aqQ.1 hs
  obtain rfl:=gX hx
  obtain⟨l,e,r1,r2,r3,hk⟩:=fa (P:=P) (z7:=true) (cap:=0) hl hh (aqf _) h
  obtain rfl:e=0:=by omega
  obtain rfl:l=0:=by omega
  exact .same g (by simp[Instr.sliceAt,Instr.slice,run_underlying (bQ hu),r1,cz hs]) .aj hk
 |sl n cs=>
  obtain⟨e,sz,hu,hs,h⟩:=h
  rcases H2 hx with⟨rfl,rfl,rfl⟩|⟨b,o,cap,rfl,gd,tS,bA⟩|⟨a,cap,rfl,rfl,rfl⟩
  rotate_left 2
  ·obtain⟨l,e,r1,r2,r3,hk⟩:=fa (P:=P) (z7:=true) (cap:=cap) hl hh (arW _) h
   obtain rfl:e=0:=by omega
   obtain rfl:l=0:=by omega
   by_cases hc:cap=0
   ·subst hc
    exact .same g (by simp[Instr.sliceAt,Instr.slice,run_underlying (bQ hu),r1,cz hs];exact⟨rfl,rfl⟩) .oO (by simpa using hk)
   ·exact .same g (by simp[Instr.sliceAt,Instr.slice,run_underlying (bQ hu),r1,cz hs,hc];exact⟨rfl,rfl⟩) .oO (by simpa using hk)
  ·obtain⟨l,e,r1,r2,r3,hk⟩:=fa (P:=P) (z7:=true) (cap:=0) hl hh (aqf _) h
   obtain rfl:e=0:=by omega
   obtain rfl:l=0:=by omega
   exact .same g (by simp[Instr.sliceAt,Instr.slice,run_underlying (bQ hu),r1,cz hs]) .lB (by simpa using hk)
  ·obtain⟨l,e,r1,r2,r3,hk⟩:=fa (P:=P) (z7:=true) (cap:=cap) hl hh tS h
   by_cases bZ:cap=l
   ·subst bZ
    have he:e=cap:=by omega
    subst he
    refine .same (v:=.slice (some ⟨b,o,none⟩) 0 0) g (by simp[Instr.sliceAt,Instr.slice,run_underlying (bQ hu),r1,cz hs]) ?_ hk
    simp
    exact ct.sl (fun i v hv=>by simp at hv) gd (aqf _)
   ·refine .same (v:=.slice (some ⟨b,o+l*sz,none⟩) (e-l) (cap-l)) g (by simp[Instr.sliceAt,Instr.slice,run_underlying (bQ hu),r1,cz hs,bZ,add_eq]) ?_ hk
    exact((bA.drop _).take _).sl gd (by omega)
 |av id off n sz=>
  obtain⟨e,hu,hs,h⟩:=h
  cases hx with
  |iw q1 q2 q3=>
   obtain⟨l,e,r1,r2,r3,hk⟩:=fa (P:=P) (z7:=true) (cap:=0) hl hh (aqf _) h
   obtain rfl:e=0:=by omega
   obtain rfl:l=0:=by omega
   exact .same g (by simp[Instr.sliceAt,Instr.slice,run_underlying (bQ hu),r1,cz hs]) (.iw q1 q2 q3) (by simpa using hk)
  |@av _ _ _ _ _ a cap y q1 q2 q3 KN q4=>
   obtain⟨l,e,r1,r2,r3,hk⟩:=fa (P:=P) (z7:=true) (cap:=cap) hl hh KN h
   refine .same (v:=.slice (some (if cap=l then a else a.add (l*sz))) (e-l) (cap-l)) g (by simp[Instr.sliceAt,Instr.slice,run_underlying (bQ hu),r1,cz hs];split<;>rfl) ?_ hk
   refine .av q1 q2 q3 (by omega) fun x hx=>?_
   obtain⟨e1,e2,e3,e4,e5⟩:=q4 x hx
   obtain⟨b,o,s⟩:=a
   simp at e1 e2 e3 e5
   subst e1;subst e2
   have hmul:cap*sz=l*sz+(cap-l)*sz:=by rw[←arb,show l+(cap-l)=cap by omega]
   by_cases bZ:cap=l
   ·rw[if_pos bZ]
    refine⟨rfl,rfl,.inl (by omega),by omega,?_⟩
    show o+_≤_
    omega
   ·rw[if_neg bZ,add_eq]
    refine⟨rfl,rfl,?_,by omega,?_⟩
    ·show cap-l=0∨o+l*sz=_
     omega
    ·show o+l*sz+_≤_
     omega
 |ref id off=>
  obtain⟨n,e,sz,cs,hu,hs,yy,hle,bw,h⟩:=h
  obtain⟨x,fp,bA,rfl⟩:=vP g hx yy
  obtain⟨l,e,r1,r2,r3,hk⟩:=fa (P:=P) (z7:=false) (cap:=n) hl hh (aqf _) h
  obtain⟨C,t,fr,p1,p2,p3,p4,p5⟩:=bA
  refine .same (v:=.slice (some (if n=l then⟨x.b,x.o+off,none⟩else⟨x.b,x.o+off+l*sz,none⟩)) (e-l) (n-l)) g (by simp[Instr.sliceAt,Instr.sureAddr,run_underlying (pD hu),r1,cz hs,add_eq]) ?_ hk
  refine .av fp (fun h=>by cases h) (fun h=>by cases h) (by omega) fun y hy=>?_
  cases hy
  have hmul:n*sz=l*sz+(n-l)*sz:=by rw[←arb,show l+(n-l)=n by omega]
  refine⟨by split<;>rfl,by split<;>rfl,?_,by omega,?_⟩
  ·by_cases bZ:n=l
   ·left;omega
   ·right;rw[if_neg bZ];show x.o+off+l*sz=_;omega
  ·split
   ·show x.o+off+_≤_
    rename_i bZ
    subst bZ
    simp;omega
   ·show x.o+off+l*sz+_≤_
    omega
 |_=>exact False.elim h
theorem yd{sz:Nat}{x:V}{u:Value}{K:Nat→List V→Prop}(g:Good c rows w ro ρ)(hx:Rd w ro ρ u x)(h:gT sz x rows K):
  ∃n cs us,K n cs∧(Builtin.lenOf u).run P w=.ok n w∧(∀w',w'.heap=w.heap→(Builtin.firstCells sz n u).run P w'=.ok us w')∧bh w ro ρ us.toList cs∧us.size=n*sz:=by
 have UM: ∀{K:Nat→List V→Prop},K 0 []→ ∃n cs us,K n cs∧(Builtin.lenOf (.slice none 0 0)).run P w=.ok n w∧(∀w',w'.heap=w.heap→(Builtin.firstCells sz n (.slice none 0 0)).run P w'=.ok us w')∧bh w ro ρ us.toList cs∧us.size=n*sz:=
  fun h=>⟨0,[],#[],h,rfl,fun _ _=>rfl,⟨rfl,fun i u x hu=>by simp at hu⟩,by simp⟩
 cases x with
 |aj=>obtain rfl:=gX hx;exact UM h
 |sl n cs=>
  obtain⟨hlen,hk⟩:=h
  rcases H2 hx with⟨rfl,rfl,rfl⟩|⟨b,o,cap,rfl,gd,tS,bA⟩|⟨a,cap,rfl,rfl,rfl⟩
  ·exact UM hk
  rotate_left
  ·exact⟨0,[],#[],hk,rfl,fun _ _=>by simp[Builtin.firstCells,loadCells];rfl,⟨rfl,fun i u x hu=>by simp at hu⟩,by simp⟩
  ·obtain⟨us,r1,r2⟩:=mV (P:=P) bA
   rw[hlen]at r1
   exact⟨n,cs,us.toArray,hk,rfl,r1,⟨by simpa using r2.1,fun i u x hu hx=>(r2.2 i u x (by simpa using hu) hx).Pr⟩,by have:=r2.1;simp;omega⟩
 |av id off n cG=>
  obtain⟨rfl,cs,hl,hle,hk⟩:=h
  rcases vO g hx hl with⟨rfl,rfl,rfl,-⟩|⟨y,o,cap,hy,bA,rfl,ho,hn,hm⟩
  ·exact UM (by simpa[b7]using hk)
  ·by_cases yp:cap=0
   ·subst yp
    obtain rfl:n=0:=by omega
    exact⟨0,[],#[],by simpa[b7]using hk,rfl,fun _ _=>by simp[Builtin.firstCells,loadCells,loadCellsFrom],⟨rfl,fun i u x hu=>by simp at hu⟩,by simp⟩
   ·obtain rfl:o=y.o+off:=by omega
    have KF:ct w ro ρ y.b (y.o+off) (b7 cs off (n*cG)):=(bA.pR.drop off).take _
    obtain⟨us,r1,r2⟩:=mV (P:=P) KF
    have hlen:(b7 cs off (n*cG)).length=n*cG:=by simp[b7];omega
    rw[hlen]at r1
    exact⟨n,_,us.toArray,hk,rfl,r1,by simpa using r2,by have:=r2.1;simp;omega⟩
 |str s=>
  obtain⟨rfl,hk⟩:=h
  obtain rfl:=pC hx
  have hex:(⟨s.toArray⟩:ByteArray).extract 0 s.length=⟨s.toArray⟩:=by
   apply ByteArray.ext
   rw[ByteArray.data_extract]
   apply ary
   simp
  refine⟨s.length,_,_,hk,by simp[Builtin.lenOf,tQ],fun _ _=>by simp[Builtin.firstCells,hex];rfl,⟨by simp,fun i u x hu hx=>?_⟩,by simp⟩
  simp at hu hx
  obtain⟨b,hb,rfl⟩:=hu
  obtain⟨b',gF,rfl⟩:=hx
  rw[hb]at gF
  simp at gF
  subst gF
  exact .int
 |val v=>
  obtain⟨⟨a,cap,rfl⟩,hk⟩:=h
  cases hx
  exact⟨0,[],#[],hk,rfl,fun _ _=>by simp[Builtin.firstCells,loadCells];rfl,⟨rfl,fun i u x hu=>by simp at hu⟩,by simp⟩
 |_=>exact False.elim h
theorem G2{sz:Nat}{x:V}{u:Value}{K:Nat→List V→Prop}(g:Good c rows w ro ρ)(hx:Rd w ro ρ u x)(h:gT sz x rows K):
  ∃n cs us,K n cs∧(Builtin.lenOf u).run P w=.ok n w∧(Builtin.firstCells sz n u).run P w=.ok us w∧bh w ro ρ us.toList cs∧us.size=n*sz:=by
 obtain⟨n,cs,us,h1,h2,h3,h4⟩:=yd (P:=P) g hx h
 exact⟨n,cs,us,h1,h2,h3 w rfl,h4⟩
theorem G3: ∀{us:List Value} {cs:List V},bh w ro ρ us cs→(∀x∈cs,x.isByte=true)→ ∃ns:List Int,us=ns.map (Value.int .u8)∧cs.map toByte=ns.map fun n=>UInt8.ofNat n.toNat
 |[],[],_,_=>⟨[],rfl,rfl⟩
 |[],_::_,h,_=>by simp[bh]at h
 |_::_,[],h,_=>by simp[bh]at h
 |u::us,x::cs,h,hb=>by
  obtain⟨ns,r1,r2⟩:=G3 (us:=us) (cs:=cs) ⟨by simpa using h.1,fun i a b ha hb=>h.2 (i+1) a b (by simpa using ha) (by simpa using hb)⟩ (fun y hy=>hb y (by simp[hy]))
  have hx:=h.2 0 u x rfl rfl
  have hxb:=hb x (by simp)
  cases x with
  |int kd n=>
   cases kd<;>simp[V.isByte]at hxb
   obtain rfl:=ga hx
   exact⟨n::ns,by simp[r1],by simp[toByte,r2]⟩
  |_=>simp[V.isByte]at hxb
theorem fold_push: ∀(ns:List Int) (s:ByteArray),ns.foldl (fun r n=>r.push (UInt8.ofNat n.toNat)) s=⟨s.data++(ns.map fun n=>UInt8.ofNat n.toNat).toArray⟩
 |[],s=>by simp
 |n::ns,s=>by
  rw[arN,fold_push ns]
  apply ByteArray.ext
  apply ary
  simp[ByteArray.data_push]
theorem Aa{u:Value}{x:V}(g:Good c rows w ro ρ)(hx:Rd w ro ρ u x)(hs: ∀s,x≠.str s)(h:gT 1 x rows fun _ cs=>(∀b∈cs,b.isByte=true)∧k (.str (cs.map toByte)) rows):ee P (Conv.bytesToString u) c k w ro ρ:=by
 obtain⟨n,cs,us,⟨hb,hk⟩,r1,r2,r3,r4⟩:=G2 (P:=P) g hx h
 obtain⟨ns,e1,e2⟩:=G3 r3 hb
 have fQ:us=(ns.map (Value.int .u8)).toArray:=by apply ary;simpa using e1
 have aaQ:Rd w ro ρ (.string ⟨(ns.map fun n=>UInt8.ofNat n.toNat).toArray⟩) (.str (cs.map toByte)):=by rw[e2];exact .str
 have hu:(∃a n' cap,u=.slice (some a) n' cap)∨u=.slice none 0 0:=by
  cases hx<;>first|exact .inr rfl|exact .inl ⟨_,_,_,rfl⟩|exact False.elim h|(obtain⟨⟨a,c,rfl⟩,-⟩:=h;exact .inl ⟨_,_,_,rfl⟩)|exact absurd rfl (hs _)
 rcases hu with⟨a,n',cap,rfl⟩|rfl
 ·simp[Builtin.lenOf]at r1
  subst r1
  simp[Builtin.firstCells]at r2
  rw[fQ]at r2
  have:=run_bytesToString (P:=P) w a n' cap ns r2
  refine .same g this ?_ hk
  rw[fold_push]
  simpa using aaQ
 ·simp[Builtin.lenOf]at r1
  subst r1
  simp[Builtin.firstCells]at r2
  rw[r2]at fQ
  have:ns=[]:=by cases ns<;>simp_all
  subst this
  refine .same (v:=.string ByteArray.empty) g (by simp[Conv.bytesToString]) ?_ hk
  exact aaQ
theorem World.Ml(w:World)(a:Addr)(n k:Nat)(hk:k≠a.block):(w.freeze a n).heap[k]?=w.heap[k]?:=by
 unfold World.freeze
 split
 ·rfl
 ·simp only[arC]
  rw[if_neg (fun h=>hk h.symm)]
theorem pY{α:Type}{l:List α}{i:Nat}{x:α}(h:l[i]?=some x):l.set i x=l:=by
 apply arA
 intro j
 rw[aqB]
 split
 ·rename_i e;subst e;rw[h];simp[(apN.1 h).1]
 ·rfl
theorem Good.Xl(g:Good c rows w ro ρ){id:Nat}(hf:dB rows id):id≤rows.length:=by rw[←g.len];exact g.EA hf
theorem Ab{s:List UInt8}{e:TypeId}{id:Nat}(g:Good c rows w ro ρ)(hf:dB rows id)(hk:k (.av id 0 s.length 1) (da rows id (.live (s.map aF)))):
  ee P (Conv.stringToBytes e ⟨s.toArray⟩) c k w ro ρ:=by
 obtain⟨g1,e1⟩:=g.drew (w.drawn+1)
 generalize tS:(Question.appendCap s.length 0 e).cut (w.tape w.drawn (.appendCap s.length 0 e))=cap
 have hle:s.length≤cap:=by rw[←tS];simp[Question.cut]
 have vR:bh {w with drawn:=w.drawn+1} ro ρ (s.map fun b=>Value.int .u8 b.toNat) (s.map aF):=⟨by simp,fun i u x hu hx=>by
  simp at hu hx
  obtain⟨b,hb,rfl⟩:=hu
  obtain⟨b',gF,rfl⟩:=hx
  rw[hb]at gF
  simp at gF
  subst gF
  exact .int⟩
 obtain⟨g2,e2⟩:=g1.newRow hf vR (List.replicate (cap-s.length) (.int .u8 0)) e
 have hlen:(s.map fun b=>Value.int .u8 b.toNat).length+(List.replicate (cap-s.length) (Value.int .u8 0)).length=cap:=by simp;omega
 rw[hlen]at g2 e2
 generalize VR:World.alloc {w with drawn:=w.drawn+1} (.cells ((s.map fun b=>Value.int .u8 b.toNat)++List.replicate (cap-s.length) (Value.int .u8 0)).toArray e)=w1 at g2 e2
 have hb:w1.heap[w.heap.size]?=some (.cells ((s.map fun b=>Value.int .u8 b.toNat)++List.replicate (cap-s.length) (Value.int .u8 0)).toArray e):=by rw[←VR];simp[World.alloc]
 have cm:((s.map fun b=>Value.int .u8 b.toNat)++List.replicate (cap-s.length) (Value.int .u8 0)).toArray.size=cap:=by simp;omega
 have hgr:(da ρ id (.on ⟨w.heap.size,0,cap⟩))[id]?=some (.on ⟨w.heap.size,0,cap⟩):=qj g hf _
 have QT:(da rows id (.live (s.map aF)))[id]?=some (.live (s.map aF)):=by rw[bH (g.Xl hf),if_pos rfl]
 have P9:(w1.freeze ⟨w.heap.size,cap,none⟩ 1).heap[w.heap.size]?=some (.cells ((s.map fun b=>Value.int .u8 b.toNat)++List.replicate (cap-s.length) (Value.int .u8 0)).toArray e (cap,cap+1)):=by
  unfold World.freeze
  rw[if_neg (by omega)]
  simp[arC,hb]
 have rz:=g2.store (w':=w1.freeze ⟨w.heap.size,cap,none⟩ 1) QT hgr (by simp[World.freeze]) (by simp[World.freeze]) (by simp[World.freeze]) (by simp[World.freeze]) (fun b hb=>World.Ml _ _ _ _ hb) (ds:=s.map aF)
  (fun cY=>by
   obtain⟨iy,h1,h2⟩:=g2.alive hgr
   rw[QT]at h1
   simp at h1
   subst h1
   obtain⟨C,t,fr,q1,q2,q3,q4,q5⟩:=h2
   rw[hb]at q1
   simp at q1
   obtain⟨rfl,rfl,rfl⟩:=q1
   exact⟨_,_,_,P9,q2,(fun i hi=>by simp at hi⊢;omega),q4,fun i v hv=>by
    obtain⟨u,hu,hr⟩:=q5 i v hv
    exact⟨u,hu,hr.ext cY⟩⟩)
 rw[pY QT]at rz
 obtain⟨g3,e3⟩:=rz
 refine⟨.slice (some ⟨w.heap.size,0,none⟩) s.length cap,w1.freeze ⟨w.heap.size,cap,none⟩ 1,?_,.av id 0 s.length 1,_,ro,_,hk,g3,?_,(e1.trans e2).trans e3⟩
 ·have nE:w1.shape? w.heap.size=some (e,cap):=by simp only[World.shape?,hb,cm]
  have af9:(⟨s.toArray⟩:ByteArray).size=s.length:=tQ s
  have hwd:w.drew={w with drawn:=w.drawn+1}:=rfl
  have aga:(Array.map (fun b:UInt8=>Value.int .u8 b.toNat) s.toArray++Array.replicate (cap-s.length) (Value.int .u8 0))=((s.map fun b=>Value.int .u8 b.toNat)++List.replicate (cap-s.length) (Value.int .u8 0)).toArray:=by
   apply ary
   simp
  simp only[Conv.stringToBytes,af9,Sem.run_bind,run_choose_drew,Question.forced,aqo,if_false,Result.andThen_ok,tS,aga,Go.newRow,run_newObj_alloc,Sem.run_pure,hwd,VR,markStringish,run_shape]
  have UN:(World.heap {w with drawn:=w.drawn+1}).size=w.heap.size:=rfl
  simp only[UN,nE,run_freeze,Result.andThen_ok]
 ·exact .av hgr (fun h=>by cases h) (fun h=>by cases h) hle (fun x hx=>by cases hx;exact⟨rfl,rfl,.inr rfl,hle,by simp⟩)
theorem Px{s d:TypeId}{x:V}{u:Value}{id:Nat}(g:Good c rows w ro ρ)(hx:Rd w ro ρ u x)(h:uZ P s d x id rows k):ee P (convert s d u) c k w ro ρ:=by
 have other:(fP P d=true∧(∃e,bt P s=some e∧uint P e=some .u8)∧gT 1 x rows fun _ cs=>(∀c∈cs,c.isByte=true)∧k (.str (cs.map toByte)) rows)→(∀s,x≠.str s)→ee P (convert s d u) c k w ro ρ:=by
  rintro⟨hd,⟨e,hs,he⟩,h⟩ KP
  obtain⟨v,w',hr,dN⟩:=Aa (P:=P) g hx KP h
  have hu: ∃a n cap,u=.slice a n cap:=by
   cases hx<;>first|exact⟨_,_,_,rfl⟩|exact False.elim h|(obtain⟨⟨a,c,rfl⟩,-⟩:=h;exact⟨_,_,_,rfl⟩)|exact absurd rfl (KP _)
  obtain⟨a,n,cap,rfl⟩:=hu
  exact⟨v,w',by rw[run_convert_bytes_string w s d e a n cap (bQ hs) (yc he) (kU hd)];exact hr,dN⟩
 cases x with
 |int kd n=>
  obtain⟨cH,hd,hs,hk⟩:=h
  obtain rfl:=ga hx
  obtain⟨ds,hs⟩:=aqQ.1 hs
  exact .same g (by simp[convert,run_underlying hs,run_underlying (yc hd),Conv.intToInt]) .int hk
 |str l=>
  obtain rfl:=pC hx
  obtain⟨hs,h⟩:=h
  obtain⟨ds,hs⟩:=aqQ.1 hs
  split at h
  ·rename_i hd
   exact .same g (by simp[convert,run_underlying hs,run_underlying (kU hd)]) .str h
  ·obtain⟨e,hd,he,hf,hk⟩:=h
   obtain⟨v,w',hr,dN⟩:=Ab (P:=P) (e:=e) g hf hk
   exact⟨v,w',by simpa[convert,run_underlying hs,run_underlying (bQ hd),run_underlying (yc he)]using hr,dN⟩
 |_=>exact other h (fun s h=>by cases h)
theorem G4(m:Nat): ∀(r q:Nat),256≤q→q≤2*m→Builtin.growBy m r q≤2*m
 |0,q,_,h=>h
 |r+1,q,h1,h2=>by
  unfold Builtin.growBy
  split
  ·exact h2
  ·exact G4 m r _ (by omega) (by omega)
theorem nextslicecap_le{m q:Nat}(h:q<m):Builtin.nextslicecap m q≤2*m:=by
 unfold Builtin.nextslicecap
 split
 ·omega
 ·split
  ·omega
  ·exact G4 m 4 q (by omega) (by omega)
theorem bh.append{us vs:List Value}{xs ys:List V}(h:bh w ro ρ us xs)(h':bh w ro ρ vs ys):bh w ro ρ (us++vs) (xs++ys):=
 ⟨by simp[h.1,h'.1],fun i u x hu hx=>by
  rw[aqq]at hu hx
  rw[←h.1]at hx
  split at hu<;>rename_i hi
  ·rw[if_pos hi]at hx;exact h.2 i u x hu hx
  ·rw[if_neg hi]at hx;exact h'.2 _ u x hu hx⟩
theorem vE{t t' ty e:TypeId}{sz db n m cap:Nat}{z:List V}{base:Option Addr}{ux:Value}{eW new:List V}{id:Nat}(hu:bt P t=some e)(hs:dW P e=some sz)(hb:nH P e=some db)
  (hz:ag P e=some z) (uU:z.length=sz) (ht:(bt P t').isSome=true∨fP P t'=true) (pc:(n+m)*db≤140737488355328) (nj:n+m≤1099511627776) (hnc:cap<n+m)
  (Sf:(Builtin.lenOf ux).run P w=.ok m w)
  (q9: ∀q,∃us,(Builtin.firstCells sz m ux).run P {w with drawn:=q}=.ok us {w with drawn:=q}∧bh {w with drawn:=q} ro ρ us.toList new∧us.size=m*sz)
  (hold: ∀q,∃us,(Builtin.firstCells sz n (.slice base n cap)).run P {w with drawn:=q}=.ok us {w with drawn:=q}∧bh {w with drawn:=q} ro ρ us.toList eW∧us.size=n*sz)
  (g:Good c rows w ro ρ) (hf:dB rows id) (hk:k (.av id 0 (n+m) sz) (da rows id (.live (eW++new)))):
  ee P (Builtin.append_ #[t,t'] ty #[.slice base n cap,ux]) c k w ro ρ:=by
 obtain⟨v,hv,rfl,i,hi⟩:=qU (P:=P) (w:={w with drawn:=w.drawn+1}) hz
 have dV:v.cells.size=sz:=by simpa using uU
 have VQ:i.bytes=db:=by simpa[nH,hi]using hb
 have hsi:i.size=sz:=by simpa[dW,hi]using hs
 obtain⟨uo,ho1,Sg,ho3⟩:=hold (w.drawn+1)
 obtain⟨un,IE,uk,hn3⟩:=q9 (w.drawn+1)
 generalize tS:(Question.appendCap (n+m) cap e).cut (w.tape w.drawn (.appendCap (n+m) cap e))=nc
 have hle:n+m≤nc:=by rw[←tS];simp[Question.cut]
 obtain⟨g1,e1⟩:=g.drew (w.drawn+1)
 have hOk:=rn (k:=k) (e:=e) (n:=n+m) (cap:=nc) (sz:=sz) (rest:=(Builtin.zeroCells v.cells (nc-(n+m))).toList) g1 hf (Sg.append uk) hle
  (by simp[Builtin.zeroCells,dV,ho3,hn3];rw[←arb,←arb];exact Nat.le_of_eq (by congr 1;omega)) hk
 obtain⟨r,ad,aY,ρ',q1,q2,q3,q4⟩:=hOk
 refine⟨_,_,?_,r,ad,aY,ρ',q1,q2,q3,e1.trans q4⟩
 have acr:=nextslicecap_le hnc
 have Pw: ¬2^48<Builtin.nextslicecap (n+m) cap*db:=by
  have h2:Builtin.nextslicecap (n+m) cap*db≤2*(n+m)*db:=aqI _ acr
  rw[Nat.mul_assoc]at h2
  omega
 have agb: ¬(IntKind.i64.max<((n+m:Nat):Int)):=by simp[IntKind.max,IntKind.signed,IntKind.bits];omega
 have agc: ¬(n+m≤cap):=by omega
 have hwd:w.drew={w with drawn:=w.drawn+1}:=rfl
 have UN:(World.heap {w with drawn:=w.drawn+1}).size=w.heap.size:=rfl
 have vD:uo++un++Builtin.zeroCells v.cells (nc-(n+m))=(uo.toList++un.toList++(Builtin.zeroCells v.cells (nc-(n+m))).toList).toArray:=by
  apply ary
  simp
 have Ey:Question.forced (.appendCap (n+m) cap e)=false:=rfl
 have key: ∀dt,P.underlying t'=some dt→(dt=.string∨ ∃e',dt=.slice e')→(Builtin.append_ #[t,t'] ty #[.slice base n cap,ux]).run P w=
   .ok (.slice (some ⟨w.heap.size,0,none⟩) (n+m) nc) ((World.alloc {w with drawn:=w.drawn+1}) (.cells (uo.toList++un.toList++(Builtin.zeroCells v.cells (nc-(n+m))).toList).toArray e)):=by
  intro dt VT hk
  rcases hk with rfl|⟨e',rfl⟩<;>
  simp only[Builtin.append_,List.getElem?_toArray,aqY,aqM,Sem.run_bind,run_underlying (bQ hu),Result.andThen_ok,cz hs,run_underlying VT,Sem.run_pure,
   aqo,if_false,Sf,Bool.not_false,if_true,agc,typeInfo,run_program,hi,VQ,Pw,agb,false_and,run_choose_drew,Ey,tS,hwd,run_askRoom,ho1,IE,hv,Go.newRow,run_newObj_alloc,UN,vD,gt_iff_lt,Sem.run_ite]
 rcases ht with ht|ht
 ·obtain⟨e',Nd⟩:=aqQ.1 ht
  exact key _ (bQ Nd) (.inr ⟨_,rfl⟩)
 ·exact key _ (kU ht) (.inl rfl)
end
end Go.VS
set_option linter.all false
namespace Go.VS
section
variable {P : Program} {c : Ctx} {rows : List Row} {w : World} {ro : Nat → Prop} {ρ : bP} {k : KV}
theorem run_append_fits{t t' ty e:TypeId}{sz n m cap:Nat}{base:Option Addr}{ux:Value}{un:Array Value}(hu:bt P t=some e)(hs:dW P e=some sz)(ht:(bt P t').isSome=true∨fP P t'=true)
  (Sf:(Builtin.lenOf ux).run P w=.ok m w) (q9:(Builtin.firstCells sz m ux).run P w=.ok un w) (hle:n+m≤cap) {w':World}
  (rz: ∀a,base=some a→(storeCells (a.add (n*sz)) un.toList).run P w=.ok () w') (MS:base=none→w'=w):
  (Builtin.append_ #[t,t'] ty #[.slice base n cap,ux]).run P w=.ok (.slice base (n+m) cap) w':=by
 have key: ∀dt,P.underlying t'=some dt→(dt=.string∨ ∃e',dt=.slice e')→(Builtin.append_ #[t,t'] ty #[.slice base n cap,ux]).run P w=.ok (.slice base (n+m) cap) w':=by
  intro dt VT hk
  cases base with
  |none=>
   rw[MS rfl]
   rcases hk with rfl|⟨e',rfl⟩<;>
   simp only[Builtin.append_,List.getElem?_toArray,aqY,aqM,Sem.run_bind,run_underlying (bQ hu),Result.andThen_ok,cz hs,run_underlying VT,Sem.run_pure,
    aqo,if_false,Sf,Bool.not_false,if_true,hle,q9,Sem.run_ite]
  |some a=>
   rcases hk with rfl|⟨e',rfl⟩<;>
   simp only[Builtin.append_,List.getElem?_toArray,aqY,aqM,Sem.run_bind,run_underlying (bQ hu),Result.andThen_ok,cz hs,run_underlying VT,Sem.run_pure,
    aqo,if_false,Sf,Bool.not_false,if_true,hle,q9,Sem.run_ite,rz a rfl]
 rcases ht with ht|ht
 ·obtain⟨e',Nd⟩:=aqQ.1 ht
  exact key _ (bQ Nd) (.inr ⟨_,rfl⟩)
 ·exact key _ (kU ht) (.inl rfl)
theorem dB.dead{id fi:Nat}{cs:List V}(hf:dB rows id)(hl:rows[fi]?=some (.live cs)):dB (rows.set fi .dead) id:=by
 rcases hf with hf|hf
 ·exact .inl (by simpa using hf)
 ·right
  rw[aqB]
  split
  ·rename_i h;subst h;rw[hl]at hf;simp at hf
  ·exact hf
theorem KQ{t t' ty:TypeId}{s x:V}{us ux:Value}{id:Nat}(g:Good c rows w ro ρ)(hs:Rd w ro ρ us s)(hx:Rd w ro ρ ux x)(ht:(bt P t').isSome=true∨fP P t'=true)
  (h:FL P t s x id rows k):ee P (Builtin.append_ #[t,t'] ty #[us,ux]) c k w ro ρ:=by
 obtain⟨e,sz,db,z,hu,cm,hb,hz,uU,h⟩:=h
 obtain⟨m,new,un,⟨qf,hk⟩,r1,r2,r3,r4⟩:=yd (P:=P) g hx h
 have Py: ∀q,∃us,(Builtin.firstCells sz m ux).run P {w with drawn:=q}=.ok us {w with drawn:=q}∧bh {w with drawn:=q} ro ρ us.toList new∧us.size=m*sz:=
  fun q=>⟨un,r2 _ rfl,r3.ext (g.drew q).2,r4⟩
 cases s with
 |aj=>
  obtain⟨pc,nj,hf,hk⟩:=hk
  obtain rfl:=gX hs
  by_cases hm:m=0
  ·subst hm
   have Pz:new=[]:=by
    have:=r3.1
    simp[r4]at this
    exact apW this.symm
   subst Pz
   have hun:un=#[]:=Array.eq_empty_of_size_eq_zero (by simpa using r4)
   have pU:=run_append_fits (P:=P) (w:=w) (ty:=ty) (n:=0) (cap:=0) (base:=none) (w':=w) hu cm ht r1 (r2 w rfl) (by omega) (fun a ha=>by cases ha) (fun _=>rfl)
   obtain⟨g1,e1⟩:=g.UI (p:=.mU) (cs:=[]) hf (.inr ⟨rfl,rfl⟩)
   exact⟨_,_,pU,.av id 0 0 sz,_,ro,_,hk,g1,.iw (qj g hf _) (fun h=>by cases h) (fun x h=>by cases h),e1⟩
  ·have:=vE (P:=P) (ty:=ty) (n:=0) (cap:=0) (base:=none) (eW:=[]) hu cm hb hz uU ht (by simpa using pc) (by simpa using nj) (by omega) r1 Py
    (fun q=>⟨#[],rfl,⟨rfl,fun i u x hu=>by simp at hu⟩,by simp⟩) g hf (by simpa using hk)
   simpa using this
 |av fi off n cG=>
  obtain⟨rfl,pc,nj,hf,cs,hl,hle,hk⟩:=hk
  have Bg:=hf.dead hl
  obtain⟨g1,e1⟩:=g.kill hl
  rcases vO g hs hl with⟨rfl,rfl,rfl,ajw⟩|⟨y,o,cap,hy,bA,rfl,ho,hn,hm⟩
  ·
   by_cases hm:m=0
   ·subst hm
    have Pz:new=[]:=by
     have:=r3.1
     simp[r4]at this
     exact apW this.symm
    subst Pz
    have pU:=run_append_fits (P:=P) (w:=w) (ty:=ty) (n:=0) (cap:=0) (base:=none) (w':=w) hu cm ht r1 (r2 w rfl) (by omega) (fun a ha=>by cases ha) (fun _=>rfl)
    obtain⟨g2,e2⟩:=g1.UI (p:=.mU) (cs:=[]) Bg (.inr ⟨rfl,rfl⟩)
    exact⟨_,_,pU,.av id 0 0 cG,_,ro,_,by simpa[b7]using hk,g2,.iw (qj g1 Bg _) (fun h=>by cases h) (fun x h=>by cases h),e1.trans e2⟩
   ·have:=vE (P:=P) (ty:=ty) (n:=0) (cap:=0) (base:=none) (eW:=[]) (rows:=rows.set fi .dead) (ρ:=ρ.set fi .dead) hu cm hb hz uU ht pc nj (by omega) r1
     (fun q=>by obtain⟨us,q1,q2,q3⟩:=Py q;exact⟨us,q1,q2.ext ⟨fun _ h=>h,fun _ _=>rfl,e1.own⟩,q3⟩)
     (fun q=>⟨#[],rfl,⟨rfl,fun i u x hu=>by simp at hu⟩,by simp⟩) g1 Bg (by simpa[b7]using hk)
    obtain⟨v,w',p1,r,ad,aY,ρ',p2,p3,p4,p5⟩:=this
    exact⟨v,w',p1,r,ad,aY,ρ',p2,p3,p4,e1.trans p5⟩
  ·have anI:fi<ρ.length:=(apN.1 hy).1
   have VU: ∀(j:Nat) x,(ρ.set fi .dead)[j]?=some (.on x)→x.b≠y.b:=by
    intro j x hj hb
    rw[aqB]at hj
    split at hj
    ·simp at hj
    ·rename_i bw
     exact bw (g.inj fi j y x hy hj hb.symm)
   have hold: ∃uo:List Value,(∀w',w'.heap=w.heap→(Builtin.firstCells cG n (.slice (some ⟨y.b,o,none⟩) n cap)).run P w'=.ok uo.toArray w')∧bh w ro ρ uo (b7 cs off (n*cG))∧uo.length=n*cG:=by
    obtain⟨n',iy,us,⟨e1,e2⟩,q1,q2,q3,q4⟩:=yd (P:=P) (sz:=cG) (K:=fun a b=>a=n∧b=b7 cs off (n*cG)) g hs ⟨rfl,cs,hl,hle,rfl,rfl⟩
    subst e1;subst e2
    exact⟨us.toList,by simpa using q2,q3,by simpa using q4⟩
   obtain⟨uo,ho1,Sg,ho3⟩:=hold
   by_cases yD:n+m≤cap
   ·
    obtain⟨C,te,fr,p1,p2,p3,p4,p5⟩:=bA
    have hmul:(n+m)*cG≤cap*cG:=aqI _ yD
    have ajx:(n+m)*cG=n*cG+m*cG:=arb _ _ _
    obtain⟨w',C',s1,s2,s3,s4,s5,s6,s7,s8,s9⟩:=l9 (P:=P) (b:=y.b) (o:=o+n*cG) un.toList 0 w C (r3.Nz qf) p1 (by rw[p2];exact p3) (by rw[p2];simp[r4];omega)
    have pU:=run_append_fits (P:=P) (w:=w) (ty:=ty) (n:=n) (cap:=cap) (base:=some ⟨y.b,o,none⟩) (w':=w') hu cm ht r1 (r2 w rfl) yD (fun a ha=>by cases ha;rw[add_eq];exact s1) (fun h=>by cases h)
    obtain⟨g2,e2⟩:=g1.loose y.b s2 s3 s4 s5 s6 (g.cK fi y hy).2 VU (g.cK fi y hy).1
    have cY:=e1.trans e2
    have hlen:(b7 cs off (n*cG)).length=n*cG:=by simp[b7];omega
    have F9:new.length=m*cG:=by have:=r3.1;simp[r4]at this;omega
    obtain⟨g3,e3⟩:=g2.add (x:=⟨y.b,o,y.m⟩) (cs:=b7 cs off (n*cG)++new) Bg (by
      refine⟨C',te,fr,s7,by rw[s8,p2],p3,by simp[hlen,F9];omega,fun i v hv=>?_⟩
      show∃u,C'[o+i]?=some u∧_
      rw[s9]
      rw[aqq,hlen]at hv
      split at hv
      ·rename_i hi
       have yp:cap≠0:=by
        intro h0
        subst h0
        have:n=0:=by omega
        subst this
        simp at hi
       have jW:o=y.o+off:=by rcases ho with h|h;exact absurd h yp;exact h
       subst jW
       simp only[b7,aqc,aqb]at hv
       rw[if_pos hi]at hv
       obtain⟨u,kY,u3⟩:=p5 (off+i) v hv
       refine⟨u,?_,u3.ext cY⟩
       rw[if_neg (by simp[r4];omega),←kY]
       congr 1
       omega
      ·rename_i hi
       obtain⟨u,kY,u3⟩:=r3.get hv
       refine⟨u,?_,u3.ext cY⟩
       have aO:=(apN.1 kY).1
       simp at aO
       rw[if_pos (by simp;omega),←kY]
       congr 1
       omega) (g.cK fi y hy).2 VU (g.cK fi y hy).1
    refine⟨_,_,pU,.av id 0 (n+m) cG,_,ro,_,hk,g3,?_,cY.trans e3⟩
    exact .av (qj g2 Bg _) (fun h=>by cases h) (fun h=>by cases h) yD (fun x hx=>by cases hx;exact⟨rfl,rfl,.inr rfl,yD,hm⟩)
   ·have:=vE (P:=P) (ty:=ty) (n:=n) (cap:=cap) (base:=some ⟨y.b,o,none⟩) (eW:=b7 cs off (n*cG)) (rows:=rows.set fi .dead) (ρ:=ρ.set fi .dead) hu cm hb hz uU ht pc nj (by omega) r1
     (fun q=>by obtain⟨us,q1,q2,q3⟩:=Py q;exact⟨us,q1,q2.ext ⟨fun _ h=>h,fun _ _=>rfl,e1.own⟩,q3⟩)
     (fun q=>⟨uo.toArray,ho1 _ rfl,(by rw[List.toList_toArray];exact Sg.ext ⟨fun _ h=>h,fun _ _=>rfl,e1.own⟩),by simpa using ho3⟩) g1 Bg hk
    obtain⟨v,w',p1,r,ad,aY,ρ',p2,p3,p4,p5⟩:=this
    exact⟨v,w',p1,r,ad,aY,ρ',p2,p3,p4,e1.trans p5⟩
 |_=>exact False.elim hk
theorem PA{t t' ty:TypeId}{d x:V}{ud ux:Value}(g:Good c rows w ro ρ)(hd:Rd w ro ρ ud d)(hx:Rd w ro ρ ux x)(h:Pp P t d x rows k):ee P (Builtin.copy_ #[t,t'] ty #[ud,ux]) c k w ro ρ:=by
 cases d with
 |av id off n sz=>
  obtain⟨e,cs,hu,hs,hl,bw,hle,h⟩:=h
  obtain⟨m,new,un,⟨hm,qf,hk⟩,r1,r2,r3,r4⟩:=G2 (P:=P) g hx h
  have F9:new.length=m*sz:=by have:=r3.1;simp[r4]at this;omega
  have hmul:m*sz≤n*sz:=aqI _ hm
  rcases vO g hd hl with⟨-,-,rfl,-⟩|⟨y,o,cap,hy,bA,rfl,ho,hn,Zh⟩
  ·exact absurd rfl bw
  ·have agd:Nat.min m n=m:=arM hm
   by_cases yp:cap=0
   ·subst yp
    obtain rfl:n=0:=by omega
    obtain rfl:m=0:=by omega
    have Dd:new=[]:=apW (by simpa using F9)
    subst Dd
    have Ac:un=#[]:=Array.eq_empty_of_size_eq_zero (by simpa using r4)
    subst Ac
    rw[eB,pY hl]at hk
    exact .same (v:=.int .i64 0) g (by simp[Builtin.copy_,run_underlying (bQ hu),r1,cz hs,r2,storeCells,goInt]) .int (by simpa using hk)
   ·obtain rfl:o=y.o+off:=by rcases ho with h|h;exact absurd h yp;exact h
    obtain⟨w',s1,g1,e1⟩:=g.stored (P:=P) (off:=off) hl hy r3 qf (by omega)
    refine⟨.int .i64 m,w',?_,.int .i64 m,_,ro,ρ,hk,g1,.int,e1⟩
    have acs:min m n=m:=agd
    simp[Builtin.copy_,run_underlying (bQ hu),r1,acs,cz hs,r2,s1,goInt]
 |_=>exact False.elim h
theorem Ad{mx:Bool}{ts:Array TypeId}{ty:TypeId}{args:List V}{us:List Value}(g:Good c rows w ro ρ)(ha:bh w ro ρ us args)(h:js mx args fun v=>k v rows):
  ee P (if mx then Builtin.max_ ts ty us.toArray else Builtin.min_ ts ty us.toArray) c k w ro ρ:=by
 unfold js at h
 split at h
 ·rename_i kd a cH b
  obtain⟨rfl,h⟩:=h
  match us,ha with
  |[u,v],ha=>
   obtain rfl:=ga (ha.2 0 u _ rfl rfl)
   obtain rfl:=ga (ha.2 1 v _ rfl rfl)
   cases mx
   ·exact .same g (by simp[Builtin.min_,Builtin.min2]) .int h
   ·exact .same g (by simp[Builtin.max_,Builtin.max2]) .int h
  |[],ha=>simp[bh]at ha
  |[_],ha=>simp[bh]at ha
  |_::_::_::_,ha=>simp[bh]at ha
 ·rename_i kd a cH b aaJ c
  obtain⟨rfl,rfl,h⟩:=h
  match us,ha with
  |[u,v,q],ha=>
   obtain rfl:=ga (ha.2 0 u _ rfl rfl)
   obtain rfl:=ga (ha.2 1 v _ rfl rfl)
   obtain rfl:=ga (ha.2 2 q _ rfl rfl)
   cases mx
   ·exact .same g (by simp[Builtin.min_,Builtin.min2]) .int h
   ·exact .same g (by simp[Builtin.max_,Builtin.max2]) .int h
  |[],ha=>simp[bh]at ha
  |[_],ha=>simp[bh]at ha
  |[_,_],ha=>simp[bh]at ha
  |_::_::_::_::_,ha=>simp[bh]at ha
 ·exact h.elim
end
end Go.VS
