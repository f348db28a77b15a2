/-
 VALUE SEMANTICS: what the program's type table says, type by type. Printed by gentab.py.
 Conditions: none.
-/
import Derived.Test.YtjlnoogcggdhkaaGreatDoorGc
import Derived.Test.YtjlnoogcggdhkaaGreatDoorRows
namespace Go.Proofs.YtjlnoogcggdhkaaGreatDoor
open Go.Proofs.Tryz
open Go.VS
abbrev TY(P:Program)(t n b:Nat)(a:Bool)(s:Option TypeId)(r:Option (Nat×TypeId))(i:Option IntKind)(c f:Bool):Prop:=dW P t=some n∧nH P t=some b∧p9 P t=some a∧bt P t=s∧x6 P t=r∧uint P t=i∧fP P t=c∧KG P t=some f
abbrev TF(P:Program)(t k f o n:Nat):Prop:=tq P t k=some (f,o)∧l8 P t k=some (o,n)
@[simp] theorem tb0:TY prog 0 1 0 false none none none false false:=by and_intros<;>kernel_rfl
@[simp] theorem tb1:TY prog 1 1 8 false none none none false false∧ag prog 1=some [.aq]:=by and_intros<;>kernel_rfl
@[simp] theorem tb2:TY prog 2 1 8 false none none (some .i64) false false∧ag prog 2=some [.int .i64 0]:=by and_intros<;>kernel_rfl
@[simp] theorem tb3:TY prog 3 1 8 false none none (some .i64) false false∧ag prog 3=some [.int .i64 0]:=by and_intros<;>kernel_rfl
@[simp] theorem tb4:TY prog 4 1 1 false none none none false false∧HV prog 4=true∧ag prog 4=some [.bool false]:=by and_intros<;>kernel_rfl
@[simp] theorem tb5:TY prog 5 1 1 false none none (some .u8) false false∧ag prog 5=some [.int .u8 0]:=by and_intros<;>kernel_rfl
@[simp] theorem tb6:TY prog 6 1 1 false none none (some .u8) false false∧ag prog 6=some [.int .u8 0]:=by and_intros<;>kernel_rfl
@[simp] theorem tb7:TY prog 7 4 24 true none none none false false∧TF prog 7 0 2 0 1∧TF prog 7 1 3 1 1∧TF prog 7 2 4 2 1∧TF prog 7 3 6 3 1∧(ba prog 7).isSome=true∧ag prog 7=some [.int .i64 0,.int .i64 0,.bool false,.int .u8 0]:=by and_intros<;>kernel_rfl
@[simp] theorem tb8:TY prog 8 4 24 true none none none false false∧TF prog 8 0 2 0 1∧TF prog 8 1 3 1 1∧TF prog 8 2 4 2 1∧TF prog 8 3 6 3 1∧(ba prog 8).isSome=true∧ag prog 8=some [.int .i64 0,.int .i64 0,.bool false,.int .u8 0]:=by and_intros<;>kernel_rfl
@[simp] theorem tb9:TY prog 9 1 16 false none none none true false∧ag prog 9=some [.str []]:=by and_intros<;>kernel_rfl
@[simp] theorem anM:TY prog 10 1 16 false none none none true false∧ag prog 10=some [.str []]:=by and_intros<;>kernel_rfl
@[simp] theorem anN:TY prog 11 1 16 false none none none true false∧ag prog 11=some [.str []]:=by and_intros<;>kernel_rfl
@[simp] theorem anO:TY prog 12 1 8 false none none (some .u64) false false∧ag prog 12=some [.int .u64 0]:=by and_intros<;>kernel_rfl
@[simp] theorem anP:TY prog 13 2 24 true none none none false false∧TF prog 13 0 9 0 1∧TF prog 13 1 12 1 1∧(ba prog 13).isSome=true∧ag prog 13=some [.str [],.int .u64 0]:=by and_intros<;>kernel_rfl
@[simp] theorem anQ:TY prog 14 2 24 true none none none false false∧TF prog 14 0 9 0 1∧TF prog 14 1 12 1 1∧(ba prog 14).isSome=true∧ag prog 14=some [.str [],.int .u64 0]:=by and_intros<;>kernel_rfl
@[simp] theorem anR:TY prog 15 1 8 false none none none false false∧mQ prog 15=true∧ag prog 15=some [.bR]:=by and_intros<;>kernel_rfl
@[simp] theorem anS:TY prog 16 1 8 false none none none false false∧mQ prog 16=true∧ag prog 16=some [.bR]:=by and_intros<;>kernel_rfl
@[simp] theorem anT:TY prog 17 1 8 false none none none false false∧mQ prog 17=true∧ag prog 17=some [.bR]:=by and_intros<;>kernel_rfl
@[simp] theorem anU:TY prog 18 1 8 true none none none false false∧TF prog 18 0 17 0 1∧(ba prog 18).isSome=true∧ag prog 18=some [.bR]:=by and_intros<;>kernel_rfl
@[simp] theorem anV:TY prog 19 1 8 true none none none false false∧TF prog 19 0 17 0 1∧(ba prog 19).isSome=true∧ag prog 19=some [.bR]:=by and_intros<;>kernel_rfl
@[simp] theorem anW:TY prog 20 1 16 false none none none false true∧ag prog 20=some [.cL]:=by and_intros<;>kernel_rfl
@[simp] theorem anX:TY prog 21 1 4 false none none (some .i32) false false∧ag prog 21=some [.int .i32 0]:=by and_intros<;>kernel_rfl
@[simp] theorem anY:TY prog 22 1 24 false (some 3) none none false false∧ag prog 22=some [.aj]:=by and_intros<;>kernel_rfl
@[simp] theorem anZ:TY prog 23 1 8 false none none none false false∧mQ prog 23=true∧ag prog 23=some [.bR]:=by and_intros<;>kernel_rfl
@[simp] theorem an0:TY prog 24 1 8 false none none none false false∧ag prog 24=some [.aq]:=by and_intros<;>kernel_rfl
@[simp] theorem an1:TY prog 25 1 24 false (some 103) none none false false∧ag prog 25=some [.aj]:=by and_intros<;>kernel_rfl
@[simp] theorem an2:TY prog 26 1 24 true none none none false false∧TF prog 26 0 25 0 1∧(ba prog 26).isSome=true∧ag prog 26=some [.aj]:=by and_intros<;>kernel_rfl
@[simp] theorem an3:TY prog 27 1 24 true none none none false false∧TF prog 27 0 25 0 1∧(ba prog 27).isSome=true∧ag prog 27=some [.aj]:=by and_intros<;>kernel_rfl
@[simp] theorem an4:TY prog 28 3 40 true none none none false false∧TF prog 28 0 3 0 1∧TF prog 28 1 9 1 1∧TF prog 28 2 9 2 1∧(ba prog 28).isSome=true∧ag prog 28=some [.int .i64 0,.str [],.str []]:=by and_intros<;>kernel_rfl
@[simp] theorem an5:TY prog 29 3 40 true none none none false false∧TF prog 29 0 3 0 1∧TF prog 29 1 9 1 1∧TF prog 29 2 9 2 1∧(ba prog 29).isSome=true∧ag prog 29=some [.int .i64 0,.str [],.str []]:=by and_intros<;>kernel_rfl
@[simp] theorem an6:TY prog 30 1 24 false (some 40) none none false false∧ag prog 30=some [.aj]:=by and_intros<;>kernel_rfl
@[simp] theorem an7:TY prog 31 1 24 true none none none false false∧TF prog 31 0 30 0 1∧(ba prog 31).isSome=true∧ag prog 31=some [.aj]:=by and_intros<;>kernel_rfl
@[simp] theorem an8:TY prog 32 1 24 true none none none false false∧TF prog 32 0 30 0 1∧(ba prog 32).isSome=true∧ag prog 32=some [.aj]:=by and_intros<;>kernel_rfl
@[simp] theorem an9:TY prog 33 10 128 true none none none false false∧TF prog 33 0 27 0 1∧TF prog 33 1 29 1 3∧TF prog 33 2 4 4 1∧TF prog 33 3 3 5 1∧TF prog 33 4 3 6 1∧TF prog 33 5 3 7 1∧TF prog 33 6 3 8 1∧TF prog 33 7 32 9 1∧(ba prog 33).isSome=true∧ag prog 33=some [.aj,.int .i64 0,.str [],.str [],.bool false,.int .i64 0,.int .i64 0,.int .i64 0,.int .i64 0,.aj]:=by and_intros<;>kernel_rfl
@[simp] theorem aoa:TY prog 34 10 128 true none none none false false∧TF prog 34 0 27 0 1∧TF prog 34 1 29 1 3∧TF prog 34 2 4 4 1∧TF prog 34 3 3 5 1∧TF prog 34 4 3 6 1∧TF prog 34 5 3 7 1∧TF prog 34 6 3 8 1∧TF prog 34 7 32 9 1∧(ba prog 34).isSome=true∧ag prog 34=some [.aj,.int .i64 0,.str [],.str [],.bool false,.int .i64 0,.int .i64 0,.int .i64 0,.int .i64 0,.aj]:=by and_intros<;>kernel_rfl
@[simp] theorem aob:TY prog 35 1 8 false none none none false false∧ag prog 35=some [.aq]:=by and_intros<;>kernel_rfl
@[simp] theorem aoc:TY prog 36 1 24 false (some 9) none none false false∧ag prog 36=some [.aj]:=by and_intros<;>kernel_rfl
@[simp] theorem aod:TY prog 37 1 24 false (some 114) none none false false∧ag prog 37=some [.aj]:=by and_intros<;>kernel_rfl
@[simp] theorem aoe:TY prog 38 1 24 false (some 70) none none false false∧ag prog 38=some [.aj]:=by and_intros<;>kernel_rfl
@[simp] theorem aof:TY prog 39 2 48 true none none none false false∧TF prog 39 0 38 0 1∧TF prog 39 1 38 1 1∧(ba prog 39).isSome=true∧ag prog 39=some [.aj,.aj]:=by and_intros<;>kernel_rfl
@[simp] theorem aog:TY prog 40 2 48 true none none none false false∧TF prog 40 0 38 0 1∧TF prog 40 1 38 1 1∧(ba prog 40).isSome=true∧ag prog 40=some [.aj,.aj]:=by and_intros<;>kernel_rfl
@[simp] theorem aoh:TY prog 41 1 24 false (some 202) none none false false∧ag prog 41=some [.aj]:=by and_intros<;>kernel_rfl
@[simp] theorem aoi:TY prog 42 1 24 false (some 152) none none false false∧ag prog 42=some [.aj]:=by and_intros<;>kernel_rfl
@[simp] theorem aoj:TY prog 43 19 304 true none none none false false∧TF prog 43 0 4 0 1∧TF prog 43 1 4 1 1∧TF prog 43 2 3 2 1∧TF prog 43 3 3 3 1∧TF prog 43 4 36 4 1∧TF prog 43 5 36 5 1∧TF prog 43 6 37 6 1∧TF prog 43 7 3 7 1∧TF prog 43 8 3 8 1∧TF prog 43 9 3 9 1∧TF prog 43 10 38 10 1∧TF prog 43 11 4 11 1∧TF prog 43 12 40 12 2∧TF prog 43 13 9 14 1∧TF prog 43 14 9 15 1∧TF prog 43 15 41 16 1∧TF prog 43 16 41 17 1∧TF prog 43 17 42 18 1∧(ba prog 43).isSome=true∧ag prog 43=some [.bool false,.bool false,.int .i64 0,.int .i64 0,.aj,.aj,.aj,.int .i64 0,.int .i64 0,.int .i64 0,.aj,.bool false,.aj,.aj,.str [],.str [],.aj,.aj,.aj]:=by and_intros<;>kernel_rfl
@[simp] theorem aok:TY prog 44 19 304 true none none none false false∧TF prog 44 0 4 0 1∧TF prog 44 1 4 1 1∧TF prog 44 2 3 2 1∧TF prog 44 3 3 3 1∧TF prog 44 4 36 4 1∧TF prog 44 5 36 5 1∧TF prog 44 6 37 6 1∧TF prog 44 7 3 7 1∧TF prog 44 8 3 8 1∧TF prog 44 9 3 9 1∧TF prog 44 10 38 10 1∧TF prog 44 11 4 11 1∧TF prog 44 12 40 12 2∧TF prog 44 13 9 14 1∧TF prog 44 14 9 15 1∧TF prog 44 15 41 16 1∧TF prog 44 16 41 17 1∧TF prog 44 17 42 18 1∧(ba prog 44).isSome=true∧ag prog 44=some [.bool false,.bool false,.int .i64 0,.int .i64 0,.aj,.aj,.aj,.int .i64 0,.int .i64 0,.int .i64 0,.aj,.bool false,.aj,.aj,.str [],.str [],.aj,.aj,.aj]:=by and_intros<;>kernel_rfl
@[simp] theorem aol:TY prog 45 30 464 true none none none false false∧TF prog 45 0 9 0 1∧TF prog 45 1 9 1 1∧TF prog 45 2 3 2 1∧TF prog 45 3 27 3 1∧TF prog 45 4 27 4 1∧TF prog 45 5 3 5 1∧TF prog 45 6 3 6 1∧TF prog 45 7 29 7 3∧TF prog 45 8 44 10 19∧TF prog 45 9 9 29 1∧(ba prog 45).isSome=true∧ag prog 45=some [.str [],.str [],.int .i64 0,.aj,.aj,.int .i64 0,.int .i64 0,.int .i64 0,.str [],.str [],.bool false,.bool false,.int .i64 0,.int .i64 0,.aj,.aj,.aj,.int .i64 0,.int .i64 0,.int .i64 0,.aj,.bool false,.aj,.aj,.str [],.str [],.aj,.aj,.aj,.str []]:=by and_intros<;>kernel_rfl
@[simp] theorem aom:TY prog 46 30 464 true none none none false false∧TF prog 46 0 9 0 1∧TF prog 46 1 9 1 1∧TF prog 46 2 3 2 1∧TF prog 46 3 27 3 1∧TF prog 46 4 27 4 1∧TF prog 46 5 3 5 1∧TF prog 46 6 3 6 1∧TF prog 46 7 29 7 3∧TF prog 46 8 44 10 19∧TF prog 46 9 9 29 1∧(ba prog 46).isSome=true∧ag prog 46=some [.str [],.str [],.int .i64 0,.aj,.aj,.int .i64 0,.int .i64 0,.int .i64 0,.str [],.str [],.bool false,.bool false,.int .i64 0,.int .i64 0,.aj,.aj,.aj,.int .i64 0,.int .i64 0,.int .i64 0,.aj,.bool false,.aj,.aj,.str [],.str [],.aj,.aj,.aj,.str []]:=by and_intros<;>kernel_rfl
@[simp] theorem aon:TY prog 47 1 8 false none none none false false∧ag prog 47=some [.aq]:=by and_intros<;>kernel_rfl
@[simp] theorem aoo:TY prog 48 1 8 false none none none false false∧ag prog 48=some [.aq]:=by and_intros<;>kernel_rfl
@[simp] theorem aop:TY prog 49 1 24 false (some 59) none none false false∧ag prog 49=some [.aj]:=by and_intros<;>kernel_rfl
@[simp] theorem aoq:TY prog 50 11 128 true none none none false false∧TF prog 50 0 3 0 1∧TF prog 50 1 9 1 1∧TF prog 50 2 3 2 1∧TF prog 50 3 36 3 1∧TF prog 50 4 4 4 1∧TF prog 50 5 4 5 1∧TF prog 50 6 4 6 1∧TF prog 50 7 38 7 1∧TF prog 50 8 3 8 1∧TF prog 50 9 4 9 1∧TF prog 50 10 49 10 1∧(ba prog 50).isSome=true∧ag prog 50=some [.int .i64 0,.str [],.int .i64 0,.aj,.bool false,.bool false,.bool false,.aj,.int .i64 0,.bool false,.aj]:=by and_intros<;>kernel_rfl
@[simp] theorem aor:TY prog 51 11 128 true none none none false false∧TF prog 51 0 3 0 1∧TF prog 51 1 9 1 1∧TF prog 51 2 3 2 1∧TF prog 51 3 36 3 1∧TF prog 51 4 4 4 1∧TF prog 51 5 4 5 1∧TF prog 51 6 4 6 1∧TF prog 51 7 38 7 1∧TF prog 51 8 3 8 1∧TF prog 51 9 4 9 1∧TF prog 51 10 49 10 1∧(ba prog 51).isSome=true∧ag prog 51=some [.int .i64 0,.str [],.int .i64 0,.aj,.bool false,.bool false,.bool false,.aj,.int .i64 0,.bool false,.aj]:=by and_intros<;>kernel_rfl
@[simp] theorem aos:TY prog 52 1 8 false none none none false false∧ag prog 52=some [.aq]:=by and_intros<;>kernel_rfl
@[simp] theorem aot:TY prog 53 1 8 false none none none false false∧ag prog 53=some [.aq]:=by and_intros<;>kernel_rfl
@[simp] theorem aou:TY prog 54 1 8 false none none none false false∧ag prog 54=some [.aq]:=by and_intros<;>kernel_rfl
@[simp] theorem aov:TY prog 55 1 8 false none none none false false∧ag prog 55=some [.aq]:=by and_intros<;>kernel_rfl
@[simp] theorem aow:TY prog 56 2 32 true none none none false false∧TF prog 56 0 22 0 1∧TF prog 56 1 3 1 1∧(ba prog 56).isSome=true∧ag prog 56=some [.aj,.int .i64 0]:=by and_intros<;>kernel_rfl
@[simp] theorem aox:TY prog 57 2 32 true none none none false false∧TF prog 57 0 22 0 1∧TF prog 57 1 3 1 1∧(ba prog 57).isSome=true∧ag prog 57=some [.aj,.int .i64 0]:=by and_intros<;>kernel_rfl
@[simp] theorem aoy:TY prog 58 4 64 true none none none false false∧TF prog 58 0 27 0 1∧TF prog 58 1 29 1 3∧(ba prog 58).isSome=true∧ag prog 58=some [.aj,.int .i64 0,.str [],.str []]:=by and_intros<;>kernel_rfl
@[simp] theorem aoz:TY prog 59 4 64 true none none none false false∧TF prog 59 0 27 0 1∧TF prog 59 1 29 1 3∧(ba prog 59).isSome=true∧ag prog 59=some [.aj,.int .i64 0,.str [],.str []]:=by and_intros<;>kernel_rfl
@[simp] theorem aoA:TY prog 60 1 8 false none none none false false∧ag prog 60=some [.aq]:=by and_intros<;>kernel_rfl
@[simp] theorem aoB:TY prog 61 1 8 false none none none false false∧ag prog 61=some [.aq]:=by and_intros<;>kernel_rfl
@[simp] theorem aoC:TY prog 62 1 8 false none none none false false∧ag prog 62=some [.aq]:=by and_intros<;>kernel_rfl
@[simp] theorem aoD:TY prog 63 1 24 false (some 36) none none false false∧ag prog 63=some [.aj]:=by and_intros<;>kernel_rfl
@[simp] theorem aoE:TY prog 64 3 56 true none none none false false∧TF prog 64 0 9 0 1∧TF prog 64 1 9 1 1∧TF prog 64 2 63 2 1∧(ba prog 64).isSome=true∧ag prog 64=some [.str [],.str [],.aj]:=by and_intros<;>kernel_rfl
@[simp] theorem aoF:TY prog 65 3 56 true none none none false false∧TF prog 65 0 9 0 1∧TF prog 65 1 9 1 1∧TF prog 65 2 63 2 1∧(ba prog 65).isSome=true∧ag prog 65=some [.str [],.str [],.aj]:=by and_intros<;>kernel_rfl
@[simp] theorem aoG:TY prog 66 1 8 false none none none false false∧ag prog 66=some [.aq]:=by and_intros<;>kernel_rfl
@[simp] theorem aoH:TY prog 67 1 8 false none none none false false∧ag prog 67=some [.aq]:=by and_intros<;>kernel_rfl
@[simp] theorem aoI:TY prog 68 1 8 false none none none false false∧ag prog 68=some [.aq]:=by and_intros<;>kernel_rfl
@[simp] theorem aoJ:TY prog 69 3 48 true none none none false false∧TF prog 69 0 3 0 1∧TF prog 69 1 9 1 1∧TF prog 69 2 27 2 1∧(ba prog 69).isSome=true∧ag prog 69=some [.int .i64 0,.str [],.aj]:=by and_intros<;>kernel_rfl
@[simp] theorem aoK:TY prog 70 3 48 true none none none false false∧TF prog 70 0 3 0 1∧TF prog 70 1 9 1 1∧TF prog 70 2 27 2 1∧(ba prog 70).isSome=true∧ag prog 70=some [.int .i64 0,.str [],.aj]:=by and_intros<;>kernel_rfl
@[simp] theorem aoL:TY prog 71 1 8 false none none none false false∧ag prog 71=some [.aq]:=by and_intros<;>kernel_rfl
@[simp] theorem aoM:TY prog 72 1 8 false none none (some .i64) false false∧ag prog 72=some [.int .i64 0]:=by and_intros<;>kernel_rfl
@[simp] theorem aoN:TY prog 73 1 8 false none none none false false∧ag prog 73=some [.aq]:=by and_intros<;>kernel_rfl
@[simp] theorem aoO:TY prog 74 2 16 true none none none false false∧TF prog 74 0 3 0 1∧TF prog 74 1 54 1 1∧(ba prog 74).isSome=true∧ag prog 74=some [.int .i64 0,.aq]:=by and_intros<;>kernel_rfl
@[simp] theorem aoP:TY prog 75 2 16 true none none none false false∧TF prog 75 0 3 0 1∧TF prog 75 1 54 1 1∧(ba prog 75).isSome=true∧ag prog 75=some [.int .i64 0,.aq]:=by and_intros<;>kernel_rfl
@[simp] theorem aoQ:TY prog 76 1 8 false none none none false false∧ag prog 76=some [.aq]:=by and_intros<;>kernel_rfl
@[simp] theorem aoR:TY prog 77 1 8 false none none none false false∧ag prog 77=some [.aq]:=by and_intros<;>kernel_rfl
@[simp] theorem aoS:TY prog 78 1 8 false none none none false false∧ag prog 78=some [.aq]:=by and_intros<;>kernel_rfl
@[simp] theorem aoT:TY prog 79 12 96 true none (some (6,75)) none false false∧(ba prog 79).isSome=true∧ag prog 79=some [.int .i64 0,.aq,.int .i64 0,.aq,.int .i64 0,.aq,.int .i64 0,.aq,.int .i64 0,.aq,.int .i64 0,.aq]:=by and_intros<;>kernel_rfl
@[simp] theorem aoU:TY prog 80 1 8 false none none none false false∧ag prog 80=some [.aq]:=by and_intros<;>kernel_rfl
@[simp] theorem aoV:TY prog 81 1 8 false none none none false false∧ag prog 81=some [.aq]:=by and_intros<;>kernel_rfl
@[simp] theorem aoW:TY prog 82 1 8 false none none none false false∧ag prog 82=some [.aq]:=by and_intros<;>kernel_rfl
@[simp] theorem aoX:TY prog 83 1 0 false none none none false false:=by and_intros<;>kernel_rfl
@[simp] theorem aoY:TY prog 84 1 8 false none none none false false∧ag prog 84=some [.aq]:=by and_intros<;>kernel_rfl
@[simp] theorem aoZ:TY prog 85 1 8 false none none none false false∧ag prog 85=some [.aq]:=by and_intros<;>kernel_rfl
@[simp] theorem ao0:TY prog 86 1 8 false none none none false false∧ag prog 86=some [.aq]:=by and_intros<;>kernel_rfl
@[simp] theorem ao1:TY prog 87 1 8 false none none none false false∧ag prog 87=some [.aq]:=by and_intros<;>kernel_rfl
@[simp] theorem ao2:TY prog 88 1 0 false none none none false false:=by and_intros<;>kernel_rfl
@[simp] theorem ao3:TY prog 89 1 8 false none none none false false∧ag prog 89=some [.aq]:=by and_intros<;>kernel_rfl
@[simp] theorem ao4:TY prog 90 1 8 false none none none false false∧ag prog 90=some [.aq]:=by and_intros<;>kernel_rfl
@[simp] theorem ao5:TY prog 91 1 8 false none none none false false∧ag prog 91=some [.aq]:=by and_intros<;>kernel_rfl
@[simp] theorem ao6:TY prog 92 1 0 false none none none false false:=by and_intros<;>kernel_rfl
@[simp] theorem ao7:TY prog 93 1 8 false none none none false false∧ag prog 93=some [.aq]:=by and_intros<;>kernel_rfl
@[simp] theorem ao8:TY prog 94 1 8 false none none none false false∧ag prog 94=some [.aq]:=by and_intros<;>kernel_rfl
@[simp] theorem ao9:TY prog 95 1 0 false none none none false false:=by and_intros<;>kernel_rfl
@[simp] theorem apa:TY prog 96 1 8 false none none none false false∧ag prog 96=some [.aq]:=by and_intros<;>kernel_rfl
@[simp] theorem apb:TY prog 97 1 8 false none none none false false∧mQ prog 97=true∧ag prog 97=some [.bR]:=by and_intros<;>kernel_rfl
@[simp] theorem apc:TY prog 98 1 8 false none none none false false∧ag prog 98=some [.aq]:=by and_intros<;>kernel_rfl
@[simp] theorem apd:TY prog 99 1 8 false none none none false false∧ag prog 99=some [.aq]:=by and_intros<;>kernel_rfl
@[simp] theorem ajz:TY prog 100 1 8 false none none none false false∧ag prog 100=some [.aq]:=by and_intros<;>kernel_rfl
@[simp] theorem ajA:TY prog 101 1 8 false none none none false false∧ag prog 101=some [.aq]:=by and_intros<;>kernel_rfl
@[simp] theorem ajB:TY prog 102 1 8 false none none none false false∧ag prog 102=some [.aq]:=by and_intros<;>kernel_rfl
@[simp] theorem ajC:TY prog 103 1 24 false (some 105) none none false false∧ag prog 103=some [.aj]:=by and_intros<;>kernel_rfl
@[simp] theorem ajD:TY prog 104 3 40 true none none none false false∧TF prog 104 0 9 0 1∧TF prog 104 1 3 1 1∧TF prog 104 2 9 2 1∧(ba prog 104).isSome=true∧ag prog 104=some [.str [],.int .i64 0,.str []]:=by and_intros<;>kernel_rfl
@[simp] theorem ajE:TY prog 105 3 40 true none none none false false∧TF prog 105 0 9 0 1∧TF prog 105 1 3 1 1∧TF prog 105 2 9 2 1∧(ba prog 105).isSome=true∧ag prog 105=some [.str [],.int .i64 0,.str []]:=by and_intros<;>kernel_rfl
@[simp] theorem ajF:TY prog 106 1 8 false none none none false false∧ag prog 106=some [.aq]:=by and_intros<;>kernel_rfl
@[simp] theorem ajG:TY prog 107 1 0 false none none none false false:=by and_intros<;>kernel_rfl
@[simp] theorem ajH:TY prog 108 1 8 false none none none false false∧ag prog 108=some [.aq]:=by and_intros<;>kernel_rfl
@[simp] theorem ajI:TY prog 109 1 8 false none none none false false∧ag prog 109=some [.aq]:=by and_intros<;>kernel_rfl
@[simp] theorem ajJ:TY prog 110 1 8 false none none none false false∧ag prog 110=some [.aq]:=by and_intros<;>kernel_rfl
@[simp] theorem ajK:TY prog 111 1 8 false none none none false false∧ag prog 111=some [.aq]:=by and_intros<;>kernel_rfl
@[simp] theorem ajL:TY prog 112 1 8 false none none none false false∧ag prog 112=some [.aq]:=by and_intros<;>kernel_rfl
@[simp] theorem ajM:TY prog 113 2 32 true none none none false false∧TF prog 113 0 9 0 1∧TF prog 113 1 9 1 1∧(ba prog 113).isSome=true∧ag prog 113=some [.str [],.str []]:=by and_intros<;>kernel_rfl
@[simp] theorem ajN:TY prog 114 2 32 true none none none false false∧TF prog 114 0 9 0 1∧TF prog 114 1 9 1 1∧(ba prog 114).isSome=true∧ag prog 114=some [.str [],.str []]:=by and_intros<;>kernel_rfl
@[simp] theorem ajO:TY prog 115 1 8 false none none none false false∧ag prog 115=some [.aq]:=by and_intros<;>kernel_rfl
@[simp] theorem ajP:TY prog 116 1 8 false none none none false false∧ag prog 116=some [.aq]:=by and_intros<;>kernel_rfl
@[simp] theorem ajQ:TY prog 117 1 8 false none none none false false∧ag prog 117=some [.aq]:=by and_intros<;>kernel_rfl
@[simp] theorem ajR:TY prog 118 1 8 false none none none false false∧ag prog 118=some [.aq]:=by and_intros<;>kernel_rfl
@[simp] theorem ajS:TY prog 119 1 8 false none none none false false∧mQ prog 119=true∧ag prog 119=some [.bR]:=by and_intros<;>kernel_rfl
@[simp] theorem ajT:TY prog 120 1 24 false (some 119) none none false false∧ag prog 120=some [.aj]:=by and_intros<;>kernel_rfl
@[simp] theorem ajU:TY prog 121 1 8 false none none none false false∧ag prog 121=some [.aq]:=by and_intros<;>kernel_rfl
@[simp] theorem ajV:TY prog 122 1 8 false none none none false false∧ag prog 122=some [.aq]:=by and_intros<;>kernel_rfl
@[simp] theorem ajW:TY prog 123 1 8 false none none none false false∧ag prog 123=some [.aq]:=by and_intros<;>kernel_rfl
@[simp] theorem ajX:TY prog 124 1 8 false none none none false false∧ag prog 124=some [.aq]:=by and_intros<;>kernel_rfl
@[simp] theorem ajY:TY prog 125 1 8 false none none none false false∧ag prog 125=some [.aq]:=by and_intros<;>kernel_rfl
@[simp] theorem ajZ:TY prog 126 1 8 false none none none false false∧ag prog 126=some [.aq]:=by and_intros<;>kernel_rfl
@[simp] theorem aj0:TY prog 127 1 8 false none none none false false∧ag prog 127=some [.aq]:=by and_intros<;>kernel_rfl
@[simp] theorem aj1:TY prog 128 1 8 false none none none false false∧ag prog 128=some [.aq]:=by and_intros<;>kernel_rfl
@[simp] theorem aj2:TY prog 129 1 8 false none none none false false∧ag prog 129=some [.aq]:=by and_intros<;>kernel_rfl
@[simp] theorem aj3:TY prog 130 1 8 false none none none false false∧ag prog 130=some [.aq]:=by and_intros<;>kernel_rfl
@[simp] theorem aj4:TY prog 131 1 8 false none none none false false∧ag prog 131=some [.aq]:=by and_intros<;>kernel_rfl
@[simp] theorem aj5:TY prog 132 1 8 false none none none false false∧ag prog 132=some [.aq]:=by and_intros<;>kernel_rfl
@[simp] theorem aj6:TY prog 133 1 8 false none none none false false∧ag prog 133=some [.aq]:=by and_intros<;>kernel_rfl
@[simp] theorem aj7:TY prog 134 3 40 true none none none false false∧TF prog 134 0 3 0 1∧TF prog 134 1 9 1 1∧TF prog 134 2 9 2 1∧(ba prog 134).isSome=true∧ag prog 134=some [.int .i64 0,.str [],.str []]:=by and_intros<;>kernel_rfl
@[simp] theorem aj8:TY prog 135 3 40 true none none none false false∧TF prog 135 0 3 0 1∧TF prog 135 1 9 1 1∧TF prog 135 2 9 2 1∧(ba prog 135).isSome=true∧ag prog 135=some [.int .i64 0,.str [],.str []]:=by and_intros<;>kernel_rfl
@[simp] theorem aj9:TY prog 136 1 0 false none none none false false:=by and_intros<;>kernel_rfl
@[simp] theorem aka:TY prog 137 1 8 false none none none false false∧ag prog 137=some [.aq]:=by and_intros<;>kernel_rfl
@[simp] theorem akb:TY prog 138 1 24 false (some 135) none none false false∧ag prog 138=some [.aj]:=by and_intros<;>kernel_rfl
@[simp] theorem akc:TY prog 139 2 32 true none none none false false∧TF prog 139 0 138 0 1∧TF prog 139 1 3 1 1∧(ba prog 139).isSome=true∧ag prog 139=some [.aj,.int .i64 0]:=by and_intros<;>kernel_rfl
@[simp] theorem akd:TY prog 140 2 32 true none none none false false∧TF prog 140 0 138 0 1∧TF prog 140 1 3 1 1∧(ba prog 140).isSome=true∧ag prog 140=some [.aj,.int .i64 0]:=by and_intros<;>kernel_rfl
@[simp] theorem ake:TY prog 141 1 0 false none none none false false:=by and_intros<;>kernel_rfl
@[simp] theorem akf:TY prog 142 1 8 false none none none false false∧ag prog 142=some [.aq]:=by and_intros<;>kernel_rfl
@[simp] theorem akg:TY prog 143 1 8 false none none none false false∧ag prog 143=some [.aq]:=by and_intros<;>kernel_rfl
@[simp] theorem akh:TY prog 144 1 8 false none none none false false∧ag prog 144=some [.aq]:=by and_intros<;>kernel_rfl
@[simp] theorem aki:TY prog 145 1 8 false none none none false false∧ag prog 145=some [.aq]:=by and_intros<;>kernel_rfl
@[simp] theorem akj:TY prog 146 1 8 false none none none false false∧mQ prog 146=true∧ag prog 146=some [.bR]:=by and_intros<;>kernel_rfl
@[simp] theorem akk:TY prog 147 1 8 false none none none false false∧ag prog 147=some [.aq]:=by and_intros<;>kernel_rfl
@[simp] theorem akl:TY prog 148 1 8 false none none none false false∧ag prog 148=some [.aq]:=by and_intros<;>kernel_rfl
@[simp] theorem akm:TY prog 149 1 8 false none none none false false∧ag prog 149=some [.aq]:=by and_intros<;>kernel_rfl
@[simp] theorem akn:TY prog 150 1 8 false none none none false false∧ag prog 150=some [.aq]:=by and_intros<;>kernel_rfl
@[simp] theorem ako:TY prog 151 3 40 true none none none false false∧TF prog 151 0 9 0 1∧TF prog 151 1 4 1 1∧TF prog 151 2 9 2 1∧(ba prog 151).isSome=true∧ag prog 151=some [.str [],.bool false,.str []]:=by and_intros<;>kernel_rfl
@[simp] theorem akp:TY prog 152 3 40 true none none none false false∧TF prog 152 0 9 0 1∧TF prog 152 1 4 1 1∧TF prog 152 2 9 2 1∧(ba prog 152).isSome=true∧ag prog 152=some [.str [],.bool false,.str []]:=by and_intros<;>kernel_rfl
@[simp] theorem akq:TY prog 153 1 0 false none none none false false:=by and_intros<;>kernel_rfl
@[simp] theorem akr:TY prog 154 1 8 false none none none false false∧ag prog 154=some [.aq]:=by and_intros<;>kernel_rfl
@[simp] theorem aks:TY prog 155 1 8 false none none none false false∧ag prog 155=some [.aq]:=by and_intros<;>kernel_rfl
@[simp] theorem akt:TY prog 156 1 8 false none none (some .u64) false false∧ag prog 156=some [.int .u64 0]:=by and_intros<;>kernel_rfl
@[simp] theorem aku:TY prog 157 1 8 false none none none false false∧ag prog 157=some [.aq]:=by and_intros<;>kernel_rfl
@[simp] theorem akv:TY prog 158 1 8 false none none none false false∧ag prog 158=some [.aq]:=by and_intros<;>kernel_rfl
@[simp] theorem akw:TY prog 159 1 8 false none none none false false∧ag prog 159=some [.aq]:=by and_intros<;>kernel_rfl
@[simp] theorem akx:TY prog 160 1 8 false none none none false false∧ag prog 160=some [.aq]:=by and_intros<;>kernel_rfl
@[simp] theorem aky:TY prog 161 1 0 false none none none false false:=by and_intros<;>kernel_rfl
@[simp] theorem akz:TY prog 162 1 8 false none none none false false∧ag prog 162=some [.aq]:=by and_intros<;>kernel_rfl
@[simp] theorem akA:TY prog 163 1 8 false none none none false false∧ag prog 163=some [.aq]:=by and_intros<;>kernel_rfl
@[simp] theorem akB:TY prog 164 1 24 false (some 5) none none false false∧ag prog 164=some [.aj]:=by and_intros<;>kernel_rfl
@[simp] theorem akC:TY prog 165 1 8 false none none none false false∧ag prog 165=some [.aq]:=by and_intros<;>kernel_rfl
@[simp] theorem akD:TY prog 166 1 8 false none none none false false∧ag prog 166=some [.aq]:=by and_intros<;>kernel_rfl
@[simp] theorem akE:TY prog 167 1 8 false none none none false false∧ag prog 167=some [.aq]:=by and_intros<;>kernel_rfl
@[simp] theorem akF:TY prog 168 1 8 false none none none false false∧ag prog 168=some [.aq]:=by and_intros<;>kernel_rfl
@[simp] theorem akG:TY prog 169 1 8 false none none none false false∧ag prog 169=some [.aq]:=by and_intros<;>kernel_rfl
@[simp] theorem akH:TY prog 170 1 8 false none none none false false∧ag prog 170=some [.aq]:=by and_intros<;>kernel_rfl
@[simp] theorem akI:TY prog 171 1 8 false none none none false false∧ag prog 171=some [.aq]:=by and_intros<;>kernel_rfl
@[simp] theorem akJ:TY prog 172 1 8 false none none none false false∧ag prog 172=some [.aq]:=by and_intros<;>kernel_rfl
@[simp] theorem akK:TY prog 173 1 8 false none none none false false∧ag prog 173=some [.aq]:=by and_intros<;>kernel_rfl
@[simp] theorem akL:TY prog 174 1 8 false none none none false false∧ag prog 174=some [.aq]:=by and_intros<;>kernel_rfl
@[simp] theorem akM:TY prog 175 1 8 false none none none false false∧ag prog 175=some [.aq]:=by and_intros<;>kernel_rfl
@[simp] theorem akN:TY prog 176 6 48 true none none none false false∧TF prog 176 0 3 0 1∧TF prog 176 1 3 1 1∧TF prog 176 2 3 2 1∧TF prog 176 3 3 3 1∧TF prog 176 4 3 4 1∧TF prog 176 5 3 5 1∧(ba prog 176).isSome=true∧ag prog 176=some [.int .i64 0,.int .i64 0,.int .i64 0,.int .i64 0,.int .i64 0,.int .i64 0]:=by and_intros<;>kernel_rfl
@[simp] theorem akO:TY prog 177 6 48 true none none none false false∧TF prog 177 0 3 0 1∧TF prog 177 1 3 1 1∧TF prog 177 2 3 2 1∧TF prog 177 3 3 3 1∧TF prog 177 4 3 4 1∧TF prog 177 5 3 5 1∧(ba prog 177).isSome=true∧ag prog 177=some [.int .i64 0,.int .i64 0,.int .i64 0,.int .i64 0,.int .i64 0,.int .i64 0]:=by and_intros<;>kernel_rfl
@[simp] theorem akP:TY prog 178 1 0 false none none none false false:=by and_intros<;>kernel_rfl
@[simp] theorem akQ:TY prog 179 1 8 false none none none false false∧ag prog 179=some [.aq]:=by and_intros<;>kernel_rfl
@[simp] theorem akR:TY prog 180 1 8 false none none none false false∧ag prog 180=some [.aq]:=by and_intros<;>kernel_rfl
@[simp] theorem akS:TY prog 181 1 0 false none none none false false:=by and_intros<;>kernel_rfl
@[simp] theorem akT:TY prog 182 1 8 false none none none false false∧ag prog 182=some [.aq]:=by and_intros<;>kernel_rfl
@[simp] theorem akU:TY prog 183 1 8 false none none none false false∧ag prog 183=some [.aq]:=by and_intros<;>kernel_rfl
@[simp] theorem akV:TY prog 184 1 8 false none none none false false∧ag prog 184=some [.aq]:=by and_intros<;>kernel_rfl
@[simp] theorem akW:TY prog 185 1 8 false none none none false false∧ag prog 185=some [.aq]:=by and_intros<;>kernel_rfl
@[simp] theorem akX:TY prog 186 1 8 false none none none false false∧ag prog 186=some [.aq]:=by and_intros<;>kernel_rfl
@[simp] theorem akY:TY prog 187 1 8 false none none none false false∧ag prog 187=some [.aq]:=by and_intros<;>kernel_rfl
@[simp] theorem akZ:TY prog 188 1 8 false none none none false false∧ag prog 188=some [.aq]:=by and_intros<;>kernel_rfl
@[simp] theorem ak0:TY prog 189 1 0 false none none none false false:=by and_intros<;>kernel_rfl
@[simp] theorem ak1:TY prog 190 1 8 false none none none false false∧ag prog 190=some [.aq]:=by and_intros<;>kernel_rfl
@[simp] theorem ak2:TY prog 191 1 8 false none none none false false∧ag prog 191=some [.aq]:=by and_intros<;>kernel_rfl
@[simp] theorem ak3:TY prog 192 1 0 false none none none false false:=by and_intros<;>kernel_rfl
@[simp] theorem ak4:TY prog 193 1 8 false none none none false false∧ag prog 193=some [.aq]:=by and_intros<;>kernel_rfl
@[simp] theorem ak5:TY prog 194 1 0 false none none none false false:=by and_intros<;>kernel_rfl
@[simp] theorem ak6:TY prog 195 1 8 false none none none false false∧ag prog 195=some [.aq]:=by and_intros<;>kernel_rfl
@[simp] theorem ak7:TY prog 196 1 0 false none none none false false:=by and_intros<;>kernel_rfl
@[simp] theorem ak8:TY prog 197 1 8 false none none none false false∧ag prog 197=some [.aq]:=by and_intros<;>kernel_rfl
@[simp] theorem ak9:TY prog 198 1 8 false none none none false false∧ag prog 198=some [.aq]:=by and_intros<;>kernel_rfl
@[simp] theorem ala:TY prog 199 1 0 false none none none false false:=by and_intros<;>kernel_rfl
@[simp] theorem alb:TY prog 200 1 8 false none none none false false∧ag prog 200=some [.aq]:=by and_intros<;>kernel_rfl
@[simp] theorem alc:TY prog 201 4 64 true none none none false false∧TF prog 201 0 38 0 1∧TF prog 201 1 3 1 1∧TF prog 201 2 4 2 1∧TF prog 201 3 27 3 1∧(ba prog 201).isSome=true∧ag prog 201=some [.aj,.int .i64 0,.bool false,.aj]:=by and_intros<;>kernel_rfl
@[simp] theorem ald:TY prog 202 4 64 true none none none false false∧TF prog 202 0 38 0 1∧TF prog 202 1 3 1 1∧TF prog 202 2 4 2 1∧TF prog 202 3 27 3 1∧(ba prog 202).isSome=true∧ag prog 202=some [.aj,.int .i64 0,.bool false,.aj]:=by and_intros<;>kernel_rfl
@[simp] theorem ale:TY prog 203 1 8 false none none none false false∧ag prog 203=some [.aq]:=by and_intros<;>kernel_rfl
@[simp] theorem alf:TY prog 204 1 8 false none none none false false∧ag prog 204=some [.aq]:=by and_intros<;>kernel_rfl
@[simp] theorem alg:TY prog 205 1 8 false none none none false false∧ag prog 205=some [.aq]:=by and_intros<;>kernel_rfl
@[simp] theorem alh:TY prog 206 1 8 false none none none false false∧ag prog 206=some [.aq]:=by and_intros<;>kernel_rfl
@[simp] theorem ali:TY prog 207 1 8 false none none none false false∧ag prog 207=some [.aq]:=by and_intros<;>kernel_rfl
@[simp] theorem alj:TY prog 208 1 8 false none none none false false∧ag prog 208=some [.aq]:=by and_intros<;>kernel_rfl
@[simp] theorem alk:TY prog 209 1 4 false none none (some .u32) false false∧ag prog 209=some [.int .u32 0]:=by and_intros<;>kernel_rfl
@[simp] theorem alm:TY prog 210 1 24 false (some 209) none none false false∧ag prog 210=some [.aj]:=by and_intros<;>kernel_rfl
@[simp] theorem aln:TY prog 211 1 8 false none none none false false∧ag prog 211=some [.aq]:=by and_intros<;>kernel_rfl
@[simp] theorem alo:TY prog 212 1 8 false none none none false false∧ag prog 212=some [.aq]:=by and_intros<;>kernel_rfl
@[simp] theorem alp:TY prog 213 1 8 false none none none false false∧ag prog 213=some [.aq]:=by and_intros<;>kernel_rfl
@[simp] theorem alq:TY prog 214 1 8 false none none none false false∧ag prog 214=some [.aq]:=by and_intros<;>kernel_rfl
@[simp] theorem alr:TY prog 215 1 8 false none none none false false∧ag prog 215=some [.aq]:=by and_intros<;>kernel_rfl
@[simp] theorem als:TY prog 216 1 8 false none none none false false∧ag prog 216=some [.aq]:=by and_intros<;>kernel_rfl
@[simp] theorem alu:TY prog 217 1 8 false none none none false false∧ag prog 217=some [.aq]:=by and_intros<;>kernel_rfl
@[simp] theorem alv:TY prog 218 1 8 false none none none false false∧ag prog 218=some [.aq]:=by and_intros<;>kernel_rfl
@[simp] theorem alw:TY prog 219 1 8 false none none none false false∧ag prog 219=some [.aq]:=by and_intros<;>kernel_rfl
@[simp] theorem alx:TY prog 220 1 8 false none none none false false∧ag prog 220=some [.aq]:=by and_intros<;>kernel_rfl
@[simp] theorem aly:TY prog 221 1 8 false none none none false false∧ag prog 221=some [.aq]:=by and_intros<;>kernel_rfl
@[simp] theorem alz:TY prog 222 1 8 false none none none false false∧ag prog 222=some [.aq]:=by and_intros<;>kernel_rfl
@[simp] theorem alA:TY prog 223 1 8 false none none none false false∧ag prog 223=some [.aq]:=by and_intros<;>kernel_rfl
@[simp] theorem alB:TY prog 224 1 8 false none none none false false∧ag prog 224=some [.aq]:=by and_intros<;>kernel_rfl
@[simp] theorem alC:TY prog 225 1 0 false none none none false false:=by and_intros<;>kernel_rfl
@[simp] theorem alD:TY prog 226 1 8 false none none none false false∧ag prog 226=some [.aq]:=by and_intros<;>kernel_rfl
@[simp] theorem alE:TY prog 227 1 8 false none none none false false∧ag prog 227=some [.aq]:=by and_intros<;>kernel_rfl
@[simp] theorem alF:TY prog 228 1 8 false none none none false false∧ag prog 228=some [.aq]:=by and_intros<;>kernel_rfl
@[simp] theorem alG:TY prog 229 1 8 false none none none false false∧ag prog 229=some [.aq]:=by and_intros<;>kernel_rfl
@[simp] theorem alH:TY prog 230 1 8 false none none none false false∧ag prog 230=some [.aq]:=by and_intros<;>kernel_rfl
@[simp] theorem alI:TY prog 231 1 24 false (some 41) none none false false∧ag prog 231=some [.aj]:=by and_intros<;>kernel_rfl
@[simp] theorem alJ:TY prog 232 1 8 false none none none false false∧ag prog 232=some [.aq]:=by and_intros<;>kernel_rfl
@[simp] theorem alK:TY prog 233 1 8 false none none none false false∧ag prog 233=some [.aq]:=by and_intros<;>kernel_rfl
@[simp] theorem alL:TY prog 234 1 8 false none none (some .u64) false false∧ag prog 234=some [.int .u64 0]:=by and_intros<;>kernel_rfl
@[simp] theorem alM:TY prog 235 1 8 false none none none false false∧ag prog 235=some [.aq]:=by and_intros<;>kernel_rfl
@[simp] theorem alN:TY prog 236 1 0 false none none none false false:=by and_intros<;>kernel_rfl
@[simp] theorem alO:TY prog 237 1 8 false none none none false false∧ag prog 237=some [.aq]:=by and_intros<;>kernel_rfl
@[simp] theorem alP:TY prog 238 1 0 false none none none false false:=by and_intros<;>kernel_rfl
@[simp] theorem alQ:TY prog 239 1 8 false none none none false false∧ag prog 239=some [.aq]:=by and_intros<;>kernel_rfl
@[simp] theorem alR:TY prog 240 1 8 false none none none false false∧ag prog 240=some [.aq]:=by and_intros<;>kernel_rfl
@[simp] theorem alS:TY prog 241 1 8 false none none none false false∧ag prog 241=some [.aq]:=by and_intros<;>kernel_rfl
@[simp] theorem alT:TY prog 242 1 8 false none none none false false∧ag prog 242=some [.aq]:=by and_intros<;>kernel_rfl
@[simp] theorem alU:TY prog 243 1 0 false none none none false false:=by and_intros<;>kernel_rfl
@[simp] theorem alV:TY prog 244 1 8 false none none none false false∧ag prog 244=some [.aq]:=by and_intros<;>kernel_rfl
@[simp] theorem alW:TY prog 245 1 8 false none none none false false∧ag prog 245=some [.aq]:=by and_intros<;>kernel_rfl
@[simp] theorem alX:TY prog 246 1 8 false none none none false false∧ag prog 246=some [.aq]:=by and_intros<;>kernel_rfl
@[simp] theorem alY:TY prog 247 1 8 false none none none false false∧ag prog 247=some [.aq]:=by and_intros<;>kernel_rfl
@[simp] theorem alZ:TY prog 248 1 8 false none none none false false∧ag prog 248=some [.aq]:=by and_intros<;>kernel_rfl
@[simp] theorem al0:TY prog 249 1 8 false none none (some .i64) false false∧ag prog 249=some [.int .i64 0]:=by and_intros<;>kernel_rfl
@[simp] theorem al1:TY prog 250 1 8 false none none none false false∧ag prog 250=some [.aq]:=by and_intros<;>kernel_rfl
@[simp] theorem al2:TY prog 251 64 256 true none (some (64,209)) none false false∧(ba prog 251).isSome=true∧ag prog 251=some (List.replicate 64 (.int .u32 0:V)):=by and_intros<;>kernel_rfl
@[simp] theorem al3:TY prog 252 1 8 false none none none false false∧ag prog 252=some [.aq]:=by and_intros<;>kernel_rfl
@[simp] theorem al4:TY prog 253 1 8 false none none none false false∧ag prog 253=some [.aq]:=by and_intros<;>kernel_rfl
@[simp] theorem al5:TY prog 254 1 24 false (some 4) none none false false∧ag prog 254=some [.aj]:=by and_intros<;>kernel_rfl
@[simp] theorem al6:TY prog 255 1 0 false none none none false false:=by and_intros<;>kernel_rfl
@[simp] theorem al7:TY prog 256 1 8 false none none none false false∧ag prog 256=some [.aq]:=by and_intros<;>kernel_rfl
@[simp] theorem al8:TY prog 257 1 8 false none none none false false∧ag prog 257=some [.aq]:=by and_intros<;>kernel_rfl
@[simp] theorem al9:TY prog 258 1 8 false none none none false false∧ag prog 258=some [.aq]:=by and_intros<;>kernel_rfl
@[simp] theorem ama:TY prog 259 1 8 false none none none false false∧ag prog 259=some [.aq]:=by and_intros<;>kernel_rfl
@[simp] theorem amb:TY prog 260 1 8 false none none none false false∧ag prog 260=some [.aq]:=by and_intros<;>kernel_rfl
@[simp] theorem amc:TY prog 261 1 8 false none none none false false∧ag prog 261=some [.aq]:=by and_intros<;>kernel_rfl
@[simp] theorem amd:TY prog 262 1 8 false none none none false false∧ag prog 262=some [.aq]:=by and_intros<;>kernel_rfl
@[simp] theorem ame:TY prog 263 1 8 false none none none false false∧ag prog 263=some [.aq]:=by and_intros<;>kernel_rfl
@[simp] theorem amf:TY prog 264 1 8 false none none none false false∧ag prog 264=some [.aq]:=by and_intros<;>kernel_rfl
@[simp] theorem amg:TY prog 265 1 8 false none none none false false∧ag prog 265=some [.aq]:=by and_intros<;>kernel_rfl
@[simp] theorem amh:TY prog 266 1 0 false none none none false false:=by and_intros<;>kernel_rfl
@[simp] theorem ami:TY prog 267 1 8 false none none none false false∧ag prog 267=some [.aq]:=by and_intros<;>kernel_rfl
@[simp] theorem amj:TY prog 268 1 8 false none none none false false∧ag prog 268=some [.aq]:=by and_intros<;>kernel_rfl
@[simp] theorem amk:TY prog 269 1 8 false none none none false false∧ag prog 269=some [.aq]:=by and_intros<;>kernel_rfl
@[simp] theorem aml:TY prog 270 1 0 false none none none false false:=by and_intros<;>kernel_rfl
@[simp] theorem amm:TY prog 271 1 8 false none none none false false∧ag prog 271=some [.aq]:=by and_intros<;>kernel_rfl
@[simp] theorem amn:TY prog 272 1 8 false none none none false false∧ag prog 272=some [.aq]:=by and_intros<;>kernel_rfl
@[simp] theorem amo:TY prog 273 1 8 false none none none false false∧ag prog 273=some [.aq]:=by and_intros<;>kernel_rfl
@[simp] theorem amp:TY prog 274 1 8 false none none none false false∧mQ prog 274=true∧ag prog 274=some [.bR]:=by and_intros<;>kernel_rfl
@[simp] theorem amq:TY prog 275 1 8 false none none none false false∧ag prog 275=some [.aq]:=by and_intros<;>kernel_rfl
@[simp] theorem amr:TY prog 276 1 8 false none none none false false∧ag prog 276=some [.aq]:=by and_intros<;>kernel_rfl
@[simp] theorem ams:TY prog 277 1 0 false none none none false false:=by and_intros<;>kernel_rfl
@[simp] theorem amt:TY prog 278 1 8 false none none none false false∧ag prog 278=some [.aq]:=by and_intros<;>kernel_rfl
@[simp] theorem amu:TY prog 279 1 0 false none none none false false:=by and_intros<;>kernel_rfl
@[simp] theorem amv:TY prog 280 1 8 false none none none false false∧ag prog 280=some [.aq]:=by and_intros<;>kernel_rfl
@[simp] theorem amw:TY prog 281 1 8 false none none none false false∧ag prog 281=some [.aq]:=by and_intros<;>kernel_rfl
@[simp] theorem amx:TY prog 282 1 8 false none none none false false∧ag prog 282=some [.aq]:=by and_intros<;>kernel_rfl
@[simp] theorem amy:TY prog 283 1 8 false none none none false false∧ag prog 283=some [.aq]:=by and_intros<;>kernel_rfl
@[simp] theorem amz:TY prog 284 1 0 false none none none false false:=by and_intros<;>kernel_rfl
@[simp] theorem amA:TY prog 285 1 8 false none none none false false∧ag prog 285=some [.aq]:=by and_intros<;>kernel_rfl
@[simp] theorem amB:TY prog 286 1 8 false none none none false false∧ag prog 286=some [.aq]:=by and_intros<;>kernel_rfl
@[simp] theorem amC:TY prog 287 1 0 false none none none false false:=by and_intros<;>kernel_rfl
@[simp] theorem amD:TY prog 288 1 8 false none none none false false∧ag prog 288=some [.aq]:=by and_intros<;>kernel_rfl
@[simp] theorem amE:TY prog 289 1 0 false none none none false false:=by and_intros<;>kernel_rfl
@[simp] theorem amF:TY prog 290 1 8 false none none none false false∧ag prog 290=some [.aq]:=by and_intros<;>kernel_rfl
@[simp] theorem amG:TY prog 291 1 0 false none none none false false:=by and_intros<;>kernel_rfl
@[simp] theorem amH:TY prog 292 1 8 false none none none false false∧ag prog 292=some [.aq]:=by and_intros<;>kernel_rfl
@[simp] theorem amI:TY prog 293 1 0 false none none none false false:=by and_intros<;>kernel_rfl
@[simp] theorem amJ:TY prog 294 1 8 false none none none false false∧ag prog 294=some [.aq]:=by and_intros<;>kernel_rfl
@[simp] theorem amK:TY prog 295 1 0 false none none none false false:=by and_intros<;>kernel_rfl
@[simp] theorem amL:TY prog 296 1 8 false none none none false false∧ag prog 296=some [.aq]:=by and_intros<;>kernel_rfl
@[simp] theorem amM:TY prog 297 8 32 true none (some (8,209)) none false false∧(ba prog 297).isSome=true∧ag prog 297=some [.int .u32 0,.int .u32 0,.int .u32 0,.int .u32 0,.int .u32 0,.int .u32 0,.int .u32 0,.int .u32 0]:=by and_intros<;>kernel_rfl
@[simp] theorem amN:TY prog 298 8 32 true none (some (8,209)) none false false∧(ba prog 298).isSome=true∧ag prog 298=some [.int .u32 0,.int .u32 0,.int .u32 0,.int .u32 0,.int .u32 0,.int .u32 0,.int .u32 0,.int .u32 0]:=by and_intros<;>kernel_rfl
@[simp] theorem amO:TY prog 299 10 64 true none none none false false∧TF prog 299 0 298 0 8∧TF prog 299 1 164 8 1∧TF prog 299 2 3 9 1∧(ba prog 299).isSome=true∧ag prog 299=some [.int .u32 0,.int .u32 0,.int .u32 0,.int .u32 0,.int .u32 0,.int .u32 0,.int .u32 0,.int .u32 0,.aj,.int .i64 0]:=by and_intros<;>kernel_rfl
@[simp] theorem amP:TY prog 300 10 64 true none none none false false∧TF prog 300 0 298 0 8∧TF prog 300 1 164 8 1∧TF prog 300 2 3 9 1∧(ba prog 300).isSome=true∧ag prog 300=some [.int .u32 0,.int .u32 0,.int .u32 0,.int .u32 0,.int .u32 0,.int .u32 0,.int .u32 0,.int .u32 0,.aj,.int .i64 0]:=by and_intros<;>kernel_rfl
@[simp] theorem amQ:TY prog 301 1 8 false none none none false false∧ag prog 301=some [.aq]:=by and_intros<;>kernel_rfl
@[simp] theorem amR:TY prog 302 1 8 false none none none false false∧ag prog 302=some [.aq]:=by and_intros<;>kernel_rfl
@[simp] theorem amS:TY prog 303 1 8 false none none none false false∧ag prog 303=some [.aq]:=by and_intros<;>kernel_rfl
@[simp] theorem amT:TY prog 304 1 0 false none none none false false:=by and_intros<;>kernel_rfl
@[simp] theorem amU:TY prog 305 1 8 false none none none false false∧ag prog 305=some [.aq]:=by and_intros<;>kernel_rfl
@[simp] theorem amV:TY prog 306 1 8 false none none none false false∧ag prog 306=some [.aq]:=by and_intros<;>kernel_rfl
@[simp] theorem amW:TY prog 307 1 8 false none none none false false∧ag prog 307=some [.aq]:=by and_intros<;>kernel_rfl
@[simp] theorem amX:TY prog 308 1 8 false none none none false false∧ag prog 308=some [.aq]:=by and_intros<;>kernel_rfl
@[simp] theorem amY:TY prog 309 1 0 false none none none false false:=by and_intros<;>kernel_rfl
@[simp] theorem amZ:TY prog 310 1 8 false none none none false false∧ag prog 310=some [.aq]:=by and_intros<;>kernel_rfl
@[simp] theorem am0:TY prog 311 1 8 false none none none false false∧ag prog 311=some [.aq]:=by and_intros<;>kernel_rfl
@[simp] theorem am1:TY prog 312 1 8 false none none none false false∧ag prog 312=some [.aq]:=by and_intros<;>kernel_rfl
@[simp] theorem am2:TY prog 313 1 8 false none none none false false∧ag prog 313=some [.aq]:=by and_intros<;>kernel_rfl
@[simp] theorem am3:TY prog 314 1 8 false none none none false false∧ag prog 314=some [.aq]:=by and_intros<;>kernel_rfl
@[simp] theorem am4:TY prog 315 1 8 false none none none false false∧ag prog 315=some [.aq]:=by and_intros<;>kernel_rfl
@[simp] theorem am5:TY prog 316 1 8 false none none none false false∧ag prog 316=some [.aq]:=by and_intros<;>kernel_rfl
@[simp] theorem am6:TY prog 317 1 8 false none none none false false∧ag prog 317=some [.aq]:=by and_intros<;>kernel_rfl
@[simp] theorem am7:TY prog 318 1 8 false none none none false false∧ag prog 318=some [.aq]:=by and_intros<;>kernel_rfl
@[simp] theorem am8:TY prog 319 1 8 false none none none false false∧ag prog 319=some [.aq]:=by and_intros<;>kernel_rfl
@[simp] theorem am9:TY prog 320 1 0 false none none none false false:=by and_intros<;>kernel_rfl
@[simp] theorem ana:TY prog 321 1 8 false none none none false false∧ag prog 321=some [.aq]:=by and_intros<;>kernel_rfl
@[simp] theorem anb:TY prog 322 1 0 false none none none false false:=by and_intros<;>kernel_rfl
@[simp] theorem ane:TY prog 323 1 8 false none none none false false∧ag prog 323=some [.aq]:=by and_intros<;>kernel_rfl
@[simp] theorem anf:TY prog 324 256 256 true none (some (256,5)) none false false∧(ba prog 324).isSome=true∧ag prog 324=some (List.replicate 256 (.int .u8 0:V)):=by and_intros<;>kernel_rfl
@[simp] theorem ang:TY prog 325 2 2 true none none none false false∧TF prog 325 0 5 0 1∧TF prog 325 1 5 1 1∧(ba prog 325).isSome=true∧ag prog 325=some [.int .u8 0,.int .u8 0]:=by and_intros<;>kernel_rfl
@[simp] theorem anh:TY prog 326 2 2 true none none none false false∧TF prog 326 0 5 0 1∧TF prog 326 1 5 1 1∧(ba prog 326).isSome=true∧ag prog 326=some [.int .u8 0,.int .u8 0]:=by and_intros<;>kernel_rfl
@[simp] theorem ani:TY prog 327 32 32 true none (some (16,326)) none false false∧(ba prog 327).isSome=true∧ag prog 327=some (List.replicate 32 (.int .u8 0:V)):=by and_intros<;>kernel_rfl
@[simp] theorem anj:TY prog 328 4 40 true none none none false false∧TF prog 328 0 17 0 1∧TF prog 328 1 17 1 1∧TF prog 328 2 17 2 1∧TF prog 328 3 9 3 1∧(ba prog 328).isSome=true∧ag prog 328=some [.bR,.bR,.bR,.str []]:=by and_intros<;>kernel_rfl
@[simp] theorem ank:TY prog 329 4 40 true none none none false false∧TF prog 329 0 17 0 1∧TF prog 329 1 17 1 1∧TF prog 329 2 17 2 1∧TF prog 329 3 9 3 1∧(ba prog 329).isSome=true∧ag prog 329=some [.bR,.bR,.bR,.str []]:=by and_intros<;>kernel_rfl
@[simp] theorem anl:TY prog 330 0 0 true none (some (0,16)) none false false∧(ba prog 330).isSome=true∧ag prog 330=some []:=by and_intros<;>kernel_rfl
@[simp] theorem anm:TY prog 331 0 0 true none none none false false∧TF prog 331 0 330 0 0∧(ba prog 331).isSome=true∧ag prog 331=some []:=by and_intros<;>kernel_rfl
@[simp] theorem ann:TY prog 332 0 0 true none none none false false∧TF prog 332 0 330 0 0∧(ba prog 332).isSome=true∧ag prog 332=some []:=by and_intros<;>kernel_rfl
@[simp] theorem ano:TY prog 333 1 8 false none none none false false∧ag prog 333=some [.aq]:=by and_intros<;>kernel_rfl
@[simp] theorem anp:TY prog 334 1 1 false none none (some .u8) false false∧ag prog 334=some [.int .u8 0]:=by and_intros<;>kernel_rfl
@[simp] theorem anq:TY prog 335 1 1 false none none (some .u8) false false∧ag prog 335=some [.int .u8 0]:=by and_intros<;>kernel_rfl
@[simp] theorem anr:TY prog 336 1 8 false none none none false false∧ag prog 336=some [.aq]:=by and_intros<;>kernel_rfl
@[simp] theorem ans:TY prog 337 1 8 false none none none false false∧mQ prog 337=true∧ag prog 337=some [.bR]:=by and_intros<;>kernel_rfl
@[simp] theorem ant:TY prog 338 1 4 false none none (some .i32) false false∧ag prog 338=some [.int .i32 0]:=by and_intros<;>kernel_rfl
@[simp] theorem anu:TY prog 339 1 4 false none none (some .i32) false false∧ag prog 339=some [.int .i32 0]:=by and_intros<;>kernel_rfl
@[simp] theorem anv:TY prog 340 11 48 true none none none false false∧TF prog 340 0 12 0 1∧TF prog 340 1 12 1 1∧TF prog 340 2 209 2 1∧TF prog 340 3 334 3 1∧TF prog 340 4 5 4 1∧TF prog 340 5 5 5 1∧TF prog 340 6 335 6 1∧TF prog 340 7 336 7 1∧TF prog 340 8 337 8 1∧TF prog 340 9 338 9 1∧TF prog 340 10 339 10 1∧(ba prog 340).isSome=true∧ag prog 340=some [.int .u64 0,.int .u64 0,.int .u32 0,.int .u8 0,.int .u8 0,.int .u8 0,.int .u8 0,.aq,.bR,.int .i32 0,.int .i32 0]:=by and_intros<;>kernel_rfl
@[simp] theorem anw:TY prog 341 11 48 true none none none false false∧TF prog 341 0 12 0 1∧TF prog 341 1 12 1 1∧TF prog 341 2 209 2 1∧TF prog 341 3 334 3 1∧TF prog 341 4 5 4 1∧TF prog 341 5 5 5 1∧TF prog 341 6 335 6 1∧TF prog 341 7 336 7 1∧TF prog 341 8 337 8 1∧TF prog 341 9 338 9 1∧TF prog 341 10 339 10 1∧(ba prog 341).isSome=true∧ag prog 341=some [.int .u64 0,.int .u64 0,.int .u32 0,.int .u8 0,.int .u8 0,.int .u8 0,.int .u8 0,.aq,.bR,.int .i32 0,.int .i32 0]:=by and_intros<;>kernel_rfl
@[simp] theorem anx:TY prog 342 1 8 false none none none false false∧ag prog 342=some [.bR]:=by and_intros<;>kernel_rfl
@[simp] theorem agD(i:Nat):l8 prog 79 i=some (i*2,2):=by kernel_rfl
@[simp] theorem aev(i:Nat):l8 prog 251 i=some (i*1,1):=by kernel_rfl
@[simp] theorem aew(i:Nat):l8 prog 297 i=some (i*1,1):=by kernel_rfl
@[simp] theorem aex(i:Nat):l8 prog 298 i=some (i*1,1):=by kernel_rfl
@[simp] theorem aey(i:Nat):l8 prog 324 i=some (i*1,1):=by kernel_rfl
@[simp] theorem aez(i:Nat):l8 prog 327 i=some (i*2,2):=by kernel_rfl
@[simp] theorem aeA(i:Nat):l8 prog 330 i=some (i*1,1):=by kernel_rfl
end Go.Proofs.YtjlnoogcggdhkaaGreatDoor
