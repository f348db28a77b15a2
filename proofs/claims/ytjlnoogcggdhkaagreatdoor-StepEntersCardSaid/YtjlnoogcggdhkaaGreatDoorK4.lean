/-
 CONTRACTS OF SHAPES, reckoned: 3.
 Conditions: none.
-/
import Derived.Test.YtjlnoogcggdhkaaGreatDoorK3
set_option maxRecDepth 100000
set_option maxHeartbeats 32000000
set_option linter.all false
namespace Go.Proofs.YtjlnoogcggdhkaaGreatDoor
open Go.Proofs.Tryz
open Go Go.VS Go.Ck
variable [eb]
theorem PZ:bd 83:=aQ (cs:=[132]) ⟨EW,trivial⟩ (by decide+kernel)
theorem k44:bd 44:=aQ (cs:=[78,81,83]) ⟨Ia,XI,PZ,trivial⟩ (by decide+kernel)
theorem qW:bd 133:=aQ (cs:=[184]) ⟨S5,trivial⟩ (by decide+kernel)
theorem P0:bd 84:=aQ (cs:=[83,133]) ⟨PZ,qW,trivial⟩ (by decide+kernel)
theorem sH:bd 85:=aQ (cs:=[]) trivial (by decide+kernel)
theorem yl:bd 89:=aQ (cs:=[]) trivial (by decide+kernel)
theorem Ib:bd 191:=aQ (cs:=[63,170]) ⟨XJ,Cc,trivial⟩ (by decide+kernel)
theorem XK:bd 140:=aQ (cs:=[85,89,133,191]) ⟨sH,yl,qW,Ib,trivial⟩ (by decide+kernel)
theorem k87:bd 87:=aQ (cs:=[85,140]) ⟨sH,XK,trivial⟩ (by decide+kernel)
theorem S6:bd 134:=aQ (cs:=[]) trivial (by decide+kernel)
theorem aeS:bd 135:=aQ (cs:=[85,134]) ⟨sH,S6,trivial⟩ (by decide+kernel)
theorem aeT:bd 219:=aQ (cs:=[]) trivial (by decide+kernel)
theorem aeU:bd 220:=aQ (cs:=[85,89,133,191]) ⟨sH,yl,qW,Ib,trivial⟩ (by decide+kernel)
theorem XM:bd 185:=aQ (cs:=[118,132,133,219,220]) ⟨Ic,EW,qW,aeT,aeU,trivial⟩ (by decide+kernel)
theorem aeV:bd 136:=aQ (cs:=[85,185]) ⟨sH,XM,trivial⟩ (by decide+kernel)
theorem aeW:bd 221:=aQ (cs:=[]) trivial (by decide+kernel)
theorem aeX:bd 222:=aQ (cs:=[174,175]) ⟨XN,XO,trivial⟩ (by decide+kernel)
theorem aeY:bd 186:=aQ (cs:=[221,222]) ⟨aeW,aeX,trivial⟩ (by decide+kernel)
theorem aeZ:bd 137:=aQ (cs:=[85,186]) ⟨sH,aeY,trivial⟩ (by decide+kernel)
theorem ae0:bd 187:=aQ (cs:=[55,85,89,132,133,140,141]) ⟨XP,sH,yl,EW,qW,XK,XQ,trivial⟩ (by decide+kernel)
theorem ae1:bd 138:=aQ (cs:=[85,187]) ⟨sH,ae0,trivial⟩ (by decide+kernel)
theorem Cd:bd 188:=aQ (cs:=[]) trivial (by decide+kernel)
theorem ae2:bd 281:=aQ (cs:=[]) trivial (by decide+kernel)
theorem XR:bd 257:=aQ (cs:=[188,281]) ⟨Cd,ae2,trivial⟩ (by decide+kernel)
theorem ae3:bd 223:=aQ (cs:=[85,89,133,191,257]) ⟨sH,yl,qW,Ib,XR,trivial⟩ (by decide+kernel)
theorem ae4:bd 189:=aQ (cs:=[132,133,218,223]) ⟨EW,qW,XS,ae3,trivial⟩ (by decide+kernel)
theorem ae5:bd 224:=aQ (cs:=[]) trivial (by decide+kernel)
theorem XT:bd 262:=aQ (cs:=[134]) ⟨S6,trivial⟩ (by decide+kernel)
theorem ae6:bd 258:=aQ (cs:=[188,262]) ⟨Cd,XT,trivial⟩ (by decide+kernel)
theorem XU:bd 259:=aQ (cs:=[282]) ⟨ae7,trivial⟩ (by decide+kernel)
theorem ae8:bd 260:=aQ (cs:=[191]) ⟨Ib,trivial⟩ (by decide+kernel)
theorem ae9:bd 261:=aQ (cs:=[84,85,89,133,191]) ⟨P0,sH,yl,qW,Ib,trivial⟩ (by decide+kernel)
theorem XV:bd 283:=aQ (cs:=[185,208]) ⟨XM,NJ,trivial⟩ (by decide+kernel)
end Go.Proofs.YtjlnoogcggdhkaaGreatDoor
