/-
 CONTRACTS OF SHAPES, reckoned: 2.
 Conditions: none.
-/
import Derived.Test.YtjlnoogcggdhkaaGreatDoorK2
set_option maxRecDepth 100000
set_option maxHeartbeats 32000000
set_option linter.all false
namespace Go.Proofs.YtjlnoogcggdhkaaGreatDoor
open Go.Proofs.Tryz
open Go Go.VS Go.Ck
variable [eb]
theorem agQ:bd 182:=aQ (cs:=[209]) ⟨X8,trivial⟩ (by decide+kernel)
theorem PT:bd 129:=aQ (cs:=[79,182]) ⟨sN,agQ,trivial⟩ (by decide+kernel)
theorem agR:bd 121:=aQ (cs:=[79,129]) ⟨sN,PT,trivial⟩ (by decide+kernel)
theorem k74:bd 74:=aQ (cs:=[79,118,120,121]) ⟨sN,Ic,afx,agR,trivial⟩ (by decide+kernel)
theorem XN:bd 174:=aQ (cs:=[]) trivial (by decide+kernel)
theorem XO:bd 175:=aQ (cs:=[]) trivial (by decide+kernel)
theorem agS:bd 122:=aQ (cs:=[174,175]) ⟨XN,XO,trivial⟩ (by decide+kernel)
theorem XJ:bd 63:=aQ (cs:=[]) trivial (by decide+kernel)
theorem agT:bd 123:=aQ (cs:=[63]) ⟨XJ,trivial⟩ (by decide+kernel)
theorem k75:bd 75:=aQ (cs:=[122,123,124]) ⟨agS,agT,Ti,trivial⟩ (by decide+kernel)
theorem XI:bd 81:=aQ (cs:=[79,129]) ⟨sN,PT,trivial⟩ (by decide+kernel)
theorem k60:bd 60:=aQ (cs:=[]) trivial (by decide+kernel)
theorem agU:bd 125:=aQ (cs:=[60]) ⟨k60,trivial⟩ (by decide+kernel)
theorem k76:bd 76:=aQ (cs:=[55,79,81,125]) ⟨XP,sN,XI,agU,trivial⟩ (by decide+kernel)
theorem agV:bd 128:=aQ (cs:=[]) trivial (by decide+kernel)
theorem k80:bd 80:=aQ (cs:=[79,128]) ⟨sN,agV,trivial⟩ (by decide+kernel)
theorem abg:bd 212:=aQ (cs:=[]) trivial (by decide+kernel)
theorem agW:bd 176:=aQ (cs:=[79,212]) ⟨sN,abg,trivial⟩ (by decide+kernel)
theorem abh:bd 177:=aQ (cs:=[79,213]) ⟨sN,agM,trivial⟩ (by decide+kernel)
theorem abi:bd 214:=aQ (cs:=[74,79,208]) ⟨k74,sN,NJ,trivial⟩ (by decide+kernel)
theorem U7:bd 178:=aQ (cs:=[214]) ⟨abi,trivial⟩ (by decide+kernel)
theorem Ia:bd 78:=aQ (cs:=[124]) ⟨Ti,trivial⟩ (by decide+kernel)
theorem agX:bd 215:=aQ (cs:=[78,79,214]) ⟨Ia,sN,abi,trivial⟩ (by decide+kernel)
theorem agY:bd 179:=aQ (cs:=[78,167,215]) ⟨Ia,Td,agX,trivial⟩ (by decide+kernel)
theorem agZ:bd 216:=aQ (cs:=[178]) ⟨U7,trivial⟩ (by decide+kernel)
theorem ag0:bd 217:=aQ (cs:=[79,178]) ⟨sN,U7,trivial⟩ (by decide+kernel)
theorem ag1:bd 180:=aQ (cs:=[78,79,168,177,216,217]) ⟨Ia,sN,Te,abh,agZ,ag0,trivial⟩ (by decide+kernel)
theorem ag2:bd 126:=aQ (cs:=[79,80,119,129,176,177,178,179,180]) ⟨sN,k80,Th,PT,agW,abh,U7,agY,ag1,trivial⟩ (by decide+kernel)
theorem ag3:bd 256:=aQ (cs:=[170,172,173]) ⟨Cc,Tf,Tg,trivial⟩ (by decide+kernel)
theorem XS:bd 218:=aQ (cs:=[256]) ⟨ag3,trivial⟩ (by decide+kernel)
theorem ag4:bd 181:=aQ (cs:=[78,79,129,212,218]) ⟨Ia,sN,PT,abg,XS,trivial⟩ (by decide+kernel)
theorem ag5:bd 127:=aQ (cs:=[78,181]) ⟨Ia,ag4,trivial⟩ (by decide+kernel)
theorem k77:bd 77:=aQ (cs:=[126,127]) ⟨ag2,ag5,trivial⟩ (by decide+kernel)
theorem k42:bd 42:=aQ (cs:=[73,74,75,76,77,78,79,80,81]) ⟨k73,k74,k75,k76,k77,Ia,sN,k80,XI,trivial⟩ (by decide+kernel)
end Go.Proofs.YtjlnoogcggdhkaaGreatDoor
