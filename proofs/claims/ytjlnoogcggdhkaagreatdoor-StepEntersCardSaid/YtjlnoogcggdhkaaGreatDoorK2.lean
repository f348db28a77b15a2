/-
 CONTRACTS OF SHAPES, reckoned: 1.
 Conditions: none.
-/
import Derived.Test.YtjlnoogcggdhkaaGreatDoorK1
set_option maxRecDepth 100000
set_option maxHeartbeats 32000000
set_option linter.all false
namespace Go.Proofs.YtjlnoogcggdhkaaGreatDoor
open Go.Proofs.Tryz
open Go Go.VS Go.Ck
variable [eb]
theorem XP:bd 55:=aQ (cs:=[]) trivial (by decide+kernel)
theorem X8:bd 209:=aQ (cs:=[]) trivial (by decide+kernel)
theorem Cc:bd 170:=aQ (cs:=[209]) ⟨X8,trivial⟩ (by decide+kernel)
theorem Tc:bd 254:=aQ (cs:=[]) trivial (by decide+kernel)
theorem X9:bd 255:=aQ (cs:=[]) trivial (by decide+kernel)
theorem afg:bd 207:=aQ (cs:=[253,254,255]) ⟨afh,Tc,X9,trivial⟩ (by decide+kernel)
theorem afi:bd 162:=aQ (cs:=[170,207]) ⟨Cc,afg,trivial⟩ (by decide+kernel)
theorem Ic:bd 118:=aQ (cs:=[162]) ⟨afi,trivial⟩ (by decide+kernel)
theorem afj:bd 163:=aQ (cs:=[]) trivial (by decide+kernel)
theorem afk:bd 164:=aQ (cs:=[170]) ⟨Cc,trivial⟩ (by decide+kernel)
theorem afl:bd 165:=aQ (cs:=[170]) ⟨Cc,trivial⟩ (by decide+kernel)
theorem Yu:bd 280:=aQ (cs:=[]) trivial (by decide+kernel)
theorem NV:bd 279:=aQ (cs:=[254,280]) ⟨Tc,Yu,trivial⟩ (by decide+kernel)
theorem afm:bd 243:=aQ (cs:=[254,255,279]) ⟨Tc,X9,NV,trivial⟩ (by decide+kernel)
theorem Yw:bd 244:=aQ (cs:=[243]) ⟨afm,trivial⟩ (by decide+kernel)
theorem afn:bd 242:=aQ (cs:=[244,279]) ⟨Yw,NV,trivial⟩ (by decide+kernel)
theorem afo:bd 248:=aQ (cs:=[279,280]) ⟨NV,Yu,trivial⟩ (by decide+kernel)
theorem afp:bd 249:=aQ (cs:=[279]) ⟨NV,trivial⟩ (by decide+kernel)
theorem afq:bd 251:=aQ (cs:=[]) trivial (by decide+kernel)
theorem NJ:bd 208:=aQ (cs:=[118,242,244,248,249,250,251]) ⟨Ic,afn,Yw,afo,afp,afr,afq,trivial⟩ (by decide+kernel)
theorem Yx:bd 166:=aQ (cs:=[208]) ⟨NJ,trivial⟩ (by decide+kernel)
theorem Td:bd 167:=aQ (cs:=[208]) ⟨NJ,trivial⟩ (by decide+kernel)
theorem Te:bd 168:=aQ (cs:=[118,166]) ⟨Ic,Yx,trivial⟩ (by decide+kernel)
theorem afs:bd 169:=aQ (cs:=[]) trivial (by decide+kernel)
theorem aft:bd 210:=aQ (cs:=[]) trivial (by decide+kernel)
theorem afu:bd 171:=aQ (cs:=[210]) ⟨aft,trivial⟩ (by decide+kernel)
theorem Tf:bd 172:=aQ (cs:=[]) trivial (by decide+kernel)
theorem EW:bd 132:=aQ (cs:=[183]) ⟨afv,trivial⟩ (by decide+kernel)
theorem Tg:bd 173:=aQ (cs:=[132,211]) ⟨EW,afw,trivial⟩ (by decide+kernel)
theorem Th:bd 119:=aQ (cs:=[163,164,165,166,167,168,169,170,171,172,173]) ⟨afj,afk,afl,Yx,Td,Te,afs,Cc,afu,Tf,Tg,trivial⟩ (by decide+kernel)
theorem k73:bd 73:=aQ (cs:=[55,118,119]) ⟨XP,Ic,Th,trivial⟩ (by decide+kernel)
theorem Ti:bd 124:=aQ (cs:=[]) trivial (by decide+kernel)
theorem sN:bd 79:=aQ (cs:=[124]) ⟨Ti,trivial⟩ (by decide+kernel)
theorem afx:bd 120:=aQ (cs:=[]) trivial (by decide+kernel)
end Go.Proofs.YtjlnoogcggdhkaaGreatDoor
