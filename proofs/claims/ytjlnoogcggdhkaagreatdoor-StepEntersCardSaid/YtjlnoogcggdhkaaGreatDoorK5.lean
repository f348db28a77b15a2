/-
 CONTRACTS OF SHAPES, reckoned: 4.
 Conditions: none.
-/
import Derived.Test.YtjlnoogcggdhkaaGreatDoorK4
set_option maxRecDepth 100000
set_option maxHeartbeats 32000000
set_option linter.all false
namespace Go.Proofs.YtjlnoogcggdhkaaGreatDoor
open Go.Proofs.Tryz
open Go Go.VS Go.Ck
variable [eb]
theorem U9:bd 263:=aQ (cs:=[184,283]) ⟨S5,XV,trivial⟩ (by decide+kernel)
theorem ag7:bd 284:=aQ (cs:=[85,89,133,184,283]) ⟨sH,yl,qW,S5,XV,trivial⟩ (by decide+kernel)
theorem ag8:bd 264:=aQ (cs:=[89,132,133,167,188,284]) ⟨yl,EW,qW,Td,Cd,ag7,trivial⟩ (by decide+kernel)
theorem ag9:bd 265:=aQ (cs:=[84,85,89]) ⟨P0,sH,yl,trivial⟩ (by decide+kernel)
theorem aha:bd 285:=aQ (cs:=[83,188,263]) ⟨PZ,Cd,U9,trivial⟩ (by decide+kernel)
theorem ahb:bd 286:=aQ (cs:=[188,259]) ⟨Cd,XU,trivial⟩ (by decide+kernel)
theorem ahc:bd 287:=aQ (cs:=[263]) ⟨U9,trivial⟩ (by decide+kernel)
theorem ahd:bd 266:=aQ (cs:=[84,89,133,168,188,285,286,287]) ⟨P0,yl,qW,Te,Cd,aha,ahb,ahc,trivial⟩ (by decide+kernel)
theorem ahe:bd 190:=aQ (cs:=[83,84,89,119,170,172,173,224,257,258,259,260,261,262,263,264,265,266]) ⟨PZ,P0,yl,Th,Cc,Tf,Tg,ae5,XR,ae6,XU,ae8,ae9,XT,U9,ag8,ag9,ahd,trivial⟩ (by decide+kernel)
theorem ahf:bd 139:=aQ (cs:=[188,189,190]) ⟨Cd,ae4,ahe,trivial⟩ (by decide+kernel)
theorem k86:bd 86:=aQ (cs:=[83,85,87,89,133,134,135,136,137,138,139]) ⟨PZ,sH,k87,yl,qW,S6,aeS,aeV,aeZ,ae1,ahf,trivial⟩ (by decide+kernel)
theorem k88:bd 88:=aQ (cs:=[85,141]) ⟨sH,XQ,trivial⟩ (by decide+kernel)
theorem k45:bd 45:=aQ (cs:=[73,84,85,86,87,88,89]) ⟨k73,P0,sH,k86,k87,k88,yl,trivial⟩ (by decide+kernel)
theorem k7:bd 7:=aQ (cs:=[]) trivial (by decide+kernel)
theorem k34:bd 34:=aQ (cs:=[63]) ⟨XJ,trivial⟩ (by decide+kernel)
theorem k39:bd 39:=aQ (cs:=[]) trivial (by decide+kernel)
theorem k47:bd 47:=aQ (cs:=[7]) ⟨k7,trivial⟩ (by decide+kernel)
theorem k94:bd 94:=aQ (cs:=[7]) ⟨k7,trivial⟩ (by decide+kernel)
theorem k51:bd 51:=aQ (cs:=[7,94]) ⟨k7,k94,trivial⟩ (by decide+kernel)
theorem k41:bd 41:=aQ (cs:=[7,51]) ⟨k7,k51,trivial⟩ (by decide+kernel)
theorem k13:bd 13:=aQ (cs:=[7,41]) ⟨k7,k41,trivial⟩ (by decide+kernel)
theorem k17:bd 17:=aQ (cs:=[]) trivial (by decide+kernel)
theorem k50:bd 50:=aQ (cs:=[]) trivial (by decide+kernel)
theorem k18:bd 18:=aQ (cs:=[7,50]) ⟨k7,k50,trivial⟩ (by decide+kernel)
theorem k19:bd 19:=aQ (cs:=[7,51]) ⟨k7,k51,trivial⟩ (by decide+kernel)
theorem k90:bd 90:=aQ (cs:=[7,50]) ⟨k7,k50,trivial⟩ (by decide+kernel)
theorem ahg:bd 142:=aQ (cs:=[]) trivial (by decide+kernel)
theorem k91:bd 91:=aQ (cs:=[7,34,39,142]) ⟨k7,k34,k39,ahg,trivial⟩ (by decide+kernel)
theorem k48:bd 48:=aQ (cs:=[7,13,17,18,19,90,91]) ⟨k7,k13,k17,k18,k19,k90,k91,trivial⟩ (by decide+kernel)
theorem k15:bd 15:=aQ (cs:=[7,34,39,40,47,48]) ⟨k7,k34,k39,k40,k47,k48,trivial⟩ (by decide+kernel)
theorem k12:bd 12:=aQ (cs:=[34,39,40]) ⟨k34,k39,k40,trivial⟩ (by decide+kernel)
theorem k8:bd 8:=aQ (cs:=[7,12,17,18,19]) ⟨k7,k12,k17,k18,k19,trivial⟩ (by decide+kernel)
theorem k5:bd 5:=aQ (cs:=[7,12,13]) ⟨k7,k12,k13,trivial⟩ (by decide+kernel)
end Go.Proofs.YtjlnoogcggdhkaaGreatDoor
