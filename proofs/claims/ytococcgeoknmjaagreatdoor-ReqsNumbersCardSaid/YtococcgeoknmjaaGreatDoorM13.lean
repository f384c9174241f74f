/- Part 13 of the lemmas: ZGNb. -/
import Derived.Test.YtococcgeoknmjaaGreatDoorProg
import Derived.Shelf.Abstract
import Derived.Test.YtococcgeoknmjaaGreatDoorM07
import Derived.Test.YtococcgeoknmjaaGreatDoorM12
import Derived.Test.YtococcgeoknmjaaGreatDoorM09
import Derived.WalkKit
namespace Go.Proofs.AM
open Go Go.RowKit Go.Shelf Cd
set_option maxRecDepth 100000
theorem E10 : Enters Tryz.prog 10 := enters_of Tryz.func10 (by kernel_rfl) rfl
theorem T10 : funcT Tryz.prog [] Tryz.f10 = some c10.erase := by kernel_rfl
theorem E12 : Enters Tryz.prog 12 := enters_of Tryz.func12 (by kernel_rfl) rfl
theorem T12 : funcT Tryz.prog [] Tryz.f12 = some c12.erase := by kernel_rfl
theorem E13 : Enters Tryz.prog 13 := enters_of Tryz.func13 (by kernel_rfl) rfl
theorem T13 : funcT Tryz.prog [] Tryz.f13 = some c13.erase := by kernel_rfl
theorem E14 : Enters Tryz.prog 14 := enters_of Tryz.func14 (by kernel_rfl) rfl
theorem T14 : funcT Tryz.prog [] Tryz.f14 = some c14.erase := by kernel_rfl
theorem E32 : Enters Tryz.prog 32 := enters_of Tryz.func32 (by kernel_rfl) rfl
theorem T32 : funcT Tryz.prog [] Tryz.f32 = some c32.erase := by kernel_rfl
theorem E33 : Enters Tryz.prog 33 := enters_of Tryz.func33 (by kernel_rfl) rfl
theorem T33 : funcT Tryz.prog [72] Tryz.f33 = some c33.erase := by kernel_rfl
theorem E34 : Enters Tryz.prog 34 := enters_of Tryz.func34 (by kernel_rfl) rfl
theorem T34 : funcT Tryz.prog [] Tryz.f34 = some c34.erase := by kernel_rfl
theorem E35 : Enters Tryz.prog 35 := enters_of Tryz.func35 (by kernel_rfl) rfl
theorem T35 : funcT Tryz.prog [] Tryz.f35 = some c35.erase := by kernel_rfl
theorem E36 : Enters Tryz.prog 36 := enters_of Tryz.func36 (by kernel_rfl) rfl
theorem T36 : funcT Tryz.prog [] Tryz.f36 = some c36.erase := by kernel_rfl
theorem E37 : Enters Tryz.prog 37 := enters_of Tryz.func37 (by kernel_rfl) rfl
theorem T37 : funcT Tryz.prog [] Tryz.f37 = some c37.erase := by kernel_rfl
theorem E38 : Enters Tryz.prog 38 := enters_of Tryz.func38 (by kernel_rfl) rfl
theorem T38 : funcT Tryz.prog [10, 88, 89, 90, 93] Tryz.f38 = some c38.erase := by kernel_rfl
theorem E40 : Enters Tryz.prog 40 := enters_of Tryz.func40 (by kernel_rfl) rfl
theorem T40 : funcT Tryz.prog [] Tryz.f40 = some c40.erase := by kernel_rfl
theorem E41 : Enters Tryz.prog 41 := enters_of Tryz.func41 (by kernel_rfl) rfl
theorem T41 : funcT Tryz.prog [] Tryz.f41 = some c41.erase := by kernel_rfl
theorem E42 : Enters Tryz.prog 42 := enters_of Tryz.func42 (by kernel_rfl) rfl
theorem T42 : funcT Tryz.prog [] Tryz.f42 = some c42.erase := by kernel_rfl
theorem E43 : Enters Tryz.prog 43 := enters_of Tryz.func43 (by kernel_rfl) rfl
theorem T43 : funcT Tryz.prog [] Tryz.f43 = some c43.erase := by kernel_rfl
theorem E44 : Enters Tryz.prog 44 := enters_of Tryz.func44 (by kernel_rfl) rfl
theorem T44 : funcT Tryz.prog [] Tryz.f44 = some c44.erase := by kernel_rfl
theorem E84 : Enters Tryz.prog 84 := enters_of Tryz.func84 (by kernel_rfl) rfl
theorem T84 : funcT Tryz.prog [] Tryz.f84 = some c84.erase := by kernel_rfl
theorem E91 : Enters Tryz.prog 91 := enters_of Tryz.func91 (by kernel_rfl) rfl
theorem T91 : funcT Tryz.prog [] Tryz.f91 = some c91.erase := by kernel_rfl
theorem E92 : Enters Tryz.prog 92 := enters_of Tryz.func92 (by kernel_rfl) rfl
theorem T92 : funcT Tryz.prog [] Tryz.f92 = some c92.erase := by kernel_rfl
theorem E94 : Enters Tryz.prog 94 := enters_of Tryz.func94 (by kernel_rfl) rfl
theorem T94 : funcT Tryz.prog [] Tryz.f94 = some c94.erase := by kernel_rfl
theorem E96 : Enters Tryz.prog 96 := enters_of Tryz.func96 (by kernel_rfl) rfl
theorem T96 : funcT Tryz.prog [] Tryz.f96 = some c96.erase := by kernel_rfl
theorem E97 : Enters Tryz.prog 97 := enters_of Tryz.func97 (by kernel_rfl) rfl
theorem T97 : funcT Tryz.prog [] Tryz.f97 = some c97.erase := by kernel_rfl
theorem E98 : Enters Tryz.prog 98 := enters_of Tryz.func98 (by kernel_rfl) rfl
theorem T98 : funcT Tryz.prog [] Tryz.f98 = some c98.erase := by kernel_rfl
theorem E99 : Enters Tryz.prog 99 := enters_of Tryz.func99 (by kernel_rfl) rfl
theorem T99 : funcT Tryz.prog [] Tryz.f99 = some c99.erase := by kernel_rfl
theorem E102 : Enters Tryz.prog 102 := enters_of Tryz.func102 (by kernel_rfl) rfl
theorem T102 : funcT Tryz.prog [24] Tryz.f102 = some c102.erase := by kernel_rfl
theorem E195 : Enters Tryz.prog 195 := enters_of Tryz.func195 (by kernel_rfl) rfl
theorem T195 : funcT Tryz.prog [] Tryz.f195 = some c195.erase := by kernel_rfl
end Go.Proofs.AM
