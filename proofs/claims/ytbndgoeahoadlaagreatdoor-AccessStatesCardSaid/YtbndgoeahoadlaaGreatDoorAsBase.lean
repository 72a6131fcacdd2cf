import Derived.Test.YtbndgoeahoadlaaGreatDoorAsTy
import Derived.Test.YtbndgoeahoadlaaGreatDoorAsM
import Derived.Test.YtbndgoeahoadlaaGreatDoorAsA
import Derived.Test.YtbndgoeahoadlaaGreatDoorAsS
import Derived.Test.YtbndgoeahoadlaaGreatDoorPwZ
import Derived.Test.YtbndgoeahoadlaaGreatDoorPwBl
import Derived.Test.YtbndgoeahoadlaaGreatDoorPwF7
import Derived.Test.YtbndgoeahoadlaaGreatDoorPwF8
import Derived.Test.YtbndgoeahoadlaaGreatDoorPwF3
import Derived.Test.YtbndgoeahoadlaaGreatDoorPwG5
set_option linter.all false
namespace Go.Sh
open Go.PW Go.Proofs.YtbndgoeahoadlaaGreatDoor
@[go_sem] theorem w64_add21 : w64 ((2 : Int) + (1 : Int)) = 3 := by rw [w64_id (by omega)]; rfl
@[go_sem] theorem w64_add31 : w64 ((3 : Int) + (1 : Int)) = 4 := by rw [w64_id (by omega)]; rfl
@[go_sem] theorem w64_add41 : w64 ((4 : Int) + (1 : Int)) = 5 := by rw [w64_id (by omega)]; rfl
@[go_sem] theorem w64_add51 : w64 ((5 : Int) + (1 : Int)) = 6 := by rw [w64_id (by omega)]; rfl
@[go_sem] theorem w64_add61 : w64 ((6 : Int) + (1 : Int)) = 7 := by rw [w64_id (by omega)]; rfl
@[go_sem] theorem w64_add71 : w64 ((7 : Int) + (1 : Int)) = 8 := by rw [w64_id (by omega)]; rfl
@[go_sem] theorem w64_add81 : w64 ((8 : Int) + (1 : Int)) = 9 := by rw [w64_id (by omega)]; rfl
@[go_sem] theorem gval0 : gval 0 = .d (.ref [Bo false, Bo false, Bo false, Bo false, Bo true, Bo false, Bo true, Bo true, Bo false, Bo true, Bo true, Bo true, Bo false, Bo false, Bo true, Bo true, Bo false, Bo true, Bo false, Bo false, Bo false, Bo false, Bo false, Bo true]) := by rfl
end Go.Sh
attribute [go_sem] Go.PW.Env.frzL Go.PW.Env.frz Go.PW.frzOb Go.PW.V.frz Go.PW.V.frz.frzs Go.PW.asD Go.PW.map_asD
