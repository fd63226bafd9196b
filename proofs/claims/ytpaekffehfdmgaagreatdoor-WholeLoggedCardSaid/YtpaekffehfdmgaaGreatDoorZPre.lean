/-
  The seat's functions: their texts; how elements of lists stand in cells. (Printed by my own program.)
  Conditions: none.
-/
import Derived.Test.YtpaekffehfdmgaaGreatDoorRows
import Derived.Test.YtpaekffehfdmgaaGreatDoorZB2
import Derived.KernelRfl
import Derived.Test.YtpaekffehfdmgaaGreatDoorZSumDef
import Derived.Test.YtpaekffehfdmgaaGreatDoorZOppDef
set_option linter.unusedVariables false
set_option linter.unusedSimpArgs false
namespace Go.Ws
open Go.Proofs
set_option linter.unusedSimpArgs false
set_option linter.unusedVariables false
set_option maxRecDepth 1000000
set_option maxHeartbeats 4000000

def aS (x:Int × ByteArray):List AV:=[(.int .u64 x.1),(.str x.2)]
def iG (x:List Int):List AV:=[(.sl 1 (List.map aJ x))]
def aD (x:Int × (List (Int × Int)) × Bool × Int):List AV:=[(.int .i64 x.1),(.sl 2 (List.map aC x.2.1)),(.bool x.2.2.1),(.int .i64 x.2.2.2)]
def fH (x:Int × Int × Int × Int × Bool):List AV:=[(.int .u8 x.1),(.int .u8 x.2.1),(.int .u8 x.2.2.1),(.int .i64 x.2.2.2.1),(.bool x.2.2.2.2)]
def aE (x:Int × Int × Bool):List AV:=[(.int .u8 x.1),(.int .i64 x.2.1),(.bool x.2.2)]
def yV (x:Int):List AV:=[(.int .i64 x)]
def aB (x:Int × Int × Int × Int):List AV:=[(.int .i64 x.1),(.int .i64 x.2.1),(.int .u8 x.2.2.1),(.int .i64 x.2.2.2)]
theorem mixed:Tryz.prog.follows .mixedOrders=true:=by kernel_rfl
theorem qP : Tryz.prog.funcs[3]? = some Tryz.f3 ∧ (Tryz.f3.name == "runtime.NumGoroutine") = false ∧ Tryz.f3.body.isSome = true := ⟨Tryz.func3, by kernel_rfl, by kernel_rfl⟩
theorem zX : Tryz.prog.funcs[5]? = some Tryz.f5 ∧ (Tryz.f5.name == "runtime.NumGoroutine") = false ∧ Tryz.f5.body.isSome = true := ⟨Tryz.func5, by kernel_rfl, by kernel_rfl⟩
theorem facts6 : Tryz.prog.funcs[6]? = some Tryz.f6 ∧ (Tryz.f6.name == "runtime.NumGoroutine") = false ∧ Tryz.f6.body.isSome = true := ⟨Tryz.func6, by kernel_rfl, by kernel_rfl⟩
theorem xV : Tryz.prog.funcs[7]? = some Tryz.f7 ∧ (Tryz.f7.name == "runtime.NumGoroutine") = false ∧ Tryz.f7.body.isSome = true := ⟨Tryz.func7, by kernel_rfl, by kernel_rfl⟩
theorem facts8 : Tryz.prog.funcs[8]? = some Tryz.f8 ∧ (Tryz.f8.name == "runtime.NumGoroutine") = false ∧ Tryz.f8.body.isSome = true := ⟨Tryz.func8, by kernel_rfl, by kernel_rfl⟩
theorem aR5 : Tryz.prog.funcs[9]? = some Tryz.f9 ∧ (Tryz.f9.name == "runtime.NumGoroutine") = false ∧ Tryz.f9.body.isSome = true := ⟨Tryz.func9, by kernel_rfl, by kernel_rfl⟩
theorem facts10 : Tryz.prog.funcs[10]? = some Tryz.f10 ∧ (Tryz.f10.name == "runtime.NumGoroutine") = false ∧ Tryz.f10.body.isSome = true := ⟨Tryz.func10, by kernel_rfl, by kernel_rfl⟩
theorem facts11 : Tryz.prog.funcs[11]? = some Tryz.f11 ∧ (Tryz.f11.name == "runtime.NumGoroutine") = false ∧ Tryz.f11.body.isSome = true := ⟨Tryz.func11, by kernel_rfl, by kernel_rfl⟩
theorem facts12 : Tryz.prog.funcs[12]? = some Tryz.f12 ∧ (Tryz.f12.name == "runtime.NumGoroutine") = false ∧ Tryz.f12.body.isSome = true := ⟨Tryz.func12, by kernel_rfl, by kernel_rfl⟩
theorem aOL : Tryz.prog.funcs[13]? = some Tryz.f13 ∧ (Tryz.f13.name == "runtime.NumGoroutine") = false ∧ Tryz.f13.body.isSome = true := ⟨Tryz.func13, by kernel_rfl, by kernel_rfl⟩
theorem aS1 : Tryz.prog.funcs[14]? = some Tryz.f14 ∧ (Tryz.f14.name == "runtime.NumGoroutine") = false ∧ Tryz.f14.body.isSome = true := ⟨Tryz.func14, by kernel_rfl, by kernel_rfl⟩
theorem aTH : Tryz.prog.funcs[15]? = some Tryz.f15 ∧ (Tryz.f15.name == "runtime.NumGoroutine") = false ∧ Tryz.f15.body.isSome = true := ⟨Tryz.func15, by kernel_rfl, by kernel_rfl⟩
theorem facts16 : Tryz.prog.funcs[16]? = some Tryz.f16 ∧ (Tryz.f16.name == "runtime.NumGoroutine") = false ∧ Tryz.f16.body.isSome = true := ⟨Tryz.func16, by kernel_rfl, by kernel_rfl⟩
theorem aUJ : Tryz.prog.funcs[29]? = some Tryz.f29 ∧ (Tryz.f29.name == "runtime.NumGoroutine") = false ∧ Tryz.f29.body.isSome = true := ⟨Tryz.func29, by kernel_rfl, by kernel_rfl⟩
theorem aI7 : Tryz.prog.funcs[30]? = some Tryz.f30 ∧ (Tryz.f30.name == "runtime.NumGoroutine") = false ∧ Tryz.f30.body.isSome = true := ⟨Tryz.func30, by kernel_rfl, by kernel_rfl⟩
theorem aO0 : Tryz.prog.funcs[31]? = some Tryz.f31 ∧ (Tryz.f31.name == "runtime.NumGoroutine") = false ∧ Tryz.f31.body.isSome = true := ⟨Tryz.func31, by kernel_rfl, by kernel_rfl⟩
theorem facts32 : Tryz.prog.funcs[32]? = some Tryz.f32 ∧ (Tryz.f32.name == "runtime.NumGoroutine") = false ∧ Tryz.f32.body.isSome = true := ⟨Tryz.func32, by kernel_rfl, by kernel_rfl⟩
theorem aUI : Tryz.prog.funcs[33]? = some Tryz.f33 ∧ (Tryz.f33.name == "runtime.NumGoroutine") = false ∧ Tryz.f33.body.isSome = true := ⟨Tryz.func33, by kernel_rfl, by kernel_rfl⟩
theorem aUC : Tryz.prog.funcs[34]? = some Tryz.f34 ∧ (Tryz.f34.name == "runtime.NumGoroutine") = false ∧ Tryz.f34.body.isSome = true := ⟨Tryz.func34, by kernel_rfl, by kernel_rfl⟩
theorem facts35 : Tryz.prog.funcs[35]? = some Tryz.f35 ∧ (Tryz.f35.name == "runtime.NumGoroutine") = false ∧ Tryz.f35.body.isSome = true := ⟨Tryz.func35, by kernel_rfl, by kernel_rfl⟩
theorem aIU : Tryz.prog.funcs[36]? = some Tryz.f36 ∧ (Tryz.f36.name == "runtime.NumGoroutine") = false ∧ Tryz.f36.body.isSome = true := ⟨Tryz.func36, by kernel_rfl, by kernel_rfl⟩
theorem facts37 : Tryz.prog.funcs[37]? = some Tryz.f37 ∧ (Tryz.f37.name == "runtime.NumGoroutine") = false ∧ Tryz.f37.body.isSome = true := ⟨Tryz.func37, by kernel_rfl, by kernel_rfl⟩
theorem aUE : Tryz.prog.funcs[38]? = some Tryz.f38 ∧ (Tryz.f38.name == "runtime.NumGoroutine") = false ∧ Tryz.f38.body.isSome = true := ⟨Tryz.func38, by kernel_rfl, by kernel_rfl⟩
theorem aTB : Tryz.prog.funcs[39]? = some Tryz.f39 ∧ (Tryz.f39.name == "runtime.NumGoroutine") = false ∧ Tryz.f39.body.isSome = true := ⟨Tryz.func39, by kernel_rfl, by kernel_rfl⟩
theorem aCQ : Tryz.prog.funcs[51]? = some Tryz.f51 ∧ (Tryz.f51.name == "runtime.NumGoroutine") = false ∧ Tryz.f51.body.isSome = true := ⟨Tryz.func51, by kernel_rfl, by kernel_rfl⟩
theorem uH : Tryz.prog.funcs[52]? = some Tryz.f52 ∧ (Tryz.f52.name == "runtime.NumGoroutine") = false ∧ Tryz.f52.body.isSome = true := ⟨Tryz.func52, by kernel_rfl, by kernel_rfl⟩
theorem facts53 : Tryz.prog.funcs[53]? = some Tryz.f53 ∧ (Tryz.f53.name == "runtime.NumGoroutine") = false ∧ Tryz.f53.body.isSome = true := ⟨Tryz.func53, by kernel_rfl, by kernel_rfl⟩
theorem aND : Tryz.prog.funcs[54]? = some Tryz.f54 ∧ (Tryz.f54.name == "runtime.NumGoroutine") = false ∧ Tryz.f54.body.isSome = true := ⟨Tryz.func54, by kernel_rfl, by kernel_rfl⟩
theorem aI6 : Tryz.prog.funcs[55]? = some Tryz.f55 ∧ (Tryz.f55.name == "runtime.NumGoroutine") = false ∧ Tryz.f55.body.isSome = true := ⟨Tryz.func55, by kernel_rfl, by kernel_rfl⟩
theorem aS5 : Tryz.prog.funcs[56]? = some Tryz.f56 ∧ (Tryz.f56.name == "runtime.NumGoroutine") = false ∧ Tryz.f56.body.isSome = true := ⟨Tryz.func56, by kernel_rfl, by kernel_rfl⟩
theorem rR : Tryz.prog.funcs[58]? = some Tryz.f58 ∧ (Tryz.f58.name == "runtime.NumGoroutine") = false ∧ Tryz.f58.body.isSome = true := ⟨Tryz.func58, by kernel_rfl, by kernel_rfl⟩
theorem facts59 : Tryz.prog.funcs[59]? = some Tryz.f59 ∧ (Tryz.f59.name == "runtime.NumGoroutine") = false ∧ Tryz.f59.body.isSome = true := ⟨Tryz.func59, by kernel_rfl, by kernel_rfl⟩
theorem aN0 : Tryz.prog.funcs[60]? = some Tryz.f60 ∧ (Tryz.f60.name == "runtime.NumGoroutine") = false ∧ Tryz.f60.body.isSome = true := ⟨Tryz.func60, by kernel_rfl, by kernel_rfl⟩
theorem aCS : Tryz.prog.funcs[70]? = some Tryz.f70 ∧ (Tryz.f70.name == "runtime.NumGoroutine") = false ∧ Tryz.f70.body.isSome = true := ⟨Tryz.func70, by kernel_rfl, by kernel_rfl⟩
theorem aFP : Tryz.prog.funcs[71]? = some Tryz.f71 ∧ (Tryz.f71.name == "runtime.NumGoroutine") = false ∧ Tryz.f71.body.isSome = true := ⟨Tryz.func71, by kernel_rfl, by kernel_rfl⟩
theorem aI0 : Tryz.prog.funcs[72]? = some Tryz.f72 ∧ (Tryz.f72.name == "runtime.NumGoroutine") = false ∧ Tryz.f72.body.isSome = true := ⟨Tryz.func72, by kernel_rfl, by kernel_rfl⟩
theorem aIX : Tryz.prog.funcs[73]? = some Tryz.f73 ∧ (Tryz.f73.name == "runtime.NumGoroutine") = false ∧ Tryz.f73.body.isSome = true := ⟨Tryz.func73, by kernel_rfl, by kernel_rfl⟩
theorem o7 : Tryz.prog.funcs[74]? = some Tryz.f74 ∧ (Tryz.f74.name == "runtime.NumGoroutine") = false ∧ Tryz.f74.body.isSome = true := ⟨Tryz.func74, by kernel_rfl, by kernel_rfl⟩
theorem aOB : Tryz.prog.funcs[75]? = some Tryz.f75 ∧ (Tryz.f75.name == "runtime.NumGoroutine") = false ∧ Tryz.f75.body.isSome = true := ⟨Tryz.func75, by kernel_rfl, by kernel_rfl⟩
theorem facts76 : Tryz.prog.funcs[76]? = some Tryz.f76 ∧ (Tryz.f76.name == "runtime.NumGoroutine") = false ∧ Tryz.f76.body.isSome = true := ⟨Tryz.func76, by kernel_rfl, by kernel_rfl⟩
theorem aT1 : Tryz.prog.funcs[82]? = some Tryz.f82 ∧ (Tryz.f82.name == "runtime.NumGoroutine") = false ∧ Tryz.f82.body.isSome = true := ⟨Tryz.func82, by kernel_rfl, by kernel_rfl⟩
theorem aS2 : Tryz.prog.funcs[83]? = some Tryz.f83 ∧ (Tryz.f83.name == "runtime.NumGoroutine") = false ∧ Tryz.f83.body.isSome = true := ⟨Tryz.func83, by kernel_rfl, by kernel_rfl⟩
theorem aN6 : Tryz.prog.funcs[84]? = some Tryz.f84 ∧ (Tryz.f84.name == "runtime.NumGoroutine") = false ∧ Tryz.f84.body.isSome = true := ⟨Tryz.func84, by kernel_rfl, by kernel_rfl⟩
theorem aUF : Tryz.prog.funcs[85]? = some Tryz.f85 ∧ (Tryz.f85.name == "runtime.NumGoroutine") = false ∧ Tryz.f85.body.isSome = true := ⟨Tryz.func85, by kernel_rfl, by kernel_rfl⟩
theorem facts86 : Tryz.prog.funcs[86]? = some Tryz.f86 ∧ (Tryz.f86.name == "runtime.NumGoroutine") = false ∧ Tryz.f86.body.isSome = true := ⟨Tryz.func86, by kernel_rfl, by kernel_rfl⟩
theorem aS3 : Tryz.prog.funcs[88]? = some Tryz.f88 ∧ (Tryz.f88.name == "runtime.NumGoroutine") = false ∧ Tryz.f88.body.isSome = true := ⟨Tryz.func88, by kernel_rfl, by kernel_rfl⟩
theorem qJ : Tryz.prog.funcs[89]? = some Tryz.f89 ∧ (Tryz.f89.name == "runtime.NumGoroutine") = false ∧ Tryz.f89.body.isSome = true := ⟨Tryz.func89, by kernel_rfl, by kernel_rfl⟩
theorem facts90 : Tryz.prog.funcs[90]? = some Tryz.f90 ∧ (Tryz.f90.name == "runtime.NumGoroutine") = false ∧ Tryz.f90.body.isSome = true := ⟨Tryz.func90, by kernel_rfl, by kernel_rfl⟩
theorem aSY : Tryz.prog.funcs[91]? = some Tryz.f91 ∧ (Tryz.f91.name == "runtime.NumGoroutine") = false ∧ Tryz.f91.body.isSome = true := ⟨Tryz.func91, by kernel_rfl, by kernel_rfl⟩
theorem facts93 : Tryz.prog.funcs[93]? = some Tryz.f93 ∧ (Tryz.f93.name == "runtime.NumGoroutine") = false ∧ Tryz.f93.body.isSome = true := ⟨Tryz.func93, by kernel_rfl, by kernel_rfl⟩
theorem aT0 : Tryz.prog.funcs[94]? = some Tryz.f94 ∧ (Tryz.f94.name == "runtime.NumGoroutine") = false ∧ Tryz.f94.body.isSome = true := ⟨Tryz.func94, by kernel_rfl, by kernel_rfl⟩
theorem aTS : Tryz.prog.funcs[95]? = some Tryz.f95 ∧ (Tryz.f95.name == "runtime.NumGoroutine") = false ∧ Tryz.f95.body.isSome = true := ⟨Tryz.func95, by kernel_rfl, by kernel_rfl⟩
theorem aTW : Tryz.prog.funcs[96]? = some Tryz.f96 ∧ (Tryz.f96.name == "runtime.NumGoroutine") = false ∧ Tryz.f96.body.isSome = true := ⟨Tryz.func96, by kernel_rfl, by kernel_rfl⟩
theorem facts97 : Tryz.prog.funcs[97]? = some Tryz.f97 ∧ (Tryz.f97.name == "runtime.NumGoroutine") = false ∧ Tryz.f97.body.isSome = true := ⟨Tryz.func97, by kernel_rfl, by kernel_rfl⟩
theorem aKP : Tryz.prog.funcs[100]? = some Tryz.f100 ∧ (Tryz.f100.name == "runtime.NumGoroutine") = false ∧ Tryz.f100.body.isSome = true := ⟨Tryz.func100, by kernel_rfl, by kernel_rfl⟩
theorem facts101 : Tryz.prog.funcs[101]? = some Tryz.f101 ∧ (Tryz.f101.name == "runtime.NumGoroutine") = false ∧ Tryz.f101.body.isSome = true := ⟨Tryz.func101, by kernel_rfl, by kernel_rfl⟩
theorem aP4 : Tryz.prog.funcs[121]? = some Tryz.f121 ∧ (Tryz.f121.name == "runtime.NumGoroutine") = false ∧ Tryz.f121.body.isSome = true := ⟨Tryz.func121, by kernel_rfl, by kernel_rfl⟩
theorem zG : Tryz.prog.funcs[122]? = some Tryz.f122 ∧ (Tryz.f122.name == "runtime.NumGoroutine") = false ∧ Tryz.f122.body.isSome = true := ⟨Tryz.func122, by kernel_rfl, by kernel_rfl⟩
theorem yI : Tryz.prog.funcs[123]? = some Tryz.f123 ∧ (Tryz.f123.name == "runtime.NumGoroutine") = false ∧ Tryz.f123.body.isSome = true := ⟨Tryz.func123, by kernel_rfl, by kernel_rfl⟩
theorem aGV : Tryz.prog.funcs[127]? = some Tryz.f127 ∧ (Tryz.f127.name == "runtime.NumGoroutine") = false ∧ Tryz.f127.body.isSome = true := ⟨Tryz.func127, by kernel_rfl, by kernel_rfl⟩
theorem aQA : Tryz.prog.funcs[128]? = some Tryz.f128 ∧ (Tryz.f128.name == "runtime.NumGoroutine") = false ∧ Tryz.f128.body.isSome = true := ⟨Tryz.func128, by kernel_rfl, by kernel_rfl⟩
theorem facts129 : Tryz.prog.funcs[129]? = some Tryz.f129 ∧ (Tryz.f129.name == "runtime.NumGoroutine") = false ∧ Tryz.f129.body.isSome = true := ⟨Tryz.func129, by kernel_rfl, by kernel_rfl⟩
theorem aQZ : Tryz.prog.funcs[132]? = some Tryz.f132 ∧ (Tryz.f132.name == "runtime.NumGoroutine") = false ∧ Tryz.f132.body.isSome = true := ⟨Tryz.func132, by kernel_rfl, by kernel_rfl⟩
theorem facts142 : Tryz.prog.funcs[142]? = some Tryz.f142 ∧ (Tryz.f142.name == "runtime.NumGoroutine") = false ∧ Tryz.f142.body.isSome = true := ⟨Tryz.func142, by kernel_rfl, by kernel_rfl⟩
theorem facts143 : Tryz.prog.funcs[143]? = some Tryz.f143 ∧ (Tryz.f143.name == "runtime.NumGoroutine") = false ∧ Tryz.f143.body.isSome = true := ⟨Tryz.func143, by kernel_rfl, by kernel_rfl⟩
theorem own:ownKnob Tryz.prog.godebug=none:=by kernel_rfl
theorem laid:laidOutB Tryz.prog=true:=by kernel_rfl
theorem rowed:mapsRowed Tryz.prog=true:=by kernel_rfl
theorem full:fullB Tryz.prog=true:=by kernel_rfl
theorem isBool:Tryz.prog.underlying 4=some .bool:=by kernel_rfl
end Go.Ws
