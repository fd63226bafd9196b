/-
  The seat's functions: their texts; how elements of lists stand in cells. (Printed by my own program.)
  Conditions: none.
-/
import Derived.Test.YtipeekdnpocclaaRows
import Derived.Test.YtipeekdnpocclaaZB2
import Derived.KernelRfl
import Derived.Test.YtipeekdnpocclaaZOppDef
import Derived.Test.YtipeekdnpocclaaZAgrDef
set_option linter.unusedVariables false
set_option linter.unusedSimpArgs false
namespace Go.Ws
open Go.Proofs
set_option linter.unusedSimpArgs false
set_option linter.unusedVariables false
set_option maxRecDepth 1000000
set_option maxHeartbeats 4000000

def aC (x:Int × Int × Int × Int):List AV:=[(.int .i64 x.1),(.int .i64 x.2.1),(.int .u8 x.2.2.1),(.int .i64 x.2.2.2)]
def bW (x:Int):List AV:=[(.int .i64 x)]
def aK (x:Int × (List (Int × Int)) × Bool × Int):List AV:=[(.int .i64 x.1),(.sl 2 (List.map aB x.2.1)),(.bool x.2.2.1),(.int .i64 x.2.2.2)]
def aA (x:Int × Int × Bool):List AV:=[(.int .u8 x.1),(.int .i64 x.2.1),(.bool x.2.2)]
def cW (x:Int × Int):List AV:=[(.int .i64 x.1),(.int .i64 x.2)]
def aH (x:Int × Int × (List (Int × Int)) × Bool × Int):List AV:=[(.int .i64 x.1),(.int .i64 x.2.1),(.sl 2 (List.map aB x.2.2.1)),(.bool x.2.2.2.1),(.int .i64 x.2.2.2.2)]
theorem aF:Try.prog.follows .mixedOrders=true:=by kernel_rfl
theorem qA : Try.prog.funcs[3]? = some Try.f3 ∧ (Try.f3.name == "runtime.NumGoroutine") = false ∧ Try.f3.body.isSome = true := ⟨Try.func3, by kernel_rfl, by kernel_rfl⟩
theorem oN : Try.prog.funcs[8]? = some Try.f8 ∧ (Try.f8.name == "runtime.NumGoroutine") = false ∧ Try.f8.body.isSome = true := ⟨Try.func8, by kernel_rfl, by kernel_rfl⟩
theorem facts9 : Try.prog.funcs[9]? = some Try.f9 ∧ (Try.f9.name == "runtime.NumGoroutine") = false ∧ Try.f9.body.isSome = true := ⟨Try.func9, by kernel_rfl, by kernel_rfl⟩
theorem facts10 : Try.prog.funcs[10]? = some Try.f10 ∧ (Try.f10.name == "runtime.NumGoroutine") = false ∧ Try.f10.body.isSome = true := ⟨Try.func10, by kernel_rfl, by kernel_rfl⟩
theorem aVP : Try.prog.funcs[11]? = some Try.f11 ∧ (Try.f11.name == "runtime.NumGoroutine") = false ∧ Try.f11.body.isSome = true := ⟨Try.func11, by kernel_rfl, by kernel_rfl⟩
theorem aWO : Try.prog.funcs[12]? = some Try.f12 ∧ (Try.f12.name == "runtime.NumGoroutine") = false ∧ Try.f12.body.isSome = true := ⟨Try.func12, by kernel_rfl, by kernel_rfl⟩
theorem aWD : Try.prog.funcs[13]? = some Try.f13 ∧ (Try.f13.name == "runtime.NumGoroutine") = false ∧ Try.f13.body.isSome = true := ⟨Try.func13, by kernel_rfl, by kernel_rfl⟩
theorem aUW : Try.prog.funcs[14]? = some Try.f14 ∧ (Try.f14.name == "runtime.NumGoroutine") = false ∧ Try.f14.body.isSome = true := ⟨Try.func14, by kernel_rfl, by kernel_rfl⟩
theorem aU5 : Try.prog.funcs[15]? = some Try.f15 ∧ (Try.f15.name == "runtime.NumGoroutine") = false ∧ Try.f15.body.isSome = true := ⟨Try.func15, by kernel_rfl, by kernel_rfl⟩
theorem aPV : Try.prog.funcs[16]? = some Try.f16 ∧ (Try.f16.name == "runtime.NumGoroutine") = false ∧ Try.f16.body.isSome = true := ⟨Try.func16, by kernel_rfl, by kernel_rfl⟩
theorem aVI : Try.prog.funcs[18]? = some Try.f18 ∧ (Try.f18.name == "runtime.NumGoroutine") = false ∧ Try.f18.body.isSome = true := ⟨Try.func18, by kernel_rfl, by kernel_rfl⟩
theorem facts20 : Try.prog.funcs[20]? = some Try.f20 ∧ (Try.f20.name == "runtime.NumGoroutine") = false ∧ Try.f20.body.isSome = true := ⟨Try.func20, by kernel_rfl, by kernel_rfl⟩
theorem vO : Try.prog.funcs[21]? = some Try.f21 ∧ (Try.f21.name == "runtime.NumGoroutine") = false ∧ Try.f21.body.isSome = true := ⟨Try.func21, by kernel_rfl, by kernel_rfl⟩
theorem aVZ : Try.prog.funcs[25]? = some Try.f25 ∧ (Try.f25.name == "runtime.NumGoroutine") = false ∧ Try.f25.body.isSome = true := ⟨Try.func25, by kernel_rfl, by kernel_rfl⟩
theorem facts26 : Try.prog.funcs[26]? = some Try.f26 ∧ (Try.f26.name == "runtime.NumGoroutine") = false ∧ Try.f26.body.isSome = true := ⟨Try.func26, by kernel_rfl, by kernel_rfl⟩
theorem aV8 : Try.prog.funcs[27]? = some Try.f27 ∧ (Try.f27.name == "runtime.NumGoroutine") = false ∧ Try.f27.body.isSome = true := ⟨Try.func27, by kernel_rfl, by kernel_rfl⟩
theorem aUV : Try.prog.funcs[28]? = some Try.f28 ∧ (Try.f28.name == "runtime.NumGoroutine") = false ∧ Try.f28.body.isSome = true := ⟨Try.func28, by kernel_rfl, by kernel_rfl⟩
theorem aU4 : Try.prog.funcs[29]? = some Try.f29 ∧ (Try.f29.name == "runtime.NumGoroutine") = false ∧ Try.f29.body.isSome = true := ⟨Try.func29, by kernel_rfl, by kernel_rfl⟩
theorem aPG : Try.prog.funcs[30]? = some Try.f30 ∧ (Try.f30.name == "runtime.NumGoroutine") = false ∧ Try.f30.body.isSome = true := ⟨Try.func30, by kernel_rfl, by kernel_rfl⟩
theorem facts31 : Try.prog.funcs[31]? = some Try.f31 ∧ (Try.f31.name == "runtime.NumGoroutine") = false ∧ Try.f31.body.isSome = true := ⟨Try.func31, by kernel_rfl, by kernel_rfl⟩
theorem facts33 : Try.prog.funcs[33]? = some Try.f33 ∧ (Try.f33.name == "runtime.NumGoroutine") = false ∧ Try.f33.body.isSome = true := ⟨Try.func33, by kernel_rfl, by kernel_rfl⟩
theorem aKB : Try.prog.funcs[34]? = some Try.f34 ∧ (Try.f34.name == "runtime.NumGoroutine") = false ∧ Try.f34.body.isSome = true := ⟨Try.func34, by kernel_rfl, by kernel_rfl⟩
theorem aV0 : Try.prog.funcs[36]? = some Try.f36 ∧ (Try.f36.name == "runtime.NumGoroutine") = false ∧ Try.f36.body.isSome = true := ⟨Try.func36, by kernel_rfl, by kernel_rfl⟩
theorem aVU : Try.prog.funcs[37]? = some Try.f37 ∧ (Try.f37.name == "runtime.NumGoroutine") = false ∧ Try.f37.body.isSome = true := ⟨Try.func37, by kernel_rfl, by kernel_rfl⟩
theorem aWE : Try.prog.funcs[38]? = some Try.f38 ∧ (Try.f38.name == "runtime.NumGoroutine") = false ∧ Try.f38.body.isSome = true := ⟨Try.func38, by kernel_rfl, by kernel_rfl⟩
theorem facts39 : Try.prog.funcs[39]? = some Try.f39 ∧ (Try.f39.name == "runtime.NumGoroutine") = false ∧ Try.f39.body.isSome = true := ⟨Try.func39, by kernel_rfl, by kernel_rfl⟩
theorem aVV : Try.prog.funcs[40]? = some Try.f40 ∧ (Try.f40.name == "runtime.NumGoroutine") = false ∧ Try.f40.body.isSome = true := ⟨Try.func40, by kernel_rfl, by kernel_rfl⟩
theorem aWN : Try.prog.funcs[41]? = some Try.f41 ∧ (Try.f41.name == "runtime.NumGoroutine") = false ∧ Try.f41.body.isSome = true := ⟨Try.func41, by kernel_rfl, by kernel_rfl⟩
theorem aVC : Try.prog.funcs[42]? = some Try.f42 ∧ (Try.f42.name == "runtime.NumGoroutine") = false ∧ Try.f42.body.isSome = true := ⟨Try.func42, by kernel_rfl, by kernel_rfl⟩
theorem facts43 : Try.prog.funcs[43]? = some Try.f43 ∧ (Try.f43.name == "runtime.NumGoroutine") = false ∧ Try.f43.body.isSome = true := ⟨Try.func43, by kernel_rfl, by kernel_rfl⟩
theorem facts46 : Try.prog.funcs[46]? = some Try.f46 ∧ (Try.f46.name == "runtime.NumGoroutine") = false ∧ Try.f46.body.isSome = true := ⟨Try.func46, by kernel_rfl, by kernel_rfl⟩
theorem aEW : Try.prog.funcs[47]? = some Try.f47 ∧ (Try.f47.name == "runtime.NumGoroutine") = false ∧ Try.f47.body.isSome = true := ⟨Try.func47, by kernel_rfl, by kernel_rfl⟩
theorem vX : Try.prog.funcs[48]? = some Try.f48 ∧ (Try.f48.name == "runtime.NumGoroutine") = false ∧ Try.f48.body.isSome = true := ⟨Try.func48, by kernel_rfl, by kernel_rfl⟩
theorem xR : Try.prog.funcs[49]? = some Try.f49 ∧ (Try.f49.name == "runtime.NumGoroutine") = false ∧ Try.f49.body.isSome = true := ⟨Try.func49, by kernel_rfl, by kernel_rfl⟩
theorem aJ4 : Try.prog.funcs[50]? = some Try.f50 ∧ (Try.f50.name == "runtime.NumGoroutine") = false ∧ Try.f50.body.isSome = true := ⟨Try.func50, by kernel_rfl, by kernel_rfl⟩
theorem aU9 : Try.prog.funcs[51]? = some Try.f51 ∧ (Try.f51.name == "runtime.NumGoroutine") = false ∧ Try.f51.body.isSome = true := ⟨Try.func51, by kernel_rfl, by kernel_rfl⟩
theorem facts52 : Try.prog.funcs[52]? = some Try.f52 ∧ (Try.f52.name == "runtime.NumGoroutine") = false ∧ Try.f52.body.isSome = true := ⟨Try.func52, by kernel_rfl, by kernel_rfl⟩
theorem aER : Try.prog.funcs[53]? = some Try.f53 ∧ (Try.f53.name == "runtime.NumGoroutine") = false ∧ Try.f53.body.isSome = true := ⟨Try.func53, by kernel_rfl, by kernel_rfl⟩
theorem aEQ : Try.prog.funcs[56]? = some Try.f56 ∧ (Try.f56.name == "runtime.NumGoroutine") = false ∧ Try.f56.body.isSome = true := ⟨Try.func56, by kernel_rfl, by kernel_rfl⟩
theorem aGC : Try.prog.funcs[57]? = some Try.f57 ∧ (Try.f57.name == "runtime.NumGoroutine") = false ∧ Try.f57.body.isSome = true := ⟨Try.func57, by kernel_rfl, by kernel_rfl⟩
theorem aJ8 : Try.prog.funcs[58]? = some Try.f58 ∧ (Try.f58.name == "runtime.NumGoroutine") = false ∧ Try.f58.body.isSome = true := ⟨Try.func58, by kernel_rfl, by kernel_rfl⟩
theorem aJ0 : Try.prog.funcs[59]? = some Try.f59 ∧ (Try.f59.name == "runtime.NumGoroutine") = false ∧ Try.f59.body.isSome = true := ⟨Try.func59, by kernel_rfl, by kernel_rfl⟩
theorem rC : Try.prog.funcs[60]? = some Try.f60 ∧ (Try.f60.name == "runtime.NumGoroutine") = false ∧ Try.f60.body.isSome = true := ⟨Try.func60, by kernel_rfl, by kernel_rfl⟩
theorem facts61 : Try.prog.funcs[61]? = some Try.f61 ∧ (Try.f61.name == "runtime.NumGoroutine") = false ∧ Try.f61.body.isSome = true := ⟨Try.func61, by kernel_rfl, by kernel_rfl⟩
theorem aVB : Try.prog.funcs[62]? = some Try.f62 ∧ (Try.f62.name == "runtime.NumGoroutine") = false ∧ Try.f62.body.isSome = true := ⟨Try.func62, by kernel_rfl, by kernel_rfl⟩
theorem aHX : Try.prog.funcs[63]? = some Try.f63 ∧ (Try.f63.name == "runtime.NumGoroutine") = false ∧ Try.f63.body.isSome = true := ⟨Try.func63, by kernel_rfl, by kernel_rfl⟩
theorem tR : Try.prog.funcs[64]? = some Try.f64 ∧ (Try.f64.name == "runtime.NumGoroutine") = false ∧ Try.f64.body.isSome = true := ⟨Try.func64, by kernel_rfl, by kernel_rfl⟩
theorem facts65 : Try.prog.funcs[65]? = some Try.f65 ∧ (Try.f65.name == "runtime.NumGoroutine") = false ∧ Try.f65.body.isSome = true := ⟨Try.func65, by kernel_rfl, by kernel_rfl⟩
theorem aVK : Try.prog.funcs[67]? = some Try.f67 ∧ (Try.f67.name == "runtime.NumGoroutine") = false ∧ Try.f67.body.isSome = true := ⟨Try.func67, by kernel_rfl, by kernel_rfl⟩
theorem aWH : Try.prog.funcs[68]? = some Try.f68 ∧ (Try.f68.name == "runtime.NumGoroutine") = false ∧ Try.f68.body.isSome = true := ⟨Try.func68, by kernel_rfl, by kernel_rfl⟩
theorem aQP : Try.prog.funcs[69]? = some Try.f69 ∧ (Try.f69.name == "runtime.NumGoroutine") = false ∧ Try.f69.body.isSome = true := ⟨Try.func69, by kernel_rfl, by kernel_rfl⟩
theorem aWQ : Try.prog.funcs[70]? = some Try.f70 ∧ (Try.f70.name == "runtime.NumGoroutine") = false ∧ Try.f70.body.isSome = true := ⟨Try.func70, by kernel_rfl, by kernel_rfl⟩
theorem facts71 : Try.prog.funcs[71]? = some Try.f71 ∧ (Try.f71.name == "runtime.NumGoroutine") = false ∧ Try.f71.body.isSome = true := ⟨Try.func71, by kernel_rfl, by kernel_rfl⟩
theorem aV1 : Try.prog.funcs[73]? = some Try.f73 ∧ (Try.f73.name == "runtime.NumGoroutine") = false ∧ Try.f73.body.isSome = true := ⟨Try.func73, by kernel_rfl, by kernel_rfl⟩
theorem sN : Try.prog.funcs[74]? = some Try.f74 ∧ (Try.f74.name == "runtime.NumGoroutine") = false ∧ Try.f74.body.isSome = true := ⟨Try.func74, by kernel_rfl, by kernel_rfl⟩
theorem facts75 : Try.prog.funcs[75]? = some Try.f75 ∧ (Try.f75.name == "runtime.NumGoroutine") = false ∧ Try.f75.body.isSome = true := ⟨Try.func75, by kernel_rfl, by kernel_rfl⟩
theorem aP3 : Try.prog.funcs[77]? = some Try.f77 ∧ (Try.f77.name == "runtime.NumGoroutine") = false ∧ Try.f77.body.isSome = true := ⟨Try.func77, by kernel_rfl, by kernel_rfl⟩
theorem facts78 : Try.prog.funcs[78]? = some Try.f78 ∧ (Try.f78.name == "runtime.NumGoroutine") = false ∧ Try.f78.body.isSome = true := ⟨Try.func78, by kernel_rfl, by kernel_rfl⟩
theorem aCD : Try.prog.funcs[79]? = some Try.f79 ∧ (Try.f79.name == "runtime.NumGoroutine") = false ∧ Try.f79.body.isSome = true := ⟨Try.func79, by kernel_rfl, by kernel_rfl⟩
theorem aHW : Try.prog.funcs[80]? = some Try.f80 ∧ (Try.f80.name == "runtime.NumGoroutine") = false ∧ Try.f80.body.isSome = true := ⟨Try.func80, by kernel_rfl, by kernel_rfl⟩
theorem facts81 : Try.prog.funcs[81]? = some Try.f81 ∧ (Try.f81.name == "runtime.NumGoroutine") = false ∧ Try.f81.body.isSome = true := ⟨Try.func81, by kernel_rfl, by kernel_rfl⟩
theorem aKF : Try.prog.funcs[82]? = some Try.f82 ∧ (Try.f82.name == "runtime.NumGoroutine") = false ∧ Try.f82.body.isSome = true := ⟨Try.func82, by kernel_rfl, by kernel_rfl⟩
theorem facts83 : Try.prog.funcs[83]? = some Try.f83 ∧ (Try.f83.name == "runtime.NumGoroutine") = false ∧ Try.f83.body.isSome = true := ⟨Try.func83, by kernel_rfl, by kernel_rfl⟩
theorem aJ7 : Try.prog.funcs[84]? = some Try.f84 ∧ (Try.f84.name == "runtime.NumGoroutine") = false ∧ Try.f84.body.isSome = true := ⟨Try.func84, by kernel_rfl, by kernel_rfl⟩
theorem sG : Try.prog.funcs[85]? = some Try.f85 ∧ (Try.f85.name == "runtime.NumGoroutine") = false ∧ Try.f85.body.isSome = true := ⟨Try.func85, by kernel_rfl, by kernel_rfl⟩
theorem aWP : Try.prog.funcs[87]? = some Try.f87 ∧ (Try.f87.name == "runtime.NumGoroutine") = false ∧ Try.f87.body.isSome = true := ⟨Try.func87, by kernel_rfl, by kernel_rfl⟩
theorem aEV : Try.prog.funcs[88]? = some Try.f88 ∧ (Try.f88.name == "runtime.NumGoroutine") = false ∧ Try.f88.body.isSome = true := ⟨Try.func88, by kernel_rfl, by kernel_rfl⟩
theorem aVF : Try.prog.funcs[92]? = some Try.f92 ∧ (Try.f92.name == "runtime.NumGoroutine") = false ∧ Try.f92.body.isSome = true := ⟨Try.func92, by kernel_rfl, by kernel_rfl⟩
theorem aWK : Try.prog.funcs[93]? = some Try.f93 ∧ (Try.f93.name == "runtime.NumGoroutine") = false ∧ Try.f93.body.isSome = true := ⟨Try.func93, by kernel_rfl, by kernel_rfl⟩
theorem aOK : Try.prog.funcs[94]? = some Try.f94 ∧ (Try.f94.name == "runtime.NumGoroutine") = false ∧ Try.f94.body.isSome = true := ⟨Try.func94, by kernel_rfl, by kernel_rfl⟩
theorem aWW : Try.prog.funcs[95]? = some Try.f95 ∧ (Try.f95.name == "runtime.NumGoroutine") = false ∧ Try.f95.body.isSome = true := ⟨Try.func95, by kernel_rfl, by kernel_rfl⟩
theorem q8 : Try.prog.funcs[96]? = some Try.f96 ∧ (Try.f96.name == "runtime.NumGoroutine") = false ∧ Try.f96.body.isSome = true := ⟨Try.func96, by kernel_rfl, by kernel_rfl⟩
theorem aQM : Try.prog.funcs[97]? = some Try.f97 ∧ (Try.f97.name == "runtime.NumGoroutine") = false ∧ Try.f97.body.isSome = true := ⟨Try.func97, by kernel_rfl, by kernel_rfl⟩
theorem facts98 : Try.prog.funcs[98]? = some Try.f98 ∧ (Try.f98.name == "runtime.NumGoroutine") = false ∧ Try.f98.body.isSome = true := ⟨Try.func98, by kernel_rfl, by kernel_rfl⟩
theorem facts99 : Try.prog.funcs[99]? = some Try.f99 ∧ (Try.f99.name == "runtime.NumGoroutine") = false ∧ Try.f99.body.isSome = true := ⟨Try.func99, by kernel_rfl, by kernel_rfl⟩
theorem facts100 : Try.prog.funcs[100]? = some Try.f100 ∧ (Try.f100.name == "runtime.NumGoroutine") = false ∧ Try.f100.body.isSome = true := ⟨Try.func100, by kernel_rfl, by kernel_rfl⟩
theorem aRH : Try.prog.funcs[103]? = some Try.f103 ∧ (Try.f103.name == "runtime.NumGoroutine") = false ∧ Try.f103.body.isSome = true := ⟨Try.func103, by kernel_rfl, by kernel_rfl⟩
theorem own:ownKnob Try.prog.godebug=none:=by kernel_rfl
theorem laid:laidOutB Try.prog=true:=by kernel_rfl
theorem rowed:mapsRowed Try.prog=true:=by kernel_rfl
theorem full:fullB Try.prog=true:=by kernel_rfl
theorem isBool:Try.prog.underlying 4=some .bool:=by kernel_rfl
end Go.Ws
