/-
  The seat's functions: their texts; how elements of lists stand in cells. (Printed by my own program.)
  Conditions: none.
-/
import Derived.Test.YtipeekdnpocclaaRows
import Derived.Test.YtipeekdnpocclaaZB2
import Derived.KernelRfl
import Derived.Test.YtipeekdnpocclaaZOppDef
import Derived.Test.YtipeekdnpocclaaZAgrDef
set_option linter.unusedVariables false
set_option linter.unusedSimpArgs false
namespace Go.Ws
open Go.Proofs
set_option linter.unusedSimpArgs false
set_option linter.unusedVariables false
set_option maxRecDepth 1000000
set_option maxHeartbeats 4000000

def aB (x:Int × Int × Int × Int):List AV:=[(.int .i64 x.1),(.int .i64 x.2.1),(.int .u8 x.2.2.1),(.int .i64 x.2.2.2)]
def aO (x:Int):List AV:=[(.int .i64 x)]
def aE (x:Int × (List (Int × Int)) × Bool × Int):List AV:=[(.int .i64 x.1),(.sl 2 (List.map aA x.2.1)),(.bool x.2.2.1),(.int .i64 x.2.2.2)]
def aC (x:Int × Int × Bool):List AV:=[(.int .u8 x.1),(.int .i64 x.2.1),(.bool x.2.2)]
def bW (x:Int × Int):List AV:=[(.int .i64 x.1),(.int .i64 x.2)]
def bD (x:List (Int × Int)):List AV:=[(.sl 2 (List.map bW x))]
def aH (x:List (Int × Int)):List AV:=[(uL (bK .i64 (fun y=>(aO y).headD aI) x) x.length)]
theorem aD:Try.prog.follows .mixedOrders=true:=by kernel_rfl
theorem wM : Try.prog.funcs[4]? = some Try.f4 ∧ (Try.f4.name == "runtime.NumGoroutine") = false ∧ Try.f4.body.isSome = true := ⟨Try.func4, by kernel_rfl, by kernel_rfl⟩
theorem iH : Try.prog.funcs[8]? = some Try.f8 ∧ (Try.f8.name == "runtime.NumGoroutine") = false ∧ Try.f8.body.isSome = true := ⟨Try.func8, by kernel_rfl, by kernel_rfl⟩
theorem facts9 : Try.prog.funcs[9]? = some Try.f9 ∧ (Try.f9.name == "runtime.NumGoroutine") = false ∧ Try.f9.body.isSome = true := ⟨Try.func9, by kernel_rfl, by kernel_rfl⟩
theorem aIQ : Try.prog.funcs[12]? = some Try.f12 ∧ (Try.f12.name == "runtime.NumGoroutine") = false ∧ Try.f12.body.isSome = true := ⟨Try.func12, by kernel_rfl, by kernel_rfl⟩
theorem aJK : Try.prog.funcs[14]? = some Try.f14 ∧ (Try.f14.name == "runtime.NumGoroutine") = false ∧ Try.f14.body.isSome = true := ⟨Try.func14, by kernel_rfl, by kernel_rfl⟩
theorem facts17 : Try.prog.funcs[17]? = some Try.f17 ∧ (Try.f17.name == "runtime.NumGoroutine") = false ∧ Try.f17.body.isSome = true := ⟨Try.func17, by kernel_rfl, by kernel_rfl⟩
theorem aEU : Try.prog.funcs[18]? = some Try.f18 ∧ (Try.f18.name == "runtime.NumGoroutine") = false ∧ Try.f18.body.isSome = true := ⟨Try.func18, by kernel_rfl, by kernel_rfl⟩
theorem aJI : Try.prog.funcs[19]? = some Try.f19 ∧ (Try.f19.name == "runtime.NumGoroutine") = false ∧ Try.f19.body.isSome = true := ⟨Try.func19, by kernel_rfl, by kernel_rfl⟩
theorem facts20 : Try.prog.funcs[20]? = some Try.f20 ∧ (Try.f20.name == "runtime.NumGoroutine") = false ∧ Try.f20.body.isSome = true := ⟨Try.func20, by kernel_rfl, by kernel_rfl⟩
theorem nS : Try.prog.funcs[21]? = some Try.f21 ∧ (Try.f21.name == "runtime.NumGoroutine") = false ∧ Try.f21.body.isSome = true := ⟨Try.func21, by kernel_rfl, by kernel_rfl⟩
theorem facts26 : Try.prog.funcs[26]? = some Try.f26 ∧ (Try.f26.name == "runtime.NumGoroutine") = false ∧ Try.f26.body.isSome = true := ⟨Try.func26, by kernel_rfl, by kernel_rfl⟩
theorem aJQ : Try.prog.funcs[27]? = some Try.f27 ∧ (Try.f27.name == "runtime.NumGoroutine") = false ∧ Try.f27.body.isSome = true := ⟨Try.func27, by kernel_rfl, by kernel_rfl⟩
theorem aFU : Try.prog.funcs[30]? = some Try.f30 ∧ (Try.f30.name == "runtime.NumGoroutine") = false ∧ Try.f30.body.isSome = true := ⟨Try.func30, by kernel_rfl, by kernel_rfl⟩
theorem aJG : Try.prog.funcs[32]? = some Try.f32 ∧ (Try.f32.name == "runtime.NumGoroutine") = false ∧ Try.f32.body.isSome = true := ⟨Try.func32, by kernel_rfl, by kernel_rfl⟩
theorem facts33 : Try.prog.funcs[33]? = some Try.f33 ∧ (Try.f33.name == "runtime.NumGoroutine") = false ∧ Try.f33.body.isSome = true := ⟨Try.func33, by kernel_rfl, by kernel_rfl⟩
theorem aA2 : Try.prog.funcs[34]? = some Try.f34 ∧ (Try.f34.name == "runtime.NumGoroutine") = false ∧ Try.f34.body.isSome = true := ⟨Try.func34, by kernel_rfl, by kernel_rfl⟩
theorem aIX : Try.prog.funcs[36]? = some Try.f36 ∧ (Try.f36.name == "runtime.NumGoroutine") = false ∧ Try.f36.body.isSome = true := ⟨Try.func36, by kernel_rfl, by kernel_rfl⟩
theorem aIY : Try.prog.funcs[37]? = some Try.f37 ∧ (Try.f37.name == "runtime.NumGoroutine") = false ∧ Try.f37.body.isSome = true := ⟨Try.func37, by kernel_rfl, by kernel_rfl⟩
theorem facts39 : Try.prog.funcs[39]? = some Try.f39 ∧ (Try.f39.name == "runtime.NumGoroutine") = false ∧ Try.f39.body.isSome = true := ⟨Try.func39, by kernel_rfl, by kernel_rfl⟩
theorem aJZ : Try.prog.funcs[40]? = some Try.f40 ∧ (Try.f40.name == "runtime.NumGoroutine") = false ∧ Try.f40.body.isSome = true := ⟨Try.func40, by kernel_rfl, by kernel_rfl⟩
theorem aI2 : Try.prog.funcs[41]? = some Try.f41 ∧ (Try.f41.name == "runtime.NumGoroutine") = false ∧ Try.f41.body.isSome = true := ⟨Try.func41, by kernel_rfl, by kernel_rfl⟩
theorem aJY : Try.prog.funcs[42]? = some Try.f42 ∧ (Try.f42.name == "runtime.NumGoroutine") = false ∧ Try.f42.body.isSome = true := ⟨Try.func42, by kernel_rfl, by kernel_rfl⟩
theorem facts43 : Try.prog.funcs[43]? = some Try.f43 ∧ (Try.f43.name == "runtime.NumGoroutine") = false ∧ Try.f43.body.isSome = true := ⟨Try.func43, by kernel_rfl, by kernel_rfl⟩
theorem uX : Try.prog.funcs[47]? = some Try.f47 ∧ (Try.f47.name == "runtime.NumGoroutine") = false ∧ Try.f47.body.isSome = true := ⟨Try.func47, by kernel_rfl, by kernel_rfl⟩
theorem nZ : Try.prog.funcs[48]? = some Try.f48 ∧ (Try.f48.name == "runtime.NumGoroutine") = false ∧ Try.f48.body.isSome = true := ⟨Try.func48, by kernel_rfl, by kernel_rfl⟩
theorem aAY : Try.prog.funcs[50]? = some Try.f50 ∧ (Try.f50.name == "runtime.NumGoroutine") = false ∧ Try.f50.body.isSome = true := ⟨Try.func50, by kernel_rfl, by kernel_rfl⟩
theorem aJE : Try.prog.funcs[51]? = some Try.f51 ∧ (Try.f51.name == "runtime.NumGoroutine") = false ∧ Try.f51.body.isSome = true := ⟨Try.func51, by kernel_rfl, by kernel_rfl⟩
theorem facts52 : Try.prog.funcs[52]? = some Try.f52 ∧ (Try.f52.name == "runtime.NumGoroutine") = false ∧ Try.f52.body.isSome = true := ⟨Try.func52, by kernel_rfl, by kernel_rfl⟩
theorem u6 : Try.prog.funcs[53]? = some Try.f53 ∧ (Try.f53.name == "runtime.NumGoroutine") = false ∧ Try.f53.body.isSome = true := ⟨Try.func53, by kernel_rfl, by kernel_rfl⟩
theorem uS : Try.prog.funcs[56]? = some Try.f56 ∧ (Try.f56.name == "runtime.NumGoroutine") = false ∧ Try.f56.body.isSome = true := ⟨Try.func56, by kernel_rfl, by kernel_rfl⟩
theorem yM : Try.prog.funcs[57]? = some Try.f57 ∧ (Try.f57.name == "runtime.NumGoroutine") = false ∧ Try.f57.body.isSome = true := ⟨Try.func57, by kernel_rfl, by kernel_rfl⟩
theorem aA5 : Try.prog.funcs[58]? = some Try.f58 ∧ (Try.f58.name == "runtime.NumGoroutine") = false ∧ Try.f58.body.isSome = true := ⟨Try.func58, by kernel_rfl, by kernel_rfl⟩
theorem aA1 : Try.prog.funcs[59]? = some Try.f59 ∧ (Try.f59.name == "runtime.NumGoroutine") = false ∧ Try.f59.body.isSome = true := ⟨Try.func59, by kernel_rfl, by kernel_rfl⟩
theorem j8 : Try.prog.funcs[60]? = some Try.f60 ∧ (Try.f60.name == "runtime.NumGoroutine") = false ∧ Try.f60.body.isSome = true := ⟨Try.func60, by kernel_rfl, by kernel_rfl⟩
theorem facts61 : Try.prog.funcs[61]? = some Try.f61 ∧ (Try.f61.name == "runtime.NumGoroutine") = false ∧ Try.f61.body.isSome = true := ⟨Try.func61, by kernel_rfl, by kernel_rfl⟩
theorem facts65 : Try.prog.funcs[65]? = some Try.f65 ∧ (Try.f65.name == "runtime.NumGoroutine") = false ∧ Try.f65.body.isSome = true := ⟨Try.func65, by kernel_rfl, by kernel_rfl⟩
theorem aJU : Try.prog.funcs[67]? = some Try.f67 ∧ (Try.f67.name == "runtime.NumGoroutine") = false ∧ Try.f67.body.isSome = true := ⟨Try.func67, by kernel_rfl, by kernel_rfl⟩
theorem aJX : Try.prog.funcs[68]? = some Try.f68 ∧ (Try.f68.name == "runtime.NumGoroutine") = false ∧ Try.f68.body.isSome = true := ⟨Try.func68, by kernel_rfl, by kernel_rfl⟩
theorem aED : Try.prog.funcs[69]? = some Try.f69 ∧ (Try.f69.name == "runtime.NumGoroutine") = false ∧ Try.f69.body.isSome = true := ⟨Try.func69, by kernel_rfl, by kernel_rfl⟩
theorem aJM : Try.prog.funcs[70]? = some Try.f70 ∧ (Try.f70.name == "runtime.NumGoroutine") = false ∧ Try.f70.body.isSome = true := ⟨Try.func70, by kernel_rfl, by kernel_rfl⟩
theorem facts71 : Try.prog.funcs[71]? = some Try.f71 ∧ (Try.f71.name == "runtime.NumGoroutine") = false ∧ Try.f71.body.isSome = true := ⟨Try.func71, by kernel_rfl, by kernel_rfl⟩
theorem aJF : Try.prog.funcs[73]? = some Try.f73 ∧ (Try.f73.name == "runtime.NumGoroutine") = false ∧ Try.f73.body.isSome = true := ⟨Try.func73, by kernel_rfl, by kernel_rfl⟩
theorem lG : Try.prog.funcs[74]? = some Try.f74 ∧ (Try.f74.name == "runtime.NumGoroutine") = false ∧ Try.f74.body.isSome = true := ⟨Try.func74, by kernel_rfl, by kernel_rfl⟩
theorem facts75 : Try.prog.funcs[75]? = some Try.f75 ∧ (Try.f75.name == "runtime.NumGoroutine") = false ∧ Try.f75.body.isSome = true := ⟨Try.func75, by kernel_rfl, by kernel_rfl⟩
theorem aEI : Try.prog.funcs[77]? = some Try.f77 ∧ (Try.f77.name == "runtime.NumGoroutine") = false ∧ Try.f77.body.isSome = true := ⟨Try.func77, by kernel_rfl, by kernel_rfl⟩
theorem facts78 : Try.prog.funcs[78]? = some Try.f78 ∧ (Try.f78.name == "runtime.NumGoroutine") = false ∧ Try.f78.body.isSome = true := ⟨Try.func78, by kernel_rfl, by kernel_rfl⟩
theorem aIS : Try.prog.funcs[87]? = some Try.f87 ∧ (Try.f87.name == "runtime.NumGoroutine") = false ∧ Try.f87.body.isSome = true := ⟨Try.func87, by kernel_rfl, by kernel_rfl⟩
theorem uU : Try.prog.funcs[88]? = some Try.f88 ∧ (Try.f88.name == "runtime.NumGoroutine") = false ∧ Try.f88.body.isSome = true := ⟨Try.func88, by kernel_rfl, by kernel_rfl⟩
theorem aJN : Try.prog.funcs[92]? = some Try.f92 ∧ (Try.f92.name == "runtime.NumGoroutine") = false ∧ Try.f92.body.isSome = true := ⟨Try.func92, by kernel_rfl, by kernel_rfl⟩
theorem facts100 : Try.prog.funcs[100]? = some Try.f100 ∧ (Try.f100.name == "runtime.NumGoroutine") = false ∧ Try.f100.body.isSome = true := ⟨Try.func100, by kernel_rfl, by kernel_rfl⟩
theorem own:ownKnob Try.prog.godebug=none:=by kernel_rfl
theorem laid:laidOutB Try.prog=true:=by kernel_rfl
theorem rowed:mapsRowed Try.prog=true:=by kernel_rfl
theorem full:fullB Try.prog=true:=by kernel_rfl
theorem isBool:Try.prog.underlying 4=some .bool:=by kernel_rfl
end Go.Ws
