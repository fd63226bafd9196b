/-
  The seat's functions: their texts; how elements of lists stand in cells. (Printed by my own program.)
  Conditions: none.
-/
import Derived.Test.YtojldadifhneeaaRows
import Derived.Test.YtojldadifhneeaaZB2
import Derived.KernelRfl
import Derived.Test.YtojldadifhneeaaZOppDef
set_option linter.unusedVariables false
set_option linter.unusedSimpArgs false
namespace Go.Ws
open Go.Proofs
set_option linter.unusedSimpArgs false
set_option linter.unusedVariables false
set_option maxRecDepth 1000000
set_option maxHeartbeats 4000000

def aD (x:Int × Int × Bool):List AV:=[(.int .u8 x.1),(.int .i64 x.2.1),(.bool x.2.2)]
def p6 (x:Int):List AV:=[(.int .i64 x)]
def aC (x:Int × Int × Int × Int):List AV:=[(.int .i64 x.1),(.int .i64 x.2.1),(.int .u8 x.2.2.1),(.int .i64 x.2.2.2)]
def aB (x:Int × (List (Int × Int)) × Bool × Int):List AV:=[(.int .i64 x.1),(.sl 2 (List.map aA x.2.1)),(.bool x.2.2.1),(.int .i64 x.2.2.2)]
def iT (x:Int × Int × Int × Int × Int × Int):List AV:=[(.int .i64 x.1),(.int .i64 x.2.1),(.int .u8 x.2.2.1),(.int .i64 x.2.2.2.1),(.int .i64 x.2.2.2.2.1),(.int .i64 x.2.2.2.2.2)]
theorem aF:Try.prog.follows .mixedOrders=true:=by kernel_rfl
theorem aFD : Try.prog.funcs[5]? = some Try.f5 ∧ (Try.f5.name == "runtime.NumGoroutine") = false ∧ Try.f5.body.isSome = true := ⟨Try.func5, by kernel_rfl, by kernel_rfl⟩
theorem aBU : Try.prog.funcs[12]? = some Try.f12 ∧ (Try.f12.name == "runtime.NumGoroutine") = false ∧ Try.f12.body.isSome = true := ⟨Try.func12, by kernel_rfl, by kernel_rfl⟩
theorem facts13 : Try.prog.funcs[13]? = some Try.f13 ∧ (Try.f13.name == "runtime.NumGoroutine") = false ∧ Try.f13.body.isSome = true := ⟨Try.func13, by kernel_rfl, by kernel_rfl⟩
theorem gG : Try.prog.funcs[14]? = some Try.f14 ∧ (Try.f14.name == "runtime.NumGoroutine") = false ∧ Try.f14.body.isSome = true := ⟨Try.func14, by kernel_rfl, by kernel_rfl⟩
theorem aD4 : Try.prog.funcs[16]? = some Try.f16 ∧ (Try.f16.name == "runtime.NumGoroutine") = false ∧ Try.f16.body.isSome = true := ⟨Try.func16, by kernel_rfl, by kernel_rfl⟩
theorem facts19 : Try.prog.funcs[19]? = some Try.f19 ∧ (Try.f19.name == "runtime.NumGoroutine") = false ∧ Try.f19.body.isSome = true := ⟨Try.func19, by kernel_rfl, by kernel_rfl⟩
theorem aD2 : Try.prog.funcs[20]? = some Try.f20 ∧ (Try.f20.name == "runtime.NumGoroutine") = false ∧ Try.f20.body.isSome = true := ⟨Try.func20, by kernel_rfl, by kernel_rfl⟩
theorem aHN : Try.prog.funcs[21]? = some Try.f21 ∧ (Try.f21.name == "runtime.NumGoroutine") = false ∧ Try.f21.body.isSome = true := ⟨Try.func21, by kernel_rfl, by kernel_rfl⟩
theorem aA1 : Try.prog.funcs[26]? = some Try.f26 ∧ (Try.f26.name == "runtime.NumGoroutine") = false ∧ Try.f26.body.isSome = true := ⟨Try.func26, by kernel_rfl, by kernel_rfl⟩
theorem u7 : Try.prog.funcs[27]? = some Try.f27 ∧ (Try.f27.name == "runtime.NumGoroutine") = false ∧ Try.f27.body.isSome = true := ⟨Try.func27, by kernel_rfl, by kernel_rfl⟩
theorem aMM : Try.prog.funcs[29]? = some Try.f29 ∧ (Try.f29.name == "runtime.NumGoroutine") = false ∧ Try.f29.body.isSome = true := ⟨Try.func29, by kernel_rfl, by kernel_rfl⟩
theorem aMI : Try.prog.funcs[31]? = some Try.f31 ∧ (Try.f31.name == "runtime.NumGoroutine") = false ∧ Try.f31.body.isSome = true := ⟨Try.func31, by kernel_rfl, by kernel_rfl⟩
theorem aL8 : Try.prog.funcs[32]? = some Try.f32 ∧ (Try.f32.name == "runtime.NumGoroutine") = false ∧ Try.f32.body.isSome = true := ⟨Try.func32, by kernel_rfl, by kernel_rfl⟩
theorem pQ : Try.prog.funcs[33]? = some Try.f33 ∧ (Try.f33.name == "runtime.NumGoroutine") = false ∧ Try.f33.body.isSome = true := ⟨Try.func33, by kernel_rfl, by kernel_rfl⟩
theorem pP : Try.prog.funcs[37]? = some Try.f37 ∧ (Try.f37.name == "runtime.NumGoroutine") = false ∧ Try.f37.body.isSome = true := ⟨Try.func37, by kernel_rfl, by kernel_rfl⟩
theorem jA : Try.prog.funcs[38]? = some Try.f38 ∧ (Try.f38.name == "runtime.NumGoroutine") = false ∧ Try.f38.body.isSome = true := ⟨Try.func38, by kernel_rfl, by kernel_rfl⟩
theorem aLZ : Try.prog.funcs[42]? = some Try.f42 ∧ (Try.f42.name == "runtime.NumGoroutine") = false ∧ Try.f42.body.isSome = true := ⟨Try.func42, by kernel_rfl, by kernel_rfl⟩
theorem facts43 : Try.prog.funcs[43]? = some Try.f43 ∧ (Try.f43.name == "runtime.NumGoroutine") = false ∧ Try.f43.body.isSome = true := ⟨Try.func43, by kernel_rfl, by kernel_rfl⟩
theorem zB : Try.prog.funcs[46]? = some Try.f46 ∧ (Try.f46.name == "runtime.NumGoroutine") = false ∧ Try.f46.body.isSome = true := ⟨Try.func46, by kernel_rfl, by kernel_rfl⟩
theorem aAR : Try.prog.funcs[47]? = some Try.f47 ∧ (Try.f47.name == "runtime.NumGoroutine") = false ∧ Try.f47.body.isSome = true := ⟨Try.func47, by kernel_rfl, by kernel_rfl⟩
theorem aDS : Try.prog.funcs[48]? = some Try.f48 ∧ (Try.f48.name == "runtime.NumGoroutine") = false ∧ Try.f48.body.isSome = true := ⟨Try.func48, by kernel_rfl, by kernel_rfl⟩
theorem aD3 : Try.prog.funcs[49]? = some Try.f49 ∧ (Try.f49.name == "runtime.NumGoroutine") = false ∧ Try.f49.body.isSome = true := ⟨Try.func49, by kernel_rfl, by kernel_rfl⟩
theorem oR : Try.prog.funcs[50]? = some Try.f50 ∧ (Try.f50.name == "runtime.NumGoroutine") = false ∧ Try.f50.body.isSome = true := ⟨Try.func50, by kernel_rfl, by kernel_rfl⟩
theorem aIW : Try.prog.funcs[51]? = some Try.f51 ∧ (Try.f51.name == "runtime.NumGoroutine") = false ∧ Try.f51.body.isSome = true := ⟨Try.func51, by kernel_rfl, by kernel_rfl⟩
theorem facts52 : Try.prog.funcs[52]? = some Try.f52 ∧ (Try.f52.name == "runtime.NumGoroutine") = false ∧ Try.f52.body.isSome = true := ⟨Try.func52, by kernel_rfl, by kernel_rfl⟩
theorem aD8 : Try.prog.funcs[60]? = some Try.f60 ∧ (Try.f60.name == "runtime.NumGoroutine") = false ∧ Try.f60.body.isSome = true := ⟨Try.func60, by kernel_rfl, by kernel_rfl⟩
theorem aMS : Try.prog.funcs[62]? = some Try.f62 ∧ (Try.f62.name == "runtime.NumGoroutine") = false ∧ Try.f62.body.isSome = true := ⟨Try.func62, by kernel_rfl, by kernel_rfl⟩
theorem aM1 : Try.prog.funcs[63]? = some Try.f63 ∧ (Try.f63.name == "runtime.NumGoroutine") = false ∧ Try.f63.body.isSome = true := ⟨Try.func63, by kernel_rfl, by kernel_rfl⟩
theorem aIN : Try.prog.funcs[64]? = some Try.f64 ∧ (Try.f64.name == "runtime.NumGoroutine") = false ∧ Try.f64.body.isSome = true := ⟨Try.func64, by kernel_rfl, by kernel_rfl⟩
theorem aL3 : Try.prog.funcs[65]? = some Try.f65 ∧ (Try.f65.name == "runtime.NumGoroutine") = false ∧ Try.f65.body.isSome = true := ⟨Try.func65, by kernel_rfl, by kernel_rfl⟩
theorem facts66 : Try.prog.funcs[66]? = some Try.f66 ∧ (Try.f66.name == "runtime.NumGoroutine") = false ∧ Try.f66.body.isSome = true := ⟨Try.func66, by kernel_rfl, by kernel_rfl⟩
theorem aLY : Try.prog.funcs[68]? = some Try.f68 ∧ (Try.f68.name == "runtime.NumGoroutine") = false ∧ Try.f68.body.isSome = true := ⟨Try.func68, by kernel_rfl, by kernel_rfl⟩
theorem facts69 : Try.prog.funcs[69]? = some Try.f69 ∧ (Try.f69.name == "runtime.NumGoroutine") = false ∧ Try.f69.body.isSome = true := ⟨Try.func69, by kernel_rfl, by kernel_rfl⟩
theorem aLX : Try.prog.funcs[70]? = some Try.f70 ∧ (Try.f70.name == "runtime.NumGoroutine") = false ∧ Try.f70.body.isSome = true := ⟨Try.func70, by kernel_rfl, by kernel_rfl⟩
theorem aM9 : Try.prog.funcs[71]? = some Try.f71 ∧ (Try.f71.name == "runtime.NumGoroutine") = false ∧ Try.f71.body.isSome = true := ⟨Try.func71, by kernel_rfl, by kernel_rfl⟩
theorem facts72 : Try.prog.funcs[72]? = some Try.f72 ∧ (Try.f72.name == "runtime.NumGoroutine") = false ∧ Try.f72.body.isSome = true := ⟨Try.func72, by kernel_rfl, by kernel_rfl⟩
theorem aHP : Try.prog.funcs[75]? = some Try.f75 ∧ (Try.f75.name == "runtime.NumGoroutine") = false ∧ Try.f75.body.isSome = true := ⟨Try.func75, by kernel_rfl, by kernel_rfl⟩
theorem facts76 : Try.prog.funcs[76]? = some Try.f76 ∧ (Try.f76.name == "runtime.NumGoroutine") = false ∧ Try.f76.body.isSome = true := ⟨Try.func76, by kernel_rfl, by kernel_rfl⟩
theorem aL4 : Try.prog.funcs[84]? = some Try.f84 ∧ (Try.f84.name == "runtime.NumGoroutine") = false ∧ Try.f84.body.isSome = true := ⟨Try.func84, by kernel_rfl, by kernel_rfl⟩
theorem y9 : Try.prog.funcs[85]? = some Try.f85 ∧ (Try.f85.name == "runtime.NumGoroutine") = false ∧ Try.f85.body.isSome = true := ⟨Try.func85, by kernel_rfl, by kernel_rfl⟩
theorem yY : Try.prog.funcs[86]? = some Try.f86 ∧ (Try.f86.name == "runtime.NumGoroutine") = false ∧ Try.f86.body.isSome = true := ⟨Try.func86, by kernel_rfl, by kernel_rfl⟩
theorem aL6 : Try.prog.funcs[89]? = some Try.f89 ∧ (Try.f89.name == "runtime.NumGoroutine") = false ∧ Try.f89.body.isSome = true := ⟨Try.func89, by kernel_rfl, by kernel_rfl⟩
theorem facts90 : Try.prog.funcs[90]? = some Try.f90 ∧ (Try.f90.name == "runtime.NumGoroutine") = false ∧ Try.f90.body.isSome = true := ⟨Try.func90, by kernel_rfl, by kernel_rfl⟩
theorem aMO : Try.prog.funcs[93]? = some Try.f93 ∧ (Try.f93.name == "runtime.NumGoroutine") = false ∧ Try.f93.body.isSome = true := ⟨Try.func93, by kernel_rfl, by kernel_rfl⟩
theorem facts95 : Try.prog.funcs[95]? = some Try.f95 ∧ (Try.f95.name == "runtime.NumGoroutine") = false ∧ Try.f95.body.isSome = true := ⟨Try.func95, by kernel_rfl, by kernel_rfl⟩
theorem facts96 : Try.prog.funcs[96]? = some Try.f96 ∧ (Try.f96.name == "runtime.NumGoroutine") = false ∧ Try.f96.body.isSome = true := ⟨Try.func96, by kernel_rfl, by kernel_rfl⟩
theorem own:ownKnob Try.prog.godebug=none:=by kernel_rfl
theorem laid:laidOutB Try.prog=true:=by kernel_rfl
theorem rowed:mapsRowed Try.prog=true:=by kernel_rfl
theorem full:fullB Try.prog=true:=by kernel_rfl
theorem isBool:Try.prog.underlying 4=some .bool:=by kernel_rfl
end Go.Ws
