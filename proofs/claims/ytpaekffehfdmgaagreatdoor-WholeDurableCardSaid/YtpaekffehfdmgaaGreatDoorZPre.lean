/-
  The seat's functions: their texts; how elements of lists stand in cells. (Printed by my own program.)
  Conditions: none.
-/
import Derived.Test.YtpaekffehfdmgaaGreatDoorRows
import Derived.Test.YtpaekffehfdmgaaGreatDoorZB2
import Derived.KernelRfl
import Derived.Test.YtpaekffehfdmgaaGreatDoorZSumDef
set_option linter.unusedVariables false
set_option linter.unusedSimpArgs false
namespace Go.Ws
open Go.Proofs
set_option linter.unusedSimpArgs false
set_option linter.unusedVariables false
set_option maxRecDepth 1000000
set_option maxHeartbeats 4000000

def aB (x:Int × Int × Int × Int × ByteArray × Bool):List AV:=[(.int .u8 x.1),(.int .i64 x.2.1),(.int .i64 x.2.2.1),(.int .u8 x.2.2.2.1),(.str x.2.2.2.2.1),(.bool x.2.2.2.2.2)]
def aU (x:Int × ByteArray):List AV:=[(.int .u64 x.1),(.str x.2)]
def b7 (x:Int):List AV:=[(.int .u16 x)]
def fT (x:List Int):List AV:=[(.sl 1 (List.map aN x))]
def e_u8_i64 (x:Int × Int):List AV:=[(.int .u8 x.1),(.int .i64 x.2)]
def oB (x:Int × (List (Int × Int)) × Bool × Int):List AV:=[(.int .i64 x.1),(.sl 2 (List.map e_u8_i64 x.2.1)),(.bool x.2.2.1),(.int .i64 x.2.2.2)]
def aF (x:Int × Int × Int × Int × ByteArray):List AV:=[(.int .i64 x.1),(.int .u8 x.2.1),(.int .u8 x.2.2.1),(.int .i64 x.2.2.2.1),(.str x.2.2.2.2)]
theorem mixed:Tryz.prog.follows .mixedOrders=true:=by kernel_rfl
theorem aHM : Tryz.prog.funcs[4]? = some Tryz.f4 ∧ (Tryz.f4.name == "runtime.NumGoroutine") = false ∧ Tryz.f4.body.isSome = true := ⟨Tryz.func4, by kernel_rfl, by kernel_rfl⟩
theorem rW : Tryz.prog.funcs[5]? = some Tryz.f5 ∧ (Tryz.f5.name == "runtime.NumGoroutine") = false ∧ Tryz.f5.body.isSome = true := ⟨Tryz.func5, by kernel_rfl, by kernel_rfl⟩
theorem facts6 : Tryz.prog.funcs[6]? = some Tryz.f6 ∧ (Tryz.f6.name == "runtime.NumGoroutine") = false ∧ Tryz.f6.body.isSome = true := ⟨Tryz.func6, by kernel_rfl, by kernel_rfl⟩
theorem facts8 : Tryz.prog.funcs[8]? = some Tryz.f8 ∧ (Tryz.f8.name == "runtime.NumGoroutine") = false ∧ Tryz.f8.body.isSome = true := ⟨Tryz.func8, by kernel_rfl, by kernel_rfl⟩
theorem aK3 : Tryz.prog.funcs[9]? = some Tryz.f9 ∧ (Tryz.f9.name == "runtime.NumGoroutine") = false ∧ Tryz.f9.body.isSome = true := ⟨Tryz.func9, by kernel_rfl, by kernel_rfl⟩
theorem facts10 : Tryz.prog.funcs[10]? = some Tryz.f10 ∧ (Tryz.f10.name == "runtime.NumGoroutine") = false ∧ Tryz.f10.body.isSome = true := ⟨Tryz.func10, by kernel_rfl, by kernel_rfl⟩
theorem facts11 : Tryz.prog.funcs[11]? = some Tryz.f11 ∧ (Tryz.f11.name == "runtime.NumGoroutine") = false ∧ Tryz.f11.body.isSome = true := ⟨Tryz.func11, by kernel_rfl, by kernel_rfl⟩
theorem facts12 : Tryz.prog.funcs[12]? = some Tryz.f12 ∧ (Tryz.f12.name == "runtime.NumGoroutine") = false ∧ Tryz.f12.body.isSome = true := ⟨Tryz.func12, by kernel_rfl, by kernel_rfl⟩
theorem aH9 : Tryz.prog.funcs[13]? = some Tryz.f13 ∧ (Tryz.f13.name == "runtime.NumGoroutine") = false ∧ Tryz.f13.body.isSome = true := ⟨Tryz.func13, by kernel_rfl, by kernel_rfl⟩
theorem facts17 : Tryz.prog.funcs[17]? = some Tryz.f17 ∧ (Tryz.f17.name == "runtime.NumGoroutine") = false ∧ Tryz.f17.body.isSome = true := ⟨Tryz.func17, by kernel_rfl, by kernel_rfl⟩
theorem aCK : Tryz.prog.funcs[18]? = some Tryz.f18 ∧ (Tryz.f18.name == "runtime.NumGoroutine") = false ∧ Tryz.f18.body.isSome = true := ⟨Tryz.func18, by kernel_rfl, by kernel_rfl⟩
theorem facts19 : Tryz.prog.funcs[19]? = some Tryz.f19 ∧ (Tryz.f19.name == "runtime.NumGoroutine") = false ∧ Tryz.f19.body.isSome = true := ⟨Tryz.func19, by kernel_rfl, by kernel_rfl⟩
theorem facts20 : Tryz.prog.funcs[20]? = some Tryz.f20 ∧ (Tryz.f20.name == "runtime.NumGoroutine") = false ∧ Tryz.f20.body.isSome = true := ⟨Tryz.func20, by kernel_rfl, by kernel_rfl⟩
theorem aAF : Tryz.prog.funcs[21]? = some Tryz.f21 ∧ (Tryz.f21.name == "runtime.NumGoroutine") = false ∧ Tryz.f21.body.isSome = true := ⟨Tryz.func21, by kernel_rfl, by kernel_rfl⟩
theorem aCL : Tryz.prog.funcs[22]? = some Tryz.f22 ∧ (Tryz.f22.name == "runtime.NumGoroutine") = false ∧ Tryz.f22.body.isSome = true := ⟨Tryz.func22, by kernel_rfl, by kernel_rfl⟩
theorem aHQ : Tryz.prog.funcs[23]? = some Tryz.f23 ∧ (Tryz.f23.name == "runtime.NumGoroutine") = false ∧ Tryz.f23.body.isSome = true := ⟨Tryz.func23, by kernel_rfl, by kernel_rfl⟩
theorem yX : Tryz.prog.funcs[24]? = some Tryz.f24 ∧ (Tryz.f24.name == "runtime.NumGoroutine") = false ∧ Tryz.f24.body.isSome = true := ⟨Tryz.func24, by kernel_rfl, by kernel_rfl⟩
theorem facts25 : Tryz.prog.funcs[25]? = some Tryz.f25 ∧ (Tryz.f25.name == "runtime.NumGoroutine") = false ∧ Tryz.f25.body.isSome = true := ⟨Tryz.func25, by kernel_rfl, by kernel_rfl⟩
theorem aLX : Tryz.prog.funcs[26]? = some Tryz.f26 ∧ (Tryz.f26.name == "runtime.NumGoroutine") = false ∧ Tryz.f26.body.isSome = true := ⟨Tryz.func26, by kernel_rfl, by kernel_rfl⟩
theorem aH2 : Tryz.prog.funcs[27]? = some Tryz.f27 ∧ (Tryz.f27.name == "runtime.NumGoroutine") = false ∧ Tryz.f27.body.isSome = true := ⟨Tryz.func27, by kernel_rfl, by kernel_rfl⟩
theorem facts28 : Tryz.prog.funcs[28]? = some Tryz.f28 ∧ (Tryz.f28.name == "runtime.NumGoroutine") = false ∧ Tryz.f28.body.isSome = true := ⟨Tryz.func28, by kernel_rfl, by kernel_rfl⟩
theorem t8 : Tryz.prog.funcs[31]? = some Tryz.f31 ∧ (Tryz.f31.name == "runtime.NumGoroutine") = false ∧ Tryz.f31.body.isSome = true := ⟨Tryz.func31, by kernel_rfl, by kernel_rfl⟩
theorem facts32 : Tryz.prog.funcs[32]? = some Tryz.f32 ∧ (Tryz.f32.name == "runtime.NumGoroutine") = false ∧ Tryz.f32.body.isSome = true := ⟨Tryz.func32, by kernel_rfl, by kernel_rfl⟩
theorem aMD : Tryz.prog.funcs[33]? = some Tryz.f33 ∧ (Tryz.f33.name == "runtime.NumGoroutine") = false ∧ Tryz.f33.body.isSome = true := ⟨Tryz.func33, by kernel_rfl, by kernel_rfl⟩
theorem aL7 : Tryz.prog.funcs[34]? = some Tryz.f34 ∧ (Tryz.f34.name == "runtime.NumGoroutine") = false ∧ Tryz.f34.body.isSome = true := ⟨Tryz.func34, by kernel_rfl, by kernel_rfl⟩
theorem facts35 : Tryz.prog.funcs[35]? = some Tryz.f35 ∧ (Tryz.f35.name == "runtime.NumGoroutine") = false ∧ Tryz.f35.body.isSome = true := ⟨Tryz.func35, by kernel_rfl, by kernel_rfl⟩
theorem qH : Tryz.prog.funcs[36]? = some Tryz.f36 ∧ (Tryz.f36.name == "runtime.NumGoroutine") = false ∧ Tryz.f36.body.isSome = true := ⟨Tryz.func36, by kernel_rfl, by kernel_rfl⟩
theorem facts37 : Tryz.prog.funcs[37]? = some Tryz.f37 ∧ (Tryz.f37.name == "runtime.NumGoroutine") = false ∧ Tryz.f37.body.isSome = true := ⟨Tryz.func37, by kernel_rfl, by kernel_rfl⟩
theorem aLL : Tryz.prog.funcs[40]? = some Tryz.f40 ∧ (Tryz.f40.name == "runtime.NumGoroutine") = false ∧ Tryz.f40.body.isSome = true := ⟨Tryz.func40, by kernel_rfl, by kernel_rfl⟩
theorem lE : Tryz.prog.funcs[42]? = some Tryz.f42 ∧ (Tryz.f42.name == "runtime.NumGoroutine") = false ∧ Tryz.f42.body.isSome = true := ⟨Tryz.func42, by kernel_rfl, by kernel_rfl⟩
theorem yT : Tryz.prog.funcs[43]? = some Tryz.f43 ∧ (Tryz.f43.name == "runtime.NumGoroutine") = false ∧ Tryz.f43.body.isSome = true := ⟨Tryz.func43, by kernel_rfl, by kernel_rfl⟩
theorem nD : Tryz.prog.funcs[44]? = some Tryz.f44 ∧ (Tryz.f44.name == "runtime.NumGoroutine") = false ∧ Tryz.f44.body.isSome = true := ⟨Tryz.func44, by kernel_rfl, by kernel_rfl⟩
theorem fC : Tryz.prog.funcs[45]? = some Tryz.f45 ∧ (Tryz.f45.name == "runtime.NumGoroutine") = false ∧ Tryz.f45.body.isSome = true := ⟨Tryz.func45, by kernel_rfl, by kernel_rfl⟩
theorem uL : Tryz.prog.funcs[50]? = some Tryz.f50 ∧ (Tryz.f50.name == "runtime.NumGoroutine") = false ∧ Tryz.f50.body.isSome = true := ⟨Tryz.func50, by kernel_rfl, by kernel_rfl⟩
theorem aLM : Tryz.prog.funcs[53]? = some Tryz.f53 ∧ (Tryz.f53.name == "runtime.NumGoroutine") = false ∧ Tryz.f53.body.isSome = true := ⟨Tryz.func53, by kernel_rfl, by kernel_rfl⟩
theorem aCJ : Tryz.prog.funcs[54]? = some Tryz.f54 ∧ (Tryz.f54.name == "runtime.NumGoroutine") = false ∧ Tryz.f54.body.isSome = true := ⟨Tryz.func54, by kernel_rfl, by kernel_rfl⟩
theorem yU : Tryz.prog.funcs[55]? = some Tryz.f55 ∧ (Tryz.f55.name == "runtime.NumGoroutine") = false ∧ Tryz.f55.body.isSome = true := ⟨Tryz.func55, by kernel_rfl, by kernel_rfl⟩
theorem aLY : Tryz.prog.funcs[56]? = some Tryz.f56 ∧ (Tryz.f56.name == "runtime.NumGoroutine") = false ∧ Tryz.f56.body.isSome = true := ⟨Tryz.func56, by kernel_rfl, by kernel_rfl⟩
theorem kS : Tryz.prog.funcs[58]? = some Tryz.f58 ∧ (Tryz.f58.name == "runtime.NumGoroutine") = false ∧ Tryz.f58.body.isSome = true := ⟨Tryz.func58, by kernel_rfl, by kernel_rfl⟩
theorem facts59 : Tryz.prog.funcs[59]? = some Tryz.f59 ∧ (Tryz.f59.name == "runtime.NumGoroutine") = false ∧ Tryz.f59.body.isSome = true := ⟨Tryz.func59, by kernel_rfl, by kernel_rfl⟩
theorem aHP : Tryz.prog.funcs[60]? = some Tryz.f60 ∧ (Tryz.f60.name == "runtime.NumGoroutine") = false ∧ Tryz.f60.body.isSome = true := ⟨Tryz.func60, by kernel_rfl, by kernel_rfl⟩
theorem aLE : Tryz.prog.funcs[62]? = some Tryz.f62 ∧ (Tryz.f62.name == "runtime.NumGoroutine") = false ∧ Tryz.f62.body.isSome = true := ⟨Tryz.func62, by kernel_rfl, by kernel_rfl⟩
theorem aHR : Tryz.prog.funcs[63]? = some Tryz.f63 ∧ (Tryz.f63.name == "runtime.NumGoroutine") = false ∧ Tryz.f63.body.isSome = true := ⟨Tryz.func63, by kernel_rfl, by kernel_rfl⟩
theorem yR : Tryz.prog.funcs[64]? = some Tryz.f64 ∧ (Tryz.f64.name == "runtime.NumGoroutine") = false ∧ Tryz.f64.body.isSome = true := ⟨Tryz.func64, by kernel_rfl, by kernel_rfl⟩
theorem facts67 : Tryz.prog.funcs[67]? = some Tryz.f67 ∧ (Tryz.f67.name == "runtime.NumGoroutine") = false ∧ Tryz.f67.body.isSome = true := ⟨Tryz.func67, by kernel_rfl, by kernel_rfl⟩
theorem aLG : Tryz.prog.funcs[69]? = some Tryz.f69 ∧ (Tryz.f69.name == "runtime.NumGoroutine") = false ∧ Tryz.f69.body.isSome = true := ⟨Tryz.func69, by kernel_rfl, by kernel_rfl⟩
theorem facts80 : Tryz.prog.funcs[80]? = some Tryz.f80 ∧ (Tryz.f80.name == "runtime.NumGoroutine") = false ∧ Tryz.f80.body.isSome = true := ⟨Tryz.func80, by kernel_rfl, by kernel_rfl⟩
theorem facts81 : Tryz.prog.funcs[81]? = some Tryz.f81 ∧ (Tryz.f81.name == "runtime.NumGoroutine") = false ∧ Tryz.f81.body.isSome = true := ⟨Tryz.func81, by kernel_rfl, by kernel_rfl⟩
theorem facts110 : Tryz.prog.funcs[110]? = some Tryz.f110 ∧ (Tryz.f110.name == "runtime.NumGoroutine") = false ∧ Tryz.f110.body.isSome = true := ⟨Tryz.func110, by kernel_rfl, by kernel_rfl⟩
theorem aD5 : Tryz.prog.funcs[116]? = some Tryz.f116 ∧ (Tryz.f116.name == "runtime.NumGoroutine") = false ∧ Tryz.f116.body.isSome = true := ⟨Tryz.func116, by kernel_rfl, by kernel_rfl⟩
theorem facts120 : Tryz.prog.funcs[120]? = some Tryz.f120 ∧ (Tryz.f120.name == "runtime.NumGoroutine") = false ∧ Tryz.f120.body.isSome = true := ⟨Tryz.func120, by kernel_rfl, by kernel_rfl⟩
theorem facts142 : Tryz.prog.funcs[142]? = some Tryz.f142 ∧ (Tryz.f142.name == "runtime.NumGoroutine") = false ∧ Tryz.f142.body.isSome = true := ⟨Tryz.func142, by kernel_rfl, by kernel_rfl⟩
theorem own:ownKnob Tryz.prog.godebug=none:=by kernel_rfl
theorem laid:laidOutB Tryz.prog=true:=by kernel_rfl
theorem rowed:mapsRowed Tryz.prog=true:=by kernel_rfl
theorem full:fullB Tryz.prog=true:=by kernel_rfl
theorem isBool:Tryz.prog.underlying 4=some .bool:=by kernel_rfl
end Go.Ws
