/-
  The seat's functions: their texts; how elements of lists stand in cells. (Printed by my own program.)
  Conditions: none.
-/
import Derived.Test.YtgaodljkmdafdaaRows
import Derived.Test.YtgaodljkmdafdaaZB2
import Derived.KernelRfl
set_option linter.unusedVariables false
set_option linter.unusedSimpArgs false
namespace Go.Ws
open Go.Proofs
set_option linter.unusedSimpArgs false
set_option linter.unusedVariables false
set_option maxRecDepth 1000000
set_option maxHeartbeats 4000000

def e_i64_i64 (x:Int × Int):List AV:=[(.int .i64 x.1),(.int .i64 x.2)]
def e_i64 (x:Int):List AV:=[(.int .i64 x)]
def e_unit (x:Unit):List AV:=[]
def e_u8_i64_i64 (x:Int × Int × Int):List AV:=[(.int .u8 x.1),(.int .i64 x.2.1),(.int .i64 x.2.2)]
theorem mixed:Try.prog.follows .mixedOrders=true:=by kernel_rfl
theorem facts6 : Try.prog.funcs[6]? = some Try.f6 ∧ (Try.f6.name == "runtime.NumGoroutine") = false ∧ Try.f6.body.isSome = true := ⟨Try.func6, by kernel_rfl, by kernel_rfl⟩
theorem facts10 : Try.prog.funcs[10]? = some Try.f10 ∧ (Try.f10.name == "runtime.NumGoroutine") = false ∧ Try.f10.body.isSome = true := ⟨Try.func10, by kernel_rfl, by kernel_rfl⟩
theorem facts11 : Try.prog.funcs[11]? = some Try.f11 ∧ (Try.f11.name == "runtime.NumGoroutine") = false ∧ Try.f11.body.isSome = true := ⟨Try.func11, by kernel_rfl, by kernel_rfl⟩
theorem facts14 : Try.prog.funcs[14]? = some Try.f14 ∧ (Try.f14.name == "runtime.NumGoroutine") = false ∧ Try.f14.body.isSome = true := ⟨Try.func14, by kernel_rfl, by kernel_rfl⟩
theorem facts16 : Try.prog.funcs[16]? = some Try.f16 ∧ (Try.f16.name == "runtime.NumGoroutine") = false ∧ Try.f16.body.isSome = true := ⟨Try.func16, by kernel_rfl, by kernel_rfl⟩
theorem facts18 : Try.prog.funcs[18]? = some Try.f18 ∧ (Try.f18.name == "runtime.NumGoroutine") = false ∧ Try.f18.body.isSome = true := ⟨Try.func18, by kernel_rfl, by kernel_rfl⟩
theorem facts20 : Try.prog.funcs[20]? = some Try.f20 ∧ (Try.f20.name == "runtime.NumGoroutine") = false ∧ Try.f20.body.isSome = true := ⟨Try.func20, by kernel_rfl, by kernel_rfl⟩
theorem facts23 : Try.prog.funcs[23]? = some Try.f23 ∧ (Try.f23.name == "runtime.NumGoroutine") = false ∧ Try.f23.body.isSome = true := ⟨Try.func23, by kernel_rfl, by kernel_rfl⟩
theorem facts24 : Try.prog.funcs[24]? = some Try.f24 ∧ (Try.f24.name == "runtime.NumGoroutine") = false ∧ Try.f24.body.isSome = true := ⟨Try.func24, by kernel_rfl, by kernel_rfl⟩
theorem facts25 : Try.prog.funcs[25]? = some Try.f25 ∧ (Try.f25.name == "runtime.NumGoroutine") = false ∧ Try.f25.body.isSome = true := ⟨Try.func25, by kernel_rfl, by kernel_rfl⟩
theorem facts26 : Try.prog.funcs[26]? = some Try.f26 ∧ (Try.f26.name == "runtime.NumGoroutine") = false ∧ Try.f26.body.isSome = true := ⟨Try.func26, by kernel_rfl, by kernel_rfl⟩
theorem facts27 : Try.prog.funcs[27]? = some Try.f27 ∧ (Try.f27.name == "runtime.NumGoroutine") = false ∧ Try.f27.body.isSome = true := ⟨Try.func27, by kernel_rfl, by kernel_rfl⟩
theorem facts32 : Try.prog.funcs[32]? = some Try.f32 ∧ (Try.f32.name == "runtime.NumGoroutine") = false ∧ Try.f32.body.isSome = true := ⟨Try.func32, by kernel_rfl, by kernel_rfl⟩
theorem facts33 : Try.prog.funcs[33]? = some Try.f33 ∧ (Try.f33.name == "runtime.NumGoroutine") = false ∧ Try.f33.body.isSome = true := ⟨Try.func33, by kernel_rfl, by kernel_rfl⟩
theorem facts34 : Try.prog.funcs[34]? = some Try.f34 ∧ (Try.f34.name == "runtime.NumGoroutine") = false ∧ Try.f34.body.isSome = true := ⟨Try.func34, by kernel_rfl, by kernel_rfl⟩
theorem facts35 : Try.prog.funcs[35]? = some Try.f35 ∧ (Try.f35.name == "runtime.NumGoroutine") = false ∧ Try.f35.body.isSome = true := ⟨Try.func35, by kernel_rfl, by kernel_rfl⟩
theorem facts36 : Try.prog.funcs[36]? = some Try.f36 ∧ (Try.f36.name == "runtime.NumGoroutine") = false ∧ Try.f36.body.isSome = true := ⟨Try.func36, by kernel_rfl, by kernel_rfl⟩
theorem facts39 : Try.prog.funcs[39]? = some Try.f39 ∧ (Try.f39.name == "runtime.NumGoroutine") = false ∧ Try.f39.body.isSome = true := ⟨Try.func39, by kernel_rfl, by kernel_rfl⟩
theorem facts40 : Try.prog.funcs[40]? = some Try.f40 ∧ (Try.f40.name == "runtime.NumGoroutine") = false ∧ Try.f40.body.isSome = true := ⟨Try.func40, by kernel_rfl, by kernel_rfl⟩
theorem own:ownKnob Try.prog.godebug=none:=by kernel_rfl
theorem laid:laidOutB Try.prog=true:=by kernel_rfl
theorem rowed:mapsRowed Try.prog=true:=by kernel_rfl
theorem full:fullB Try.prog=true:=by kernel_rfl
theorem isBool:Try.prog.underlying 4=some .bool:=by kernel_rfl
end Go.Ws
