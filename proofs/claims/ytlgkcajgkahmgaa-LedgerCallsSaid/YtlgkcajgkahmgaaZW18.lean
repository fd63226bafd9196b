/-
  ledger_Sum: what the machine makes of it. (Printed by my own program.)
  Conditions: none.
-/
import Derived.Test.YtlgkcajgkahmgaaZPre
import Derived.Test.YtlgkcajgkahmgaaZPure
import Derived.Test.YtlgkcajgkahmgaaZW12
import Derived.Test.YtlgkcajgkahmgaaZW14
set_option linter.unusedVariables false
set_option linter.unusedSimpArgs false
namespace Go.Ws
open Go.Proofs
set_option linter.unusedSimpArgs false
set_option linter.unusedVariables false
set_option maxRecDepth 1000000
set_option maxHeartbeats 4000000
noncomputable def X18 : Ctx := ⟨Try.f18, [], true⟩
theorem ok_ledger_Sum (k : Nat) (x1 : List (Int × Int)) (x2 : List (Int × Int)) (r : (List (Int × Int)) × Int) (h : ledger_Sum k x1 x2 = some r) : Tri Try.prog 18 [(.sl 2 (List.map e_u8_i64 x1)), (.sl 2 (List.map e_u8_i64 x2))] [] (.tup [(.sl 2 (List.map e_u8_i64 r.1)), (.int .i64 r.2)]) [] := by
    unfold ledger_Sum at h
    obtain ⟨x3, e0, h⟩ := Option.bind_eq_some_iff.1 h
    by_cases c1 : x3 = true
    · rw [if_pos c1] at h
      obtain ⟨x4, e2, h⟩ := Option.bind_eq_some_iff.1 h
      by_cases c3 : x4 = true
      · rw [if_pos c3] at h
        obtain ⟨x5, e4, h⟩ := Option.bind_eq_some_iff.1 h
        obtain rfl := Option.some.inj h
        exact Tri.of (x := X18) mixed facts18 [.call ⟨true, []⟩ (.bool x3) [], .d false, .d false, .call ⟨true, []⟩ (.bool x4) [], .d false, .d false, .d false, .call ⟨true, []⟩ (.tup [(.sl 2 (List.map e_u8_i64 x5.1)), (.int .i64 x5.2)]) []] [⟨(ok_ledger_Put k x1 x2 _ e4)⟩, ⟨(nF c3)⟩, ⟨(nF c1)⟩, ⟨(nF c1)⟩, ⟨(ok_ledger_Right k x2 _ e2)⟩, ⟨(nF c1)⟩, ⟨(nF c1)⟩, ⟨(ok_ledger_Right k x1 _ e0)⟩] (by kernel_rfl)
      · rw [if_neg c3] at h
        replace c3 := eqf c3
        obtain rfl := Option.some.inj h
        exact Tri.of (x := X18) mixed facts18 [.call ⟨true, []⟩ (.bool x3) [], .d false, .d false, .call ⟨true, []⟩ (.bool x4) [], .d false, .d false, .d true, .norm 0 ⟨[(4, [(0, 2)]), (5, [])], [], false, [], []⟩] [⟨(nT c3)⟩, ⟨(nF c1)⟩, ⟨(nF c1)⟩, ⟨(ok_ledger_Right k x2 _ e2)⟩, ⟨(nF c1)⟩, ⟨(nF c1)⟩, ⟨(ok_ledger_Right k x1 _ e0)⟩] (by kernel_rfl)
    · rw [if_neg c1] at h
      replace c1 := eqf c1
      obtain rfl := Option.some.inj h
      exact Tri.of (x := X18) mixed facts18 [.call ⟨true, []⟩ (.bool x3) [], .d true, .d true, .d true, .d true, .d true, .norm 0 ⟨[(4, [(0, 2)]), (5, [])], [], false, [], []⟩] [⟨(rfl : true = true)⟩, ⟨(nT c1)⟩, ⟨(nT c1)⟩, ⟨(nT c1)⟩, ⟨(nT c1)⟩, ⟨(ok_ledger_Right k x1 _ e0)⟩] (by kernel_rfl)
end Go.Ws
