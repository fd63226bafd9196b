/-
  law08_LedgerAny: what the machine makes of it. (Printed by my own program.)
  Conditions: none.
-/
import Derived.Test.YtlgkcajgkahmgaaZPre
import Derived.Test.YtlgkcajgkahmgaaZPure
import Derived.Test.YtlgkcajgkahmgaaZW10
import Derived.Test.YtlgkcajgkahmgaaZW11
import Derived.Test.YtlgkcajgkahmgaaZW12
import Derived.Test.YtlgkcajgkahmgaaZW13
import Derived.Test.YtlgkcajgkahmgaaZW14
import Derived.Test.YtlgkcajgkahmgaaZW9
set_option linter.unusedVariables false
set_option linter.unusedSimpArgs false
namespace Go.Ws
open Go.Proofs
set_option linter.unusedSimpArgs false
set_option linter.unusedVariables false
set_option maxRecDepth 1000000
set_option maxHeartbeats 4000000
noncomputable def X3 : Ctx := ⟨Try.f3, [], true⟩
noncomputable def L3_0 : Code := at_ Try.f3 [1, 1, 1, 1, 0, 1, 4, 5]
def S3_0 (x1 : List (Int × Int)) (x2 : List (Int × Int)) (x3 : Int) (v3001_1 : Int) (v3001_2 : List (Int × Int)) (v3001_3 : List (Int × Int)) : St := ⟨mkT 112 [(0, (.sl 2 (List.map e_u8_i64 x1))), (1, (.sl 2 (List.map e_u8_i64 x2))), (2, (.int .u8 x3)), (7, (.ref 2 0 0 0 v3001_2.length .virt)), (8, (.ref 2 1 0 0 v3001_3.length .virt)), (37, (.int .i64 (nI x2.length))), (38, (.int .i64 v3001_1))], [(.arr 2 (List.map e_u8_i64 v3001_2) 0 0 false), (.arr 2 (List.map e_u8_i64 v3001_3) 0 0 false)]⟩
def E3_0_0 (x1 : List (Int × Int)) (x2 : List (Int × Int)) (v3002_1 : List (Int × Int)) (v3002_2 : List (Int × Int)) : St := ⟨mkT 112 [(0, (.sl 2 (List.map e_u8_i64 x1))), (1, (.sl 2 (List.map e_u8_i64 x2))), (7, (.ref 2 0 0 0 v3002_1.length .virt)), (8, (.ref 2 1 0 0 v3002_2.length .virt))], [(.arr 2 (List.map e_u8_i64 v3002_1) 0 0 false), (.arr 2 (List.map e_u8_i64 v3002_2) 0 0 false)]⟩
def O3_0 (x1 : List (Int × Int)) (x2 : List (Int × Int)) (x3 : Int) (y : ((List (Int × Int)) × (List (Int × Int)))) : GX := .st (.exit 0) (E3_0_0 x1 x2 y.1 y.2)
theorem ok_law08_LedgerAny_l0 (x1 : List (Int × Int)) (x2 : List (Int × Int)) (x3 : Int) (y : ((List (Int × Int)) × (List (Int × Int)))) : ∀ (k : Nat) (v3001_1 : Int) (v3001_2 : List (Int × Int)) (v3001_3 : List (Int × Int)), law08_LedgerAny_l0 k x1 x2 x3 v3001_1 v3001_2 v3001_3 = some y → LT Try.prog X3 L3_0 (S3_0 x1 x2 x3 v3001_1 v3001_2 v3001_3) (O3_0 x1 x2 x3 y)
  | 0, v3001_1, v3001_2, v3001_3, h => by cases h
  | k + 1, v3001_1, v3001_2, v3001_3, h => by
    rw [law08_LedgerAny_l0] at h
    by_cases cL0 : ltI v3001_1 (nI x2.length) = true
    · rw [if_pos cL0] at h
      by_cases cL1 : eqI (nI x2.length) 0 = true
      · rw [if_pos cL1] at h
        cases h
      · rw [if_neg cL1] at h
        replace cL1 := eqf cL1
        by_cases cL2 : inI (irem .i64 (iadd .i64 v3001_1 (conv .i64 x3)) (nI x2.length)) x2.length = true
        · rw [if_pos cL2] at h
          obtain ⟨v3000_1, eL3, h⟩ := Option.bind_eq_some_iff.1 h
          by_cases cL4 : roomI (((v3001_2 ++ [v3000_1]).length) * 16) = true
          · rw [if_pos cL4] at h
            by_cases cL5 : inI v3001_1 x2.length = true
            · rw [if_pos cL5] at h
              obtain ⟨v3000_2, eL6, h⟩ := Option.bind_eq_some_iff.1 h
              by_cases cL7 : roomI (((v3001_3 ++ [(v3000_2.1, ineg .i64 v3000_2.2)]).length) * 16) = true
              · rw [if_pos cL7] at h
                exact LT.next mixed (hs := ⟨[(0, []), (1, []), (2, []), (7, []), (8, []), (37, []), (38, [])], [⟨.tmp 7, [], some 2⟩, ⟨.tmp 8, [], some 2⟩], false, [], []⟩) (es := none) [.d true, .n x2.length, .d false, .n x2.length, .row [(.int .u8 v3000_1.1), (.int .i64 v3000_1.2)], .rows (List.map e_u8_i64 [v3000_1]), .n ((v3001_2 ++ [v3000_1]).length), .n v3001_2.length, .d true, .rows (List.map e_u8_i64 (v3001_2 ++ [v3000_1])), .n x2.length, .row [(.int .u8 v3000_2.1)], .n x2.length, .row [(.int .i64 v3000_2.2)], .rows (List.map e_u8_i64 [(v3000_2.1, ineg .i64 v3000_2.2)]), .n ((v3001_3 ++ [(v3000_2.1, ineg .i64 v3000_2.2)]).length), .n v3001_3.length, .d true, .rows (List.map e_u8_i64 (v3001_3 ++ [(v3000_2.1, ineg .i64 v3000_2.2)])), .n ((v3001_2 ++ [v3000_1]).length), .rows (List.map e_u8_i64 (v3001_2 ++ [v3000_1])), .n ((v3001_3 ++ [(v3000_2.1, ineg .i64 v3000_2.2)]).length), .rows (List.map e_u8_i64 (v3001_3 ++ [(v3000_2.1, ineg .i64 v3000_2.2)]))] [⟨(take_all e_u8_i64 (l := (v3001_3 ++ [(v3000_2.1, ineg .i64 v3000_2.2)])) (n := ((v3001_3 ++ [(v3000_2.1, ineg .i64 v3000_2.2)]).length)) rfl)⟩, ⟨(rfl : (v3001_3 ++ [(v3000_2.1, ineg .i64 v3000_2.2)]).length = (v3001_3 ++ [(v3000_2.1, ineg .i64 v3000_2.2)]).length)⟩, ⟨(take_all e_u8_i64 (l := (v3001_2 ++ [v3000_1])) (n := ((v3001_2 ++ [v3000_1]).length)) rfl)⟩, ⟨(rfl : (v3001_2 ++ [v3000_1]).length = (v3001_2 ++ [v3000_1]).length)⟩, ⟨(zle ((v3001_3 ++ [(v3000_2.1, ineg .i64 v3000_2.2)]).length))⟩, ⟨(zle ((v3001_2 ++ [v3000_1]).length))⟩, ⟨(app_map e_u8_i64 v3001_3 [(v3000_2.1, ineg .i64 v3000_2.2)])⟩, ⟨(eqN_self v3001_3.length)⟩, ⟨(len_map e_u8_i64 v3001_3)⟩, ⟨cL7⟩, ⟨(by simp only [List.length_append, List.length_cons, List.length_nil, List.length_take, List.length_drop, List.length_set, List.length_replicate, List.length_map, List.map_nil, List.map_cons] <;> omega : v3001_3.length + (List.map e_u8_i64 [(v3000_2.1, ineg .i64 v3000_2.2)]).length = (v3001_3 ++ [(v3000_2.1, ineg .i64 v3000_2.2)]).length)⟩, ⟨(part_all e_u8_i64 (l := [(v3000_2.1, ineg .i64 v3000_2.2)]) (n := 1) rfl)⟩, ⟨(le_map e_u8_i64 (Nat.le_refl 1) : 0 + 1 ≤ (List.map e_u8_i64 [(v3000_2.1, ineg .i64 v3000_2.2)]).length)⟩, ⟨(cells_map (e := e_u8_i64) eL6 2 1 1 (by decide))⟩, ⟨cL5⟩, ⟨(len_map e_u8_i64 x2)⟩, ⟨(cells_map (e := e_u8_i64) eL6 2 0 1 (by decide))⟩, ⟨cL5⟩, ⟨(len_map e_u8_i64 x2)⟩, ⟨(app_map e_u8_i64 v3001_2 [v3000_1])⟩, ⟨(eqN_self v3001_2.length)⟩, ⟨(len_map e_u8_i64 v3001_2)⟩, ⟨cL4⟩, ⟨(by simp only [List.length_append, List.length_cons, List.length_nil, List.length_take, List.length_drop, List.length_set, List.length_replicate, List.length_map, List.map_nil, List.map_cons] <;> omega : v3001_2.length + (List.map e_u8_i64 [v3000_1]).length = (v3001_2 ++ [v3000_1]).length)⟩, ⟨(part_all e_u8_i64 (l := [v3000_1]) (n := 1) rfl)⟩, ⟨(le_map e_u8_i64 (Nat.le_refl 1) : 0 + 1 ≤ (List.map e_u8_i64 [v3000_1]).length)⟩, ⟨(cells_map (e := e_u8_i64) eL3 2 0 2 (by decide))⟩, ⟨cL2⟩, ⟨(len_map e_u8_i64 x2)⟩, ⟨cL1⟩, ⟨(len_map e_u8_i64 x2)⟩, ⟨cL0⟩] (by kernel_rfl) (ok_law08_LedgerAny_l0 x1 x2 x3 y k (iadd .i64 v3001_1 1) (v3001_2 ++ [v3000_1]) (v3001_3 ++ [(v3000_2.1, ineg .i64 v3000_2.2)]) h)
              · rw [if_neg cL7] at h
                replace cL7 := eqf cL7
                cases h
            · rw [if_neg cL5] at h
              replace cL5 := eqf cL5
              cases h
          · rw [if_neg cL4] at h
            replace cL4 := eqf cL4
            cases h
        · rw [if_neg cL2] at h
          replace cL2 := eqf cL2
          cases h
    · rw [if_neg cL0] at h
      replace cL0 := eqf cL0
      obtain rfl := Option.some.inj h
      show LT _ _ _ _ (.st (.exit 0) (E3_0_0 x1 x2 v3001_2 v3001_3))
      exact LT.done mixed (hs := ⟨[], [], false, [], []⟩) (es := (some ⟨[(0, []), (1, []), (7, []), (8, [])], [⟨.tmp 7, [], none⟩, ⟨.tmp 8, [], none⟩], false, [], []⟩)) [.d false] [⟨cL0⟩] (by kernel_rfl) (fun s h => by cases h)
theorem ok_law08_LedgerAny (k : Nat) (x1 : List (Int × Int)) (x2 : List (Int × Int)) (x3 : Int) (r : Bool) (h : law08_LedgerAny k x1 x2 x3 = some r) : Tri Try.prog 3 [(.sl 2 (List.map e_u8_i64 x1)), (.sl 2 (List.map e_u8_i64 x2)), (.int .u8 x3)] [] (.bool r) [] := by
    unfold law08_LedgerAny at h
    obtain ⟨x4, e0, h⟩ := Option.bind_eq_some_iff.1 h
    by_cases c1 : x4 = true
    · rw [if_pos c1] at h
      by_cases c2 : ltI 100 (nI x1.length) = true
      · rw [if_pos c2] at h
        obtain rfl := Option.some.inj h
        exact Tri.of (x := X3) mixed facts3 [.call ⟨true, []⟩ (.bool x4) [], .d false, .n x1.length, .d true, .d true, .d true, .d true, .d true, .d true, .d true, .d true, .d true, .d true, .d true, .d true, .d true] [⟨(rfl : true = true)⟩, ⟨(rfl : true = true)⟩, ⟨(rfl : true = true)⟩, ⟨(rfl : true = true)⟩, ⟨(rfl : true = true)⟩, ⟨(rfl : true = true)⟩, ⟨(rfl : true = true)⟩, ⟨(rfl : true = true)⟩, ⟨(rfl : true = true)⟩, ⟨c2⟩, ⟨c2⟩, ⟨c2⟩, ⟨c2⟩, ⟨(len_map e_u8_i64 x1)⟩, ⟨(nF c1)⟩, ⟨(ok_law08_alive k _ e0)⟩] (by kernel_rfl)
      · rw [if_neg c2] at h
        replace c2 := eqf c2
        by_cases c3 : ltI 100 (nI x2.length) = true
        · rw [if_pos c3] at h
          obtain rfl := Option.some.inj h
          exact Tri.of (x := X3) mixed facts3 [.call ⟨true, []⟩ (.bool x4) [], .d false, .n x1.length, .d false, .d false, .n x2.length, .d false, .d false, .d true, .d true, .d true, .d true, .d true, .d true, .d true, .d true, .d true] [⟨(rfl : true = true)⟩, ⟨(rfl : true = true)⟩, ⟨(rfl : true = true)⟩, ⟨(rfl : true = true)⟩, ⟨(rfl : true = true)⟩, ⟨c3⟩, ⟨c3⟩, ⟨c3⟩, ⟨c3⟩, ⟨c2⟩, ⟨c2⟩, ⟨(len_map e_u8_i64 x2)⟩, ⟨c2⟩, ⟨c2⟩, ⟨(len_map e_u8_i64 x1)⟩, ⟨(nF c1)⟩, ⟨(ok_law08_alive k _ e0)⟩] (by kernel_rfl)
        · rw [if_neg c3] at h
          replace c3 := eqf c3
          obtain ⟨x5, e4, h⟩ := Option.bind_eq_some_iff.1 h
          by_cases c5 : x5 = true
          · rw [if_pos c5] at h
            obtain ⟨x6, e6, h⟩ := Option.bind_eq_some_iff.1 h
            by_cases c7 : x6 = true
            · rw [if_pos c7] at h
              obtain ⟨x8, e8, h⟩ := Option.bind_eq_some_iff.1 h
              obtain ⟨x9, e10, h⟩ := Option.bind_eq_some_iff.1 h
              obtain ⟨x10, e11, h⟩ := Option.bind_eq_some_iff.1 h
              obtain ⟨x11, e12, h⟩ := Option.bind_eq_some_iff.1 h
              by_cases c13 : eqI x9.2 0 = true
              · rw [if_pos c13] at h
                by_cases c14 : eqI x10.2 0 = true
                · rw [if_pos c14] at h
                  by_cases c15 : eqI x11.2 0 = true
                  · rw [if_pos c15] at h
                    obtain ⟨x12, e16, h⟩ := Option.bind_eq_some_iff.1 h
                    by_cases c17 : x12 = true
                    · rw [if_pos c17] at h
                      obtain ⟨x13, e18, h⟩ := Option.bind_eq_some_iff.1 h
                      by_cases c19 : x13 = true
                      · rw [if_pos c19] at h
                        obtain ⟨x14, e20, h⟩ := Option.bind_eq_some_iff.1 h
                        obtain rfl := Option.some.inj h
                        exact Tri.of (x := X3) mixed facts3 [.call ⟨true, []⟩ (.bool x4) [], .d false, .n x1.length, .d false, .d false, .n x2.length, .d false, .d false, .d false, .d false, .call ⟨true, []⟩ (.bool x5) [], .d false, .d false, .d false, .d false, .call ⟨true, []⟩ (.bool x6) [], .d false, .d false, .d false, .n x2.length, .norm 2 ⟨[(0, []), (1, []), (2, []), (7, []), (8, []), (37, []), (38, [])], [⟨.tmp 7, [], some 2⟩, ⟨.tmp 8, [], some 2⟩], false, [], []⟩, .n 0, .rows (List.map e_u8_i64 []), .n 0, .rows (List.map e_u8_i64 []), .out (.st .normal (E3_0_0 x1 x2 x8.1 x8.2)), .call ⟨true, []⟩ (.tup [(.sl 2 (List.map e_u8_i64 x9.1)), (.int .i64 x9.2)]) [], .call ⟨true, []⟩ (.tup [(.sl 2 (List.map e_u8_i64 x10.1)), (.int .i64 x10.2)]) [], .rows (List.map e_u8_i64 x8.1), .call ⟨true, []⟩ (.tup [(.sl 2 (List.map e_u8_i64 x11.1)), (.int .i64 x11.2)]) [], .rows (List.map e_u8_i64 x8.2), .d true, .d true, .d true, .d true, .d true, .d true, .d true, .d true, .d true, .call ⟨true, []⟩ (.bool x12) [], .d true, .d true, .d true, .d true, .call ⟨true, []⟩ (.bool x13) [], .d true, .d true, .d true, .call ⟨true, []⟩ (.bool x14) [], .d true] [⟨c19⟩, ⟨(ok_ledger_Right k x9.1 _ e20)⟩, ⟨c19⟩, ⟨c19⟩, ⟨c17⟩, ⟨(ok_ref08_Same k x11.1 x1 _ e18)⟩, ⟨c17⟩, ⟨c17⟩, ⟨c17⟩, ⟨c15⟩, ⟨(ok_ref08_Same k x9.1 x10.1 _ e16)⟩, ⟨c15⟩, ⟨c15⟩, ⟨c15⟩, ⟨c14⟩, ⟨c14⟩, ⟨c14⟩, ⟨c13⟩, ⟨c13⟩, ⟨c13⟩, ⟨(ok_ledger_Put k x9.1 x8.2 _ e12)⟩, ⟨(part_all e_u8_i64 (l := x8.2) (n := x8.2.length) rfl)⟩, ⟨(le_map e_u8_i64 (Nat.le_refl x8.2.length) : 0 + x8.2.length ≤ (List.map e_u8_i64 x8.2).length)⟩, ⟨(ok_ledger_Put k x1 x8.1 _ e11)⟩, ⟨(part_all e_u8_i64 (l := x8.1) (n := x8.1.length) rfl)⟩, ⟨(le_map e_u8_i64 (Nat.le_refl x8.1.length) : 0 + x8.1.length ≤ (List.map e_u8_i64 x8.1).length)⟩, ⟨(ok_ledger_Put k x1 x2 _ e10)⟩, ⟨(LT.block (ok_law08_LedgerAny_l0 x1 x2 x3 _ k 0 [] [] e8))⟩, ⟨(take_all e_u8_i64 (l := []) (n := 0) rfl)⟩, ⟨(rfl : 0 = 0)⟩, ⟨(take_all e_u8_i64 (l := []) (n := 0) rfl)⟩, ⟨(rfl : 0 = 0)⟩, ⟨(zle 0)⟩, ⟨(zle 0)⟩, ⟨(len_map e_u8_i64 x2)⟩, ⟨(nF c7)⟩, ⟨(nF c5)⟩, ⟨(nF c5)⟩, ⟨(ok_law08_keys k x2 _ e6)⟩, ⟨(nF c5)⟩, ⟨(nF c5)⟩, ⟨c3⟩, ⟨c3⟩, ⟨(ok_ref08_Right k x1 _ e4)⟩, ⟨c3⟩, ⟨c3⟩, ⟨c2⟩, ⟨c2⟩, ⟨(len_map e_u8_i64 x2)⟩, ⟨c2⟩, ⟨c2⟩, ⟨(len_map e_u8_i64 x1)⟩, ⟨(nF c1)⟩, ⟨(ok_law08_alive k _ e0)⟩] (by kernel_rfl)
                      · rw [if_neg c19] at h
                        replace c19 := eqf c19
                        obtain rfl := Option.some.inj h
                        exact Tri.of (x := X3) mixed facts3 [.call ⟨true, []⟩ (.bool x4) [], .d false, .n x1.length, .d false, .d false, .n x2.length, .d false, .d false, .d false, .d false, .call ⟨true, []⟩ (.bool x5) [], .d false, .d false, .d false, .d false, .call ⟨true, []⟩ (.bool x6) [], .d false, .d false, .d false, .n x2.length, .norm 2 ⟨[(0, []), (1, []), (2, []), (7, []), (8, []), (37, []), (38, [])], [⟨.tmp 7, [], some 2⟩, ⟨.tmp 8, [], some 2⟩], false, [], []⟩, .n 0, .rows (List.map e_u8_i64 []), .n 0, .rows (List.map e_u8_i64 []), .out (.st .normal (E3_0_0 x1 x2 x8.1 x8.2)), .call ⟨true, []⟩ (.tup [(.sl 2 (List.map e_u8_i64 x9.1)), (.int .i64 x9.2)]) [], .call ⟨true, []⟩ (.tup [(.sl 2 (List.map e_u8_i64 x10.1)), (.int .i64 x10.2)]) [], .rows (List.map e_u8_i64 x8.1), .call ⟨true, []⟩ (.tup [(.sl 2 (List.map e_u8_i64 x11.1)), (.int .i64 x11.2)]) [], .rows (List.map e_u8_i64 x8.2), .d true, .d true, .d true, .d true, .d true, .d true, .d true, .d true, .d true, .call ⟨true, []⟩ (.bool x12) [], .d true, .d true, .d true, .d true, .call ⟨true, []⟩ (.bool x13) [], .d true, .d false, .d false, .d false] [⟨c19⟩, ⟨c19⟩, ⟨c19⟩, ⟨c17⟩, ⟨(ok_ref08_Same k x11.1 x1 _ e18)⟩, ⟨c17⟩, ⟨c17⟩, ⟨c17⟩, ⟨c15⟩, ⟨(ok_ref08_Same k x9.1 x10.1 _ e16)⟩, ⟨c15⟩, ⟨c15⟩, ⟨c15⟩, ⟨c14⟩, ⟨c14⟩, ⟨c14⟩, ⟨c13⟩, ⟨c13⟩, ⟨c13⟩, ⟨(ok_ledger_Put k x9.1 x8.2 _ e12)⟩, ⟨(part_all e_u8_i64 (l := x8.2) (n := x8.2.length) rfl)⟩, ⟨(le_map e_u8_i64 (Nat.le_refl x8.2.length) : 0 + x8.2.length ≤ (List.map e_u8_i64 x8.2).length)⟩, ⟨(ok_ledger_Put k x1 x8.1 _ e11)⟩, ⟨(part_all e_u8_i64 (l := x8.1) (n := x8.1.length) rfl)⟩, ⟨(le_map e_u8_i64 (Nat.le_refl x8.1.length) : 0 + x8.1.length ≤ (List.map e_u8_i64 x8.1).length)⟩, ⟨(ok_ledger_Put k x1 x2 _ e10)⟩, ⟨(LT.block (ok_law08_LedgerAny_l0 x1 x2 x3 _ k 0 [] [] e8))⟩, ⟨(take_all e_u8_i64 (l := []) (n := 0) rfl)⟩, ⟨(rfl : 0 = 0)⟩, ⟨(take_all e_u8_i64 (l := []) (n := 0) rfl)⟩, ⟨(rfl : 0 = 0)⟩, ⟨(zle 0)⟩, ⟨(zle 0)⟩, ⟨(len_map e_u8_i64 x2)⟩, ⟨(nF c7)⟩, ⟨(nF c5)⟩, ⟨(nF c5)⟩, ⟨(ok_law08_keys k x2 _ e6)⟩, ⟨(nF c5)⟩, ⟨(nF c5)⟩, ⟨c3⟩, ⟨c3⟩, ⟨(ok_ref08_Right k x1 _ e4)⟩, ⟨c3⟩, ⟨c3⟩, ⟨c2⟩, ⟨c2⟩, ⟨(len_map e_u8_i64 x2)⟩, ⟨c2⟩, ⟨c2⟩, ⟨(len_map e_u8_i64 x1)⟩, ⟨(nF c1)⟩, ⟨(ok_law08_alive k _ e0)⟩] (by kernel_rfl)
                    · rw [if_neg c17] at h
                      replace c17 := eqf c17
                      obtain rfl := Option.some.inj h
                      exact Tri.of (x := X3) mixed facts3 [.call ⟨true, []⟩ (.bool x4) [], .d false, .n x1.length, .d false, .d false, .n x2.length, .d false, .d false, .d false, .d false, .call ⟨true, []⟩ (.bool x5) [], .d false, .d false, .d false, .d false, .call ⟨true, []⟩ (.bool x6) [], .d false, .d false, .d false, .n x2.length, .norm 2 ⟨[(0, []), (1, []), (2, []), (7, []), (8, []), (37, []), (38, [])], [⟨.tmp 7, [], some 2⟩, ⟨.tmp 8, [], some 2⟩], false, [], []⟩, .n 0, .rows (List.map e_u8_i64 []), .n 0, .rows (List.map e_u8_i64 []), .out (.st .normal (E3_0_0 x1 x2 x8.1 x8.2)), .call ⟨true, []⟩ (.tup [(.sl 2 (List.map e_u8_i64 x9.1)), (.int .i64 x9.2)]) [], .call ⟨true, []⟩ (.tup [(.sl 2 (List.map e_u8_i64 x10.1)), (.int .i64 x10.2)]) [], .rows (List.map e_u8_i64 x8.1), .call ⟨true, []⟩ (.tup [(.sl 2 (List.map e_u8_i64 x11.1)), (.int .i64 x11.2)]) [], .rows (List.map e_u8_i64 x8.2), .d true, .d true, .d true, .d true, .d true, .d true, .d true, .d true, .d true, .call ⟨true, []⟩ (.bool x12) [], .d true, .d false, .d false, .d false, .d false, .d false, .d false, .d false] [⟨(rfl : false = false)⟩, ⟨(rfl : false = false)⟩, ⟨(rfl : false = false)⟩, ⟨c17⟩, ⟨c17⟩, ⟨c17⟩, ⟨c17⟩, ⟨c15⟩, ⟨(ok_ref08_Same k x9.1 x10.1 _ e16)⟩, ⟨c15⟩, ⟨c15⟩, ⟨c15⟩, ⟨c14⟩, ⟨c14⟩, ⟨c14⟩, ⟨c13⟩, ⟨c13⟩, ⟨c13⟩, ⟨(ok_ledger_Put k x9.1 x8.2 _ e12)⟩, ⟨(part_all e_u8_i64 (l := x8.2) (n := x8.2.length) rfl)⟩, ⟨(le_map e_u8_i64 (Nat.le_refl x8.2.length) : 0 + x8.2.length ≤ (List.map e_u8_i64 x8.2).length)⟩, ⟨(ok_ledger_Put k x1 x8.1 _ e11)⟩, ⟨(part_all e_u8_i64 (l := x8.1) (n := x8.1.length) rfl)⟩, ⟨(le_map e_u8_i64 (Nat.le_refl x8.1.length) : 0 + x8.1.length ≤ (List.map e_u8_i64 x8.1).length)⟩, ⟨(ok_ledger_Put k x1 x2 _ e10)⟩, ⟨(LT.block (ok_law08_LedgerAny_l0 x1 x2 x3 _ k 0 [] [] e8))⟩, ⟨(take_all e_u8_i64 (l := []) (n := 0) rfl)⟩, ⟨(rfl : 0 = 0)⟩, ⟨(take_all e_u8_i64 (l := []) (n := 0) rfl)⟩, ⟨(rfl : 0 = 0)⟩, ⟨(zle 0)⟩, ⟨(zle 0)⟩, ⟨(len_map e_u8_i64 x2)⟩, ⟨(nF c7)⟩, ⟨(nF c5)⟩, ⟨(nF c5)⟩, ⟨(ok_law08_keys k x2 _ e6)⟩, ⟨(nF c5)⟩, ⟨(nF c5)⟩, ⟨c3⟩, ⟨c3⟩, ⟨(ok_ref08_Right k x1 _ e4)⟩, ⟨c3⟩, ⟨c3⟩, ⟨c2⟩, ⟨c2⟩, ⟨(len_map e_u8_i64 x2)⟩, ⟨c2⟩, ⟨c2⟩, ⟨(len_map e_u8_i64 x1)⟩, ⟨(nF c1)⟩, ⟨(ok_law08_alive k _ e0)⟩] (by kernel_rfl)
                  · rw [if_neg c15] at h
                    replace c15 := eqf c15
                    obtain rfl := Option.some.inj h
                    exact Tri.of (x := X3) mixed facts3 [.call ⟨true, []⟩ (.bool x4) [], .d false, .n x1.length, .d false, .d false, .n x2.length, .d false, .d false, .d false, .d false, .call ⟨true, []⟩ (.bool x5) [], .d false, .d false, .d false, .d false, .call ⟨true, []⟩ (.bool x6) [], .d false, .d false, .d false, .n x2.length, .norm 2 ⟨[(0, []), (1, []), (2, []), (7, []), (8, []), (37, []), (38, [])], [⟨.tmp 7, [], some 2⟩, ⟨.tmp 8, [], some 2⟩], false, [], []⟩, .n 0, .rows (List.map e_u8_i64 []), .n 0, .rows (List.map e_u8_i64 []), .out (.st .normal (E3_0_0 x1 x2 x8.1 x8.2)), .call ⟨true, []⟩ (.tup [(.sl 2 (List.map e_u8_i64 x9.1)), (.int .i64 x9.2)]) [], .call ⟨true, []⟩ (.tup [(.sl 2 (List.map e_u8_i64 x10.1)), (.int .i64 x10.2)]) [], .rows (List.map e_u8_i64 x8.1), .call ⟨true, []⟩ (.tup [(.sl 2 (List.map e_u8_i64 x11.1)), (.int .i64 x11.2)]) [], .rows (List.map e_u8_i64 x8.2), .d true, .d true, .d true, .d true, .d true, .d true, .d false, .d false, .d false, .d false, .d false, .d false, .d false, .d false, .d false, .d false, .d false] [⟨(rfl : false = false)⟩, ⟨(rfl : false = false)⟩, ⟨(rfl : false = false)⟩, ⟨(rfl : false = false)⟩, ⟨(rfl : false = false)⟩, ⟨(rfl : false = false)⟩, ⟨(rfl : false = false)⟩, ⟨c15⟩, ⟨c15⟩, ⟨c15⟩, ⟨c15⟩, ⟨c14⟩, ⟨c14⟩, ⟨c14⟩, ⟨c13⟩, ⟨c13⟩, ⟨c13⟩, ⟨(ok_ledger_Put k x9.1 x8.2 _ e12)⟩, ⟨(part_all e_u8_i64 (l := x8.2) (n := x8.2.length) rfl)⟩, ⟨(le_map e_u8_i64 (Nat.le_refl x8.2.length) : 0 + x8.2.length ≤ (List.map e_u8_i64 x8.2).length)⟩, ⟨(ok_ledger_Put k x1 x8.1 _ e11)⟩, ⟨(part_all e_u8_i64 (l := x8.1) (n := x8.1.length) rfl)⟩, ⟨(le_map e_u8_i64 (Nat.le_refl x8.1.length) : 0 + x8.1.length ≤ (List.map e_u8_i64 x8.1).length)⟩, ⟨(ok_ledger_Put k x1 x2 _ e10)⟩, ⟨(LT.block (ok_law08_LedgerAny_l0 x1 x2 x3 _ k 0 [] [] e8))⟩, ⟨(take_all e_u8_i64 (l := []) (n := 0) rfl)⟩, ⟨(rfl : 0 = 0)⟩, ⟨(take_all e_u8_i64 (l := []) (n := 0) rfl)⟩, ⟨(rfl : 0 = 0)⟩, ⟨(zle 0)⟩, ⟨(zle 0)⟩, ⟨(len_map e_u8_i64 x2)⟩, ⟨(nF c7)⟩, ⟨(nF c5)⟩, ⟨(nF c5)⟩, ⟨(ok_law08_keys k x2 _ e6)⟩, ⟨(nF c5)⟩, ⟨(nF c5)⟩, ⟨c3⟩, ⟨c3⟩, ⟨(ok_ref08_Right k x1 _ e4)⟩, ⟨c3⟩, ⟨c3⟩, ⟨c2⟩, ⟨c2⟩, ⟨(len_map e_u8_i64 x2)⟩, ⟨c2⟩, ⟨c2⟩, ⟨(len_map e_u8_i64 x1)⟩, ⟨(nF c1)⟩, ⟨(ok_law08_alive k _ e0)⟩] (by kernel_rfl)
                · rw [if_neg c14] at h
                  replace c14 := eqf c14
                  obtain rfl := Option.some.inj h
                  exact Tri.of (x := X3) mixed facts3 [.call ⟨true, []⟩ (.bool x4) [], .d false, .n x1.length, .d false, .d false, .n x2.length, .d false, .d false, .d false, .d false, .call ⟨true, []⟩ (.bool x5) [], .d false, .d false, .d false, .d false, .call ⟨true, []⟩ (.bool x6) [], .d false, .d false, .d false, .n x2.length, .norm 2 ⟨[(0, []), (1, []), (2, []), (7, []), (8, []), (37, []), (38, [])], [⟨.tmp 7, [], some 2⟩, ⟨.tmp 8, [], some 2⟩], false, [], []⟩, .n 0, .rows (List.map e_u8_i64 []), .n 0, .rows (List.map e_u8_i64 []), .out (.st .normal (E3_0_0 x1 x2 x8.1 x8.2)), .call ⟨true, []⟩ (.tup [(.sl 2 (List.map e_u8_i64 x9.1)), (.int .i64 x9.2)]) [], .call ⟨true, []⟩ (.tup [(.sl 2 (List.map e_u8_i64 x10.1)), (.int .i64 x10.2)]) [], .rows (List.map e_u8_i64 x8.1), .call ⟨true, []⟩ (.tup [(.sl 2 (List.map e_u8_i64 x11.1)), (.int .i64 x11.2)]) [], .rows (List.map e_u8_i64 x8.2), .d true, .d true, .d true, .d false, .d false, .d false, .d false, .d false, .d false, .d false, .d false, .d false, .d false, .d false, .d false, .d false, .d false] [⟨(rfl : false = false)⟩, ⟨(rfl : false = false)⟩, ⟨(rfl : false = false)⟩, ⟨(rfl : false = false)⟩, ⟨(rfl : false = false)⟩, ⟨(rfl : false = false)⟩, ⟨(rfl : false = false)⟩, ⟨(rfl : false = false)⟩, ⟨(rfl : false = false)⟩, ⟨(rfl : false = false)⟩, ⟨(rfl : false = false)⟩, ⟨c14⟩, ⟨c14⟩, ⟨c14⟩, ⟨c13⟩, ⟨c13⟩, ⟨c13⟩, ⟨(ok_ledger_Put k x9.1 x8.2 _ e12)⟩, ⟨(part_all e_u8_i64 (l := x8.2) (n := x8.2.length) rfl)⟩, ⟨(le_map e_u8_i64 (Nat.le_refl x8.2.length) : 0 + x8.2.length ≤ (List.map e_u8_i64 x8.2).length)⟩, ⟨(ok_ledger_Put k x1 x8.1 _ e11)⟩, ⟨(part_all e_u8_i64 (l := x8.1) (n := x8.1.length) rfl)⟩, ⟨(le_map e_u8_i64 (Nat.le_refl x8.1.length) : 0 + x8.1.length ≤ (List.map e_u8_i64 x8.1).length)⟩, ⟨(ok_ledger_Put k x1 x2 _ e10)⟩, ⟨(LT.block (ok_law08_LedgerAny_l0 x1 x2 x3 _ k 0 [] [] e8))⟩, ⟨(take_all e_u8_i64 (l := []) (n := 0) rfl)⟩, ⟨(rfl : 0 = 0)⟩, ⟨(take_all e_u8_i64 (l := []) (n := 0) rfl)⟩, ⟨(rfl : 0 = 0)⟩, ⟨(zle 0)⟩, ⟨(zle 0)⟩, ⟨(len_map e_u8_i64 x2)⟩, ⟨(nF c7)⟩, ⟨(nF c5)⟩, ⟨(nF c5)⟩, ⟨(ok_law08_keys k x2 _ e6)⟩, ⟨(nF c5)⟩, ⟨(nF c5)⟩, ⟨c3⟩, ⟨c3⟩, ⟨(ok_ref08_Right k x1 _ e4)⟩, ⟨c3⟩, ⟨c3⟩, ⟨c2⟩, ⟨c2⟩, ⟨(len_map e_u8_i64 x2)⟩, ⟨c2⟩, ⟨c2⟩, ⟨(len_map e_u8_i64 x1)⟩, ⟨(nF c1)⟩, ⟨(ok_law08_alive k _ e0)⟩] (by kernel_rfl)
              · rw [if_neg c13] at h
                replace c13 := eqf c13
                obtain rfl := Option.some.inj h
                exact Tri.of (x := X3) mixed facts3 [.call ⟨true, []⟩ (.bool x4) [], .d false, .n x1.length, .d false, .d false, .n x2.length, .d false, .d false, .d false, .d false, .call ⟨true, []⟩ (.bool x5) [], .d false, .d false, .d false, .d false, .call ⟨true, []⟩ (.bool x6) [], .d false, .d false, .d false, .n x2.length, .norm 2 ⟨[(0, []), (1, []), (2, []), (7, []), (8, []), (37, []), (38, [])], [⟨.tmp 7, [], some 2⟩, ⟨.tmp 8, [], some 2⟩], false, [], []⟩, .n 0, .rows (List.map e_u8_i64 []), .n 0, .rows (List.map e_u8_i64 []), .out (.st .normal (E3_0_0 x1 x2 x8.1 x8.2)), .call ⟨true, []⟩ (.tup [(.sl 2 (List.map e_u8_i64 x9.1)), (.int .i64 x9.2)]) [], .call ⟨true, []⟩ (.tup [(.sl 2 (List.map e_u8_i64 x10.1)), (.int .i64 x10.2)]) [], .rows (List.map e_u8_i64 x8.1), .call ⟨true, []⟩ (.tup [(.sl 2 (List.map e_u8_i64 x11.1)), (.int .i64 x11.2)]) [], .rows (List.map e_u8_i64 x8.2), .d false, .d false, .d false, .d false, .d false, .d false, .d false, .d false, .d false, .d false, .d false, .d false, .d false, .d false, .d false, .d false, .d false] [⟨(rfl : false = false)⟩, ⟨(rfl : false = false)⟩, ⟨(rfl : false = false)⟩, ⟨(rfl : false = false)⟩, ⟨(rfl : false = false)⟩, ⟨(rfl : false = false)⟩, ⟨(rfl : false = false)⟩, ⟨(rfl : false = false)⟩, ⟨(rfl : false = false)⟩, ⟨(rfl : false = false)⟩, ⟨(rfl : false = false)⟩, ⟨(rfl : false = false)⟩, ⟨(rfl : false = false)⟩, ⟨(rfl : false = false)⟩, ⟨c13⟩, ⟨c13⟩, ⟨c13⟩, ⟨(ok_ledger_Put k x9.1 x8.2 _ e12)⟩, ⟨(part_all e_u8_i64 (l := x8.2) (n := x8.2.length) rfl)⟩, ⟨(le_map e_u8_i64 (Nat.le_refl x8.2.length) : 0 + x8.2.length ≤ (List.map e_u8_i64 x8.2).length)⟩, ⟨(ok_ledger_Put k x1 x8.1 _ e11)⟩, ⟨(part_all e_u8_i64 (l := x8.1) (n := x8.1.length) rfl)⟩, ⟨(le_map e_u8_i64 (Nat.le_refl x8.1.length) : 0 + x8.1.length ≤ (List.map e_u8_i64 x8.1).length)⟩, ⟨(ok_ledger_Put k x1 x2 _ e10)⟩, ⟨(LT.block (ok_law08_LedgerAny_l0 x1 x2 x3 _ k 0 [] [] e8))⟩, ⟨(take_all e_u8_i64 (l := []) (n := 0) rfl)⟩, ⟨(rfl : 0 = 0)⟩, ⟨(take_all e_u8_i64 (l := []) (n := 0) rfl)⟩, ⟨(rfl : 0 = 0)⟩, ⟨(zle 0)⟩, ⟨(zle 0)⟩, ⟨(len_map e_u8_i64 x2)⟩, ⟨(nF c7)⟩, ⟨(nF c5)⟩, ⟨(nF c5)⟩, ⟨(ok_law08_keys k x2 _ e6)⟩, ⟨(nF c5)⟩, ⟨(nF c5)⟩, ⟨c3⟩, ⟨c3⟩, ⟨(ok_ref08_Right k x1 _ e4)⟩, ⟨c3⟩, ⟨c3⟩, ⟨c2⟩, ⟨c2⟩, ⟨(len_map e_u8_i64 x2)⟩, ⟨c2⟩, ⟨c2⟩, ⟨(len_map e_u8_i64 x1)⟩, ⟨(nF c1)⟩, ⟨(ok_law08_alive k _ e0)⟩] (by kernel_rfl)
            · rw [if_neg c7] at h
              replace c7 := eqf c7
              obtain rfl := Option.some.inj h
              exact Tri.of (x := X3) mixed facts3 [.call ⟨true, []⟩ (.bool x4) [], .d false, .n x1.length, .d false, .d false, .n x2.length, .d false, .d false, .d false, .d false, .call ⟨true, []⟩ (.bool x5) [], .d false, .d false, .d false, .d false, .call ⟨true, []⟩ (.bool x6) [], .d false, .d false, .d true] [⟨(nT c7)⟩, ⟨(nF c5)⟩, ⟨(nF c5)⟩, ⟨(ok_law08_keys k x2 _ e6)⟩, ⟨(nF c5)⟩, ⟨(nF c5)⟩, ⟨c3⟩, ⟨c3⟩, ⟨(ok_ref08_Right k x1 _ e4)⟩, ⟨c3⟩, ⟨c3⟩, ⟨c2⟩, ⟨c2⟩, ⟨(len_map e_u8_i64 x2)⟩, ⟨c2⟩, ⟨c2⟩, ⟨(len_map e_u8_i64 x1)⟩, ⟨(nF c1)⟩, ⟨(ok_law08_alive k _ e0)⟩] (by kernel_rfl)
          · rw [if_neg c5] at h
            replace c5 := eqf c5
            obtain rfl := Option.some.inj h
            exact Tri.of (x := X3) mixed facts3 [.call ⟨true, []⟩ (.bool x4) [], .d false, .n x1.length, .d false, .d false, .n x2.length, .d false, .d false, .d false, .d false, .call ⟨true, []⟩ (.bool x5) [], .d false, .d false, .d true, .d true, .d true, .d true, .d true] [⟨(rfl : true = true)⟩, ⟨(nT c5)⟩, ⟨(nT c5)⟩, ⟨(nT c5)⟩, ⟨(nT c5)⟩, ⟨c3⟩, ⟨c3⟩, ⟨(ok_ref08_Right k x1 _ e4)⟩, ⟨c3⟩, ⟨c3⟩, ⟨c2⟩, ⟨c2⟩, ⟨(len_map e_u8_i64 x2)⟩, ⟨c2⟩, ⟨c2⟩, ⟨(len_map e_u8_i64 x1)⟩, ⟨(nF c1)⟩, ⟨(ok_law08_alive k _ e0)⟩] (by kernel_rfl)
    · rw [if_neg c1] at h
      replace c1 := eqf c1
      obtain rfl := Option.some.inj h
      exact Tri.of (x := X3) mixed facts3 [.call ⟨true, []⟩ (.bool x4) [], .d true] [⟨(nT c1)⟩, ⟨(ok_law08_alive k _ e0)⟩] (by kernel_rfl)
end Go.Ws
