/-
  Walks, merged.
  Conditions: none.
-/
import Derived.Test.YtojldadifhneeaaZPre
import Derived.Test.YtojldadifhneeaaZPure
import Derived.Test.YtojldadifhneeaaZWGSiteLogs0
set_option linter.unusedVariables false
set_option linter.unusedSimpArgs false
namespace Go.Ws
open Go.Proofs
set_option linter.unusedSimpArgs false
set_option linter.unusedVariables false
set_option maxRecDepth 1000000
set_option maxHeartbeats 4000000
noncomputable def X14_3 (x5 : Ty11) (x6 : Ty8) (x7 : Ty2) (x8 : Ty7) : Ctx := ⟨Try.f14, [(.row [(.sl 2 (List.map e_u8_i64 x5)), (.sl 3 (List.map e_u8_i64_b x6)), (.mp 1), (.ref 4 2 0 0 x8.length .virt)]), (.map (encM .i64 (fun y => AV.agg (e_i64_Lu8i64E_b_i64 y)) x7) x7.length), (.arr 4 (List.map e_i64_i64_u8_i64 x8) 0 0 false)], false⟩
theorem ok_site_Site_Do_3 (k : Nat) (x1 : Int) (x2 : Int) (x3 : Int) (x4 : Int) (x5 : Ty11) (x6 : Ty8) (x7 : Ty2) (x8 : Ty7) (r : Int × Int × Ty11 × Ty8 × Ty2 × Ty7) (h : site_Site_Do_3 k x1 x2 x3 x4 x5 x6 x7 x8 = some r) : Tri Try.prog 14 [(.hp 0 0), (.agg [(.int .i64 x1), (.int .i64 x2), (.int .u8 x3), (.int .i64 x4)])] [(.row [(.sl 2 (List.map e_u8_i64 x5)), (.sl 3 (List.map e_u8_i64_b x6)), (.mp 1), (.ref 4 2 0 0 x8.length .virt)]), (.map (encM .i64 (fun y => AV.agg (e_i64_Lu8i64E_b_i64 y)) x7) x7.length), (.arr 4 (List.map e_i64_i64_u8_i64 x8) 0 0 false)] (.tup [(.int .i64 r.2.1), (.int .i64 r.1)]) [(.row [(.sl 2 (List.map e_u8_i64 r.2.2.1)), (.sl 3 (List.map e_u8_i64_b r.2.2.2.1)), (.mp 1), (.ref 4 2 1 0 r.2.2.2.2.2.length .virt)]), (.map (encM .i64 (fun y => AV.agg (e_i64_Lu8i64E_b_i64 y)) r.2.2.2.2.1) r.2.2.2.2.1.length), (.arr 4 (List.map e_i64_i64_u8_i64 r.2.2.2.2.2) 1 1 false)] := by
    unfold site_Site_Do_3 at h
    by_cases c0 : ltI x1 1 = true
    · rw [if_pos c0] at h
      obtain rfl := Option.some.inj h
      exact Tri.of (x := (X14_3 x5 x6 x7 x8)) mixed facts14 [.call ⟨true, []⟩ (.bool (!false)) [(.row [(.sl 2 (List.map e_u8_i64 x5)), (.sl 3 (List.map e_u8_i64_b x6)), (.mp 1), (.ref 4 2 0 0 x8.length .virt)]), (.map (encM .i64 (fun y => AV.agg (e_i64_Lu8i64E_b_i64 y)) x7) x7.length), (.arr 4 (List.map e_i64_i64_u8_i64 x8) 0 0 false)], .d false, .d true, .d true, .d true, .d true, .d true, .d true, .d true, .d true, .d true, .d true, .d true, .d true, .d true, .norm 0 ⟨[(4, []), (5, [])], [], false, [], [none, none, some 1]⟩] [⟨(rfl : true = true)⟩, ⟨(rfl : true = true)⟩, ⟨(rfl : true = true)⟩, ⟨(rfl : true = true)⟩, ⟨(rfl : true = true)⟩, ⟨(rfl : true = true)⟩, ⟨(rfl : true = true)⟩, ⟨(rfl : true = true)⟩, ⟨(rfl : true = true)⟩, ⟨c0⟩, ⟨c0⟩, ⟨c0⟩, ⟨c0⟩, ⟨(nF (nT rfl))⟩, ⟨(ok_site_Site_good_3 x5 x6 x7 x8)⟩] (by kernel_rfl)
    · rw [if_neg c0] at h
      replace c0 := eqf c0
      by_cases c1 : ltI 6 x1 = true
      · rw [if_pos c1] at h
        obtain rfl := Option.some.inj h
        exact Tri.of (x := (X14_3 x5 x6 x7 x8)) mixed facts14 [.call ⟨true, []⟩ (.bool (!false)) [(.row [(.sl 2 (List.map e_u8_i64 x5)), (.sl 3 (List.map e_u8_i64_b x6)), (.mp 1), (.ref 4 2 0 0 x8.length .virt)]), (.map (encM .i64 (fun y => AV.agg (e_i64_Lu8i64E_b_i64 y)) x7) x7.length), (.arr 4 (List.map e_i64_i64_u8_i64 x8) 0 0 false)], .d false, .d false, .d false, .d false, .d false, .d true, .d true, .d true, .d true, .d true, .d true, .d true, .d true, .d true, .norm 0 ⟨[(4, []), (5, [])], [], false, [], [none, none, some 1]⟩] [⟨(rfl : true = true)⟩, ⟨(rfl : true = true)⟩, ⟨(rfl : true = true)⟩, ⟨(rfl : true = true)⟩, ⟨(rfl : true = true)⟩, ⟨c1⟩, ⟨c1⟩, ⟨c1⟩, ⟨c1⟩, ⟨c0⟩, ⟨c0⟩, ⟨c0⟩, ⟨c0⟩, ⟨(nF (nT rfl))⟩, ⟨(ok_site_Site_good_3 x5 x6 x7 x8)⟩] (by kernel_rfl)
      · rw [if_neg c1] at h
        replace c1 := eqf c1
        by_cases c2 : ltI x2 0 = true
        · rw [if_pos c2] at h
          obtain rfl := Option.some.inj h
          exact Tri.of (x := (X14_3 x5 x6 x7 x8)) mixed facts14 [.call ⟨true, []⟩ (.bool (!false)) [(.row [(.sl 2 (List.map e_u8_i64 x5)), (.sl 3 (List.map e_u8_i64_b x6)), (.mp 1), (.ref 4 2 0 0 x8.length .virt)]), (.map (encM .i64 (fun y => AV.agg (e_i64_Lu8i64E_b_i64 y)) x7) x7.length), (.arr 4 (List.map e_i64_i64_u8_i64 x8) 0 0 false)], .d false, .d false, .d false, .d false, .d false, .d false, .d false, .d false, .d false, .d true, .d true, .d true, .d true, .d true, .norm 0 ⟨[(4, []), (5, [])], [], false, [], [none, none, some 1]⟩] [⟨(rfl : true = true)⟩, ⟨c2⟩, ⟨c2⟩, ⟨c2⟩, ⟨c2⟩, ⟨c1⟩, ⟨c1⟩, ⟨c1⟩, ⟨c1⟩, ⟨c0⟩, ⟨c0⟩, ⟨c0⟩, ⟨c0⟩, ⟨(nF (nT rfl))⟩, ⟨(ok_site_Site_good_3 x5 x6 x7 x8)⟩] (by kernel_rfl)
        · rw [if_neg c2] at h
          replace c2 := eqf c2
          by_cases c3 : ltI x2 1000 = true
          · rw [if_pos c3] at h
            by_cases c4 : mHas x7 x2 = true
            · rw [if_pos c4] at h
              obtain ⟨x9, e5, h⟩ := Option.bind_eq_some_iff.1 h
              by_cases c6 : eqB true (eqI x1 1) = true
              · rw [if_pos c6] at h
                obtain rfl := Option.some.inj h
                exact Tri.of (x := (X14_3 x5 x6 x7 x8)) mixed facts14 [.call ⟨true, []⟩ (.bool (!false)) [(.row [(.sl 2 (List.map e_u8_i64 x5)), (.sl 3 (List.map e_u8_i64_b x6)), (.mp 1), (.ref 4 2 0 0 x8.length .virt)]), (.map (encM .i64 (fun y => AV.agg (e_i64_Lu8i64E_b_i64 y)) x7) x7.length), (.arr 4 (List.map e_i64_i64_u8_i64 x8) 0 0 false)], .d false, .d false, .d false, .d false, .d false, .d false, .d false, .d false, .d false, .d false, .d false, .d false, .d false, .d false, .opt (some (.agg [(.int .i64 x9.1), (.sl 2 (List.map e_u8_i64 x9.2.1)), (.bool x9.2.2.1), (.int .i64 x9.2.2.2)])), .d true, .d true, .norm 0 ⟨[(4, []), (5, [])], [], false, [], [none, none, some 1]⟩] [⟨(rfl : true = true)⟩, ⟨c6⟩, ⟨(look_some .i64 (fun y => AV.agg (e_i64_Lu8i64E_b_i64 y)) e5)⟩, ⟨(nF c3)⟩, ⟨c2⟩, ⟨c2⟩, ⟨c2⟩, ⟨c2⟩, ⟨c1⟩, ⟨c1⟩, ⟨c1⟩, ⟨c1⟩, ⟨c0⟩, ⟨c0⟩, ⟨c0⟩, ⟨c0⟩, ⟨(nF (nT rfl))⟩, ⟨(ok_site_Site_good_3 x5 x6 x7 x8)⟩] (by kernel_rfl)
              · rw [if_neg c6] at h
                replace c6 := eqf c6
                obtain ⟨x10, e7, h⟩ := Option.bind_eq_some_iff.1 h
                by_cases c8 : eqI x10.2.1 0 = true
                · rw [if_pos c8] at h
                  by_cases c9 : roomI (((x8 ++ [(x1, x2, x3, x4)]).length) * 32) = true
                  · rw [if_pos c9] at h
                    obtain rfl := Option.some.inj h
                    exact Tri.of (x := (X14_3 x5 x6 x7 x8)) mixed facts14 [.call ⟨true, []⟩ (.bool (!false)) [(.row [(.sl 2 (List.map e_u8_i64 x5)), (.sl 3 (List.map e_u8_i64_b x6)), (.mp 1), (.ref 4 2 0 0 x8.length .virt)]), (.map (encM .i64 (fun y => AV.agg (e_i64_Lu8i64E_b_i64 y)) x7) x7.length), (.arr 4 (List.map e_i64_i64_u8_i64 x8) 0 0 false)], .d false, .d false, .d false, .d false, .d false, .d false, .d false, .d false, .d false, .d false, .d false, .d false, .d false, .d false, .opt (some (.agg [(.int .i64 x9.1), (.sl 2 (List.map e_u8_i64 x9.2.1)), (.bool x9.2.2.1), (.int .i64 x9.2.2.2)])), .d false, .call ⟨true, []⟩ (.tup [(.int .i64 x10.1), (.int .i64 x10.2.1)]) [(.row [(.sl 2 (List.map e_u8_i64 x10.2.2.2.2)), (.sl 3 (List.map e_u8_i64_b x10.2.2.1)), (.mp 1), (.ref 4 2 0 0 x8.length .virt)]), (.map (encM .i64 (fun y => AV.agg (e_i64_Lu8i64E_b_i64 y)) x10.2.2.2.1) x10.2.2.2.1.length), (.arr 4 (List.map e_i64_i64_u8_i64 x8) 0 0 false)], .d false, .rows (List.map e_i64_i64_u8_i64 [(x1, x2, x3, x4)]), .n ((x8 ++ [(x1, x2, x3, x4)]).length), .n x8.length, .d true, .rows (List.map e_i64_i64_u8_i64 (x8 ++ [(x1, x2, x3, x4)])), .norm 0 ⟨[(4, []), (5, [])], [], false, [], [none, none, some 1]⟩] [⟨(app_map e_i64_i64_u8_i64 x8 [(x1, x2, x3, x4)])⟩, ⟨(eqN_self x8.length)⟩, ⟨(len_map e_i64_i64_u8_i64 x8)⟩, ⟨c9⟩, ⟨(by simp only [List.length_append, List.length_cons, List.length_nil, List.length_take, List.length_drop, List.length_set, List.length_replicate, List.length_map, List.map_nil, List.map_cons] <;> omega : x8.length + (List.map e_i64_i64_u8_i64 [(x1, x2, x3, x4)]).length = (x8 ++ [(x1, x2, x3, x4)]).length)⟩, ⟨(part_all e_i64_i64_u8_i64 (l := [(x1, x2, x3, x4)]) (n := 1) rfl)⟩, ⟨(le_map e_i64_i64_u8_i64 (Nat.le_refl 1) : 0 + 1 ≤ (List.map e_i64_i64_u8_i64 [(x1, x2, x3, x4)]).length)⟩, ⟨(nF c8)⟩, ⟨(ok_site_Site_step_3 k x9.1 x9.2.1 x9.2.2.1 x9.2.2.2 x1 x2 x3 x4 x5 x6 x7 x8 _ e7)⟩, ⟨c6⟩, ⟨(look_some .i64 (fun y => AV.agg (e_i64_Lu8i64E_b_i64 y)) e5)⟩, ⟨(nF c3)⟩, ⟨c2⟩, ⟨c2⟩, ⟨c2⟩, ⟨c2⟩, ⟨c1⟩, ⟨c1⟩, ⟨c1⟩, ⟨c1⟩, ⟨c0⟩, ⟨c0⟩, ⟨c0⟩, ⟨c0⟩, ⟨(nF (nT rfl))⟩, ⟨(ok_site_Site_good_3 x5 x6 x7 x8)⟩] (by kernel_rfl)
                  · rw [if_neg c9] at h
                    replace c9 := eqf c9
                    cases h
                · rw [if_neg c8] at h
                  replace c8 := eqf c8
                  obtain rfl := Option.some.inj h
                  exact Tri.of (x := (X14_3 x5 x6 x7 x8)) mixed facts14 [.call ⟨true, []⟩ (.bool (!false)) [(.row [(.sl 2 (List.map e_u8_i64 x5)), (.sl 3 (List.map e_u8_i64_b x6)), (.mp 1), (.ref 4 2 0 0 x8.length .virt)]), (.map (encM .i64 (fun y => AV.agg (e_i64_Lu8i64E_b_i64 y)) x7) x7.length), (.arr 4 (List.map e_i64_i64_u8_i64 x8) 0 0 false)], .d false, .d false, .d false, .d false, .d false, .d false, .d false, .d false, .d false, .d false, .d false, .d false, .d false, .d false, .opt (some (.agg [(.int .i64 x9.1), (.sl 2 (List.map e_u8_i64 x9.2.1)), (.bool x9.2.2.1), (.int .i64 x9.2.2.2)])), .d false, .call ⟨true, []⟩ (.tup [(.int .i64 x10.1), (.int .i64 x10.2.1)]) [(.row [(.sl 2 (List.map e_u8_i64 x10.2.2.2.2)), (.sl 3 (List.map e_u8_i64_b x10.2.2.1)), (.mp 1), (.ref 4 2 0 0 x8.length .virt)]), (.map (encM .i64 (fun y => AV.agg (e_i64_Lu8i64E_b_i64 y)) x10.2.2.2.1) x10.2.2.2.1.length), (.arr 4 (List.map e_i64_i64_u8_i64 x8) 0 0 false)], .d true, .norm 0 ⟨[(4, []), (5, [])], [], false, [], [none, none, some 1]⟩] [⟨(nT c8)⟩, ⟨(ok_site_Site_step_3 k x9.1 x9.2.1 x9.2.2.1 x9.2.2.2 x1 x2 x3 x4 x5 x6 x7 x8 _ e7)⟩, ⟨c6⟩, ⟨(look_some .i64 (fun y => AV.agg (e_i64_Lu8i64E_b_i64 y)) e5)⟩, ⟨(nF c3)⟩, ⟨c2⟩, ⟨c2⟩, ⟨c2⟩, ⟨c2⟩, ⟨c1⟩, ⟨c1⟩, ⟨c1⟩, ⟨c1⟩, ⟨c0⟩, ⟨c0⟩, ⟨c0⟩, ⟨c0⟩, ⟨(nF (nT rfl))⟩, ⟨(ok_site_Site_good_3 x5 x6 x7 x8)⟩] (by kernel_rfl)
            · rw [if_neg c4] at h
              replace c4 := eqf c4
              by_cases c5 : eqB false (eqI x1 1) = true
              · rw [if_pos c5] at h
                obtain rfl := Option.some.inj h
                exact Tri.of (x := (X14_3 x5 x6 x7 x8)) mixed facts14 [.call ⟨true, []⟩ (.bool (!false)) [(.row [(.sl 2 (List.map e_u8_i64 x5)), (.sl 3 (List.map e_u8_i64_b x6)), (.mp 1), (.ref 4 2 0 0 x8.length .virt)]), (.map (encM .i64 (fun y => AV.agg (e_i64_Lu8i64E_b_i64 y)) x7) x7.length), (.arr 4 (List.map e_i64_i64_u8_i64 x8) 0 0 false)], .d false, .d false, .d false, .d false, .d false, .d false, .d false, .d false, .d false, .d false, .d false, .d false, .d false, .d false, .opt none, .d true, .d false, .norm 0 ⟨[(4, []), (5, [])], [], false, [], [none, none, some 1]⟩] [⟨(rfl : false = false)⟩, ⟨c5⟩, ⟨(look_none .i64 (fun y => AV.agg (e_i64_Lu8i64E_b_i64 y)) c4)⟩, ⟨(nF c3)⟩, ⟨c2⟩, ⟨c2⟩, ⟨c2⟩, ⟨c2⟩, ⟨c1⟩, ⟨c1⟩, ⟨c1⟩, ⟨c1⟩, ⟨c0⟩, ⟨c0⟩, ⟨c0⟩, ⟨c0⟩, ⟨(nF (nT rfl))⟩, ⟨(ok_site_Site_good_3 x5 x6 x7 x8)⟩] (by kernel_rfl)
              · rw [if_neg c5] at h
                replace c5 := eqf c5
                obtain ⟨x9, e6, h⟩ := Option.bind_eq_some_iff.1 h
                by_cases c7 : eqI x9.2.1 0 = true
                · rw [if_pos c7] at h
                  by_cases c8 : roomI (((x8 ++ [(x1, x2, x3, x4)]).length) * 32) = true
                  · rw [if_pos c8] at h
                    obtain rfl := Option.some.inj h
                    exact Tri.of (x := (X14_3 x5 x6 x7 x8)) mixed facts14 [.call ⟨true, []⟩ (.bool (!false)) [(.row [(.sl 2 (List.map e_u8_i64 x5)), (.sl 3 (List.map e_u8_i64_b x6)), (.mp 1), (.ref 4 2 0 0 x8.length .virt)]), (.map (encM .i64 (fun y => AV.agg (e_i64_Lu8i64E_b_i64 y)) x7) x7.length), (.arr 4 (List.map e_i64_i64_u8_i64 x8) 0 0 false)], .d false, .d false, .d false, .d false, .d false, .d false, .d false, .d false, .d false, .d false, .d false, .d false, .d false, .d false, .opt none, .d false, .call ⟨true, []⟩ (.tup [(.int .i64 x9.1), (.int .i64 x9.2.1)]) [(.row [(.sl 2 (List.map e_u8_i64 x9.2.2.2.2)), (.sl 3 (List.map e_u8_i64_b x9.2.2.1)), (.mp 1), (.ref 4 2 0 0 x8.length .virt)]), (.map (encM .i64 (fun y => AV.agg (e_i64_Lu8i64E_b_i64 y)) x9.2.2.2.1) x9.2.2.2.1.length), (.arr 4 (List.map e_i64_i64_u8_i64 x8) 0 0 false)], .d false, .rows (List.map e_i64_i64_u8_i64 [(x1, x2, x3, x4)]), .n ((x8 ++ [(x1, x2, x3, x4)]).length), .n x8.length, .d true, .rows (List.map e_i64_i64_u8_i64 (x8 ++ [(x1, x2, x3, x4)])), .norm 0 ⟨[(4, []), (5, [])], [], false, [], [none, none, some 1]⟩] [⟨(app_map e_i64_i64_u8_i64 x8 [(x1, x2, x3, x4)])⟩, ⟨(eqN_self x8.length)⟩, ⟨(len_map e_i64_i64_u8_i64 x8)⟩, ⟨c8⟩, ⟨(by simp only [List.length_append, List.length_cons, List.length_nil, List.length_take, List.length_drop, List.length_set, List.length_replicate, List.length_map, List.map_nil, List.map_cons] <;> omega : x8.length + (List.map e_i64_i64_u8_i64 [(x1, x2, x3, x4)]).length = (x8 ++ [(x1, x2, x3, x4)]).length)⟩, ⟨(part_all e_i64_i64_u8_i64 (l := [(x1, x2, x3, x4)]) (n := 1) rfl)⟩, ⟨(le_map e_i64_i64_u8_i64 (Nat.le_refl 1) : 0 + 1 ≤ (List.map e_i64_i64_u8_i64 [(x1, x2, x3, x4)]).length)⟩, ⟨(nF c7)⟩, ⟨(ok_site_Site_step_3 k 0 [] false 0 x1 x2 x3 x4 x5 x6 x7 x8 _ e6)⟩, ⟨c5⟩, ⟨(look_none .i64 (fun y => AV.agg (e_i64_Lu8i64E_b_i64 y)) c4)⟩, ⟨(nF c3)⟩, ⟨c2⟩, ⟨c2⟩, ⟨c2⟩, ⟨c2⟩, ⟨c1⟩, ⟨c1⟩, ⟨c1⟩, ⟨c1⟩, ⟨c0⟩, ⟨c0⟩, ⟨c0⟩, ⟨c0⟩, ⟨(nF (nT rfl))⟩, ⟨(ok_site_Site_good_3 x5 x6 x7 x8)⟩] (by kernel_rfl)
                  · rw [if_neg c8] at h
                    replace c8 := eqf c8
                    cases h
                · rw [if_neg c7] at h
                  replace c7 := eqf c7
                  obtain rfl := Option.some.inj h
                  exact Tri.of (x := (X14_3 x5 x6 x7 x8)) mixed facts14 [.call ⟨true, []⟩ (.bool (!false)) [(.row [(.sl 2 (List.map e_u8_i64 x5)), (.sl 3 (List.map e_u8_i64_b x6)), (.mp 1), (.ref 4 2 0 0 x8.length .virt)]), (.map (encM .i64 (fun y => AV.agg (e_i64_Lu8i64E_b_i64 y)) x7) x7.length), (.arr 4 (List.map e_i64_i64_u8_i64 x8) 0 0 false)], .d false, .d false, .d false, .d false, .d false, .d false, .d false, .d false, .d false, .d false, .d false, .d false, .d false, .d false, .opt none, .d false, .call ⟨true, []⟩ (.tup [(.int .i64 x9.1), (.int .i64 x9.2.1)]) [(.row [(.sl 2 (List.map e_u8_i64 x9.2.2.2.2)), (.sl 3 (List.map e_u8_i64_b x9.2.2.1)), (.mp 1), (.ref 4 2 0 0 x8.length .virt)]), (.map (encM .i64 (fun y => AV.agg (e_i64_Lu8i64E_b_i64 y)) x9.2.2.2.1) x9.2.2.2.1.length), (.arr 4 (List.map e_i64_i64_u8_i64 x8) 0 0 false)], .d true, .norm 0 ⟨[(4, []), (5, [])], [], false, [], [none, none, some 1]⟩] [⟨(nT c7)⟩, ⟨(ok_site_Site_step_3 k 0 [] false 0 x1 x2 x3 x4 x5 x6 x7 x8 _ e6)⟩, ⟨c5⟩, ⟨(look_none .i64 (fun y => AV.agg (e_i64_Lu8i64E_b_i64 y)) c4)⟩, ⟨(nF c3)⟩, ⟨c2⟩, ⟨c2⟩, ⟨c2⟩, ⟨c2⟩, ⟨c1⟩, ⟨c1⟩, ⟨c1⟩, ⟨c1⟩, ⟨c0⟩, ⟨c0⟩, ⟨c0⟩, ⟨c0⟩, ⟨(nF (nT rfl))⟩, ⟨(ok_site_Site_good_3 x5 x6 x7 x8)⟩] (by kernel_rfl)
          · rw [if_neg c3] at h
            replace c3 := eqf c3
            obtain rfl := Option.some.inj h
            exact Tri.of (x := (X14_3 x5 x6 x7 x8)) mixed facts14 [.call ⟨true, []⟩ (.bool (!false)) [(.row [(.sl 2 (List.map e_u8_i64 x5)), (.sl 3 (List.map e_u8_i64_b x6)), (.mp 1), (.ref 4 2 0 0 x8.length .virt)]), (.map (encM .i64 (fun y => AV.agg (e_i64_Lu8i64E_b_i64 y)) x7) x7.length), (.arr 4 (List.map e_i64_i64_u8_i64 x8) 0 0 false)], .d false, .d false, .d false, .d false, .d false, .d false, .d false, .d false, .d false, .d false, .d false, .d false, .d false, .d true, .norm 0 ⟨[(4, []), (5, [])], [], false, [], [none, none, some 1]⟩] [⟨(nT c3)⟩, ⟨c2⟩, ⟨c2⟩, ⟨c2⟩, ⟨c2⟩, ⟨c1⟩, ⟨c1⟩, ⟨c1⟩, ⟨c1⟩, ⟨c0⟩, ⟨c0⟩, ⟨c0⟩, ⟨c0⟩, ⟨(nF (nT rfl))⟩, ⟨(ok_site_Site_good_3 x5 x6 x7 x8)⟩] (by kernel_rfl)
end Go.Ws

namespace Go.Ws
open Go.Proofs
set_option linter.unusedSimpArgs false
set_option linter.unusedVariables false
set_option maxRecDepth 1000000
set_option maxHeartbeats 4000000
noncomputable def X16 (x2 : Ty11) (x3 : Ty8) (x4 : Ty2) (x5 : Ty7) : Ctx := ⟨Try.f16, [(.row [(.sl 2 (List.map e_u8_i64 x2)), (.sl 3 (List.map e_u8_i64_b x3)), (.mp 1), (.ref 4 2 0 0 x5.length .virt)]), (.map (encM .i64 (fun y => AV.agg (e_i64_Lu8i64E_b_i64 y)) x4) x4.length), (.arr 4 (List.map e_i64_i64_u8_i64 x5) 0 0 false)], false⟩
theorem ok_site_Site_Part (k : Nat) (x1 : Int) (x2 : Ty11) (x3 : Ty8) (x4 : Ty2) (x5 : Ty7) (r : Int × Bool × Int × Ty11 × Bool) (h : site_Site_Part k x1 x2 x3 x4 x5 = some r) : Tri Try.prog 16 [(.hp 0 0), (.int .i64 x1)] [(.row [(.sl 2 (List.map e_u8_i64 x2)), (.sl 3 (List.map e_u8_i64_b x3)), (.mp 1), (.ref 4 2 0 0 x5.length .virt)]), (.map (encM .i64 (fun y => AV.agg (e_i64_Lu8i64E_b_i64 y)) x4) x4.length), (.arr 4 (List.map e_i64_i64_u8_i64 x5) 0 0 false)] (.tup [(.agg [(.int .i64 r.1), (.ref 2 3 0 0 r.2.2.2.1.length .virt), (.bool r.2.1), (.int .i64 r.2.2.1)]), (.bool r.2.2.2.2)]) [(.row [(.sl 2 (List.map e_u8_i64 x2)), (.sl 3 (List.map e_u8_i64_b x3)), (.mp 1), (.ref 4 2 0 0 x5.length .virt)]), (.map (encM .i64 (fun y => AV.agg (e_i64_Lu8i64E_b_i64 y)) x4) x4.length), (.arr 4 (List.map e_i64_i64_u8_i64 x5) 0 0 false), (.arr 2 (List.map e_u8_i64 r.2.2.2.1) 0 0 false)] := by
    unfold site_Site_Part at h
    by_cases c0 : mHas x4 x1 = true
    · rw [if_pos c0] at h
      obtain ⟨x6, e1, h⟩ := Option.bind_eq_some_iff.1 h
      obtain ⟨x7, e2, h⟩ := Option.bind_eq_some_iff.1 h
      obtain rfl := Option.some.inj h
      exact Tri.of (x := (X16 x2 x3 x4 x5)) mixed facts16 [.call ⟨true, []⟩ (.bool (!false)) [(.row [(.sl 2 (List.map e_u8_i64 x2)), (.sl 3 (List.map e_u8_i64_b x3)), (.mp 1), (.ref 4 2 0 0 x5.length .virt)]), (.map (encM .i64 (fun y => AV.agg (e_i64_Lu8i64E_b_i64 y)) x4) x4.length), (.arr 4 (List.map e_i64_i64_u8_i64 x5) 0 0 false)], .d false, .opt (some (.agg [(.int .i64 x6.1), (.sl 2 (List.map e_u8_i64 x6.2.1)), (.bool x6.2.2.1), (.int .i64 x6.2.2.2)])), .call ⟨true, []⟩ (.ref 2 0 0 0 x6.2.1.length .virt) [(.arr 2 (List.map e_u8_i64 x6.2.1) 0 0 false)], .norm 0 ⟨[(4, []), (5, [])], [⟨.tmp 4, [], none⟩, ⟨.cell 3 1, [], none⟩], false, [], []⟩] [⟨(ok_slices_Clone_29 k x6.2.1 _ e2)⟩, ⟨(look_some .i64 (fun y => AV.agg (e_i64_Lu8i64E_b_i64 y)) e1)⟩, ⟨(nF (nT rfl))⟩, ⟨(ok_site_Site_good_3 x2 x3 x4 x5)⟩] (by kernel_rfl)
    · rw [if_neg c0] at h
      replace c0 := eqf c0
      obtain ⟨x6, e1, h⟩ := Option.bind_eq_some_iff.1 h
      obtain rfl := Option.some.inj h
      exact Tri.of (x := (X16 x2 x3 x4 x5)) mixed facts16 [.call ⟨true, []⟩ (.bool (!false)) [(.row [(.sl 2 (List.map e_u8_i64 x2)), (.sl 3 (List.map e_u8_i64_b x3)), (.mp 1), (.ref 4 2 0 0 x5.length .virt)]), (.map (encM .i64 (fun y => AV.agg (e_i64_Lu8i64E_b_i64 y)) x4) x4.length), (.arr 4 (List.map e_i64_i64_u8_i64 x5) 0 0 false)], .d false, .opt none, .call ⟨true, []⟩ (.ref 2 0 0 0 0 .virt) [(.arr 2 (List.map e_u8_i64 []) 0 0 false)], .norm 0 ⟨[(4, []), (5, [])], [⟨.tmp 4, [], none⟩, ⟨.cell 3 1, [], none⟩], false, [], []⟩] [⟨(ok_slices_Clone_29 k [] _ e1)⟩, ⟨(look_none .i64 (fun y => AV.agg (e_i64_Lu8i64E_b_i64 y)) c0)⟩, ⟨(nF (nT rfl))⟩, ⟨(ok_site_Site_good_3 x2 x3 x4 x5)⟩] (by kernel_rfl)
end Go.Ws

namespace Go.Ws
open Go.Proofs
set_option linter.unusedSimpArgs false
set_option linter.unusedVariables false
set_option maxRecDepth 1000000
set_option maxHeartbeats 4000000
noncomputable def X20 (x2 : Ty11) (x3 : Ty8) (x4 : Ty2) (x5 : Ty7) : Ctx := ⟨Try.f20, [(.row [(.sl 2 (List.map e_u8_i64 x2)), (.sl 3 (List.map e_u8_i64_b x3)), (.mp 1), (.ref 4 2 0 0 x5.length .virt)]), (.map (encM .i64 (fun y => AV.agg (e_i64_Lu8i64E_b_i64 y)) x4) x4.length), (.arr 4 (List.map e_i64_i64_u8_i64 x5) 0 0 false)], false⟩
theorem ok_site_Site_Get (k : Nat) (x1 : Int) (x2 : Ty11) (x3 : Ty8) (x4 : Ty2) (x5 : Ty7) (r : Int) (h : site_Site_Get k x1 x2 x3 x4 x5 = some r) : Tri Try.prog 20 [(.hp 0 0), (.int .u8 x1)] [(.row [(.sl 2 (List.map e_u8_i64 x2)), (.sl 3 (List.map e_u8_i64_b x3)), (.mp 1), (.ref 4 2 0 0 x5.length .virt)]), (.map (encM .i64 (fun y => AV.agg (e_i64_Lu8i64E_b_i64 y)) x4) x4.length), (.arr 4 (List.map e_i64_i64_u8_i64 x5) 0 0 false)] (.int .i64 r) [(.row [(.sl 2 (List.map e_u8_i64 x2)), (.sl 3 (List.map e_u8_i64_b x3)), (.mp 1), (.ref 4 2 0 0 x5.length .virt)]), (.map (encM .i64 (fun y => AV.agg (e_i64_Lu8i64E_b_i64 y)) x4) x4.length), (.arr 4 (List.map e_i64_i64_u8_i64 x5) 0 0 false)] := by
    unfold site_Site_Get at h
    obtain ⟨x6, e0, h⟩ := Option.bind_eq_some_iff.1 h
    obtain rfl := Option.some.inj h
    exact Tri.of (x := (X20 x2 x3 x4 x5)) mixed facts20 [.call ⟨true, []⟩ (.bool (!false)) [(.row [(.sl 2 (List.map e_u8_i64 x2)), (.sl 3 (List.map e_u8_i64_b x3)), (.mp 1), (.ref 4 2 0 0 x5.length .virt)]), (.map (encM .i64 (fun y => AV.agg (e_i64_Lu8i64E_b_i64 y)) x4) x4.length), (.arr 4 (List.map e_i64_i64_u8_i64 x5) 0 0 false)], .d false, .call ⟨true, []⟩ (.int .i64 x6) [], .norm 0 ⟨[(4, [])], [], false, [], []⟩] [⟨(ok_ledger_Get k x2 x1 _ e0)⟩, ⟨(nF (nT rfl))⟩, ⟨(ok_site_Site_good_3 x2 x3 x4 x5)⟩] (by kernel_rfl)
end Go.Ws

namespace Go.Ws
open Go.Proofs
set_option linter.unusedSimpArgs false
set_option linter.unusedVariables false
set_option maxRecDepth 1000000
set_option maxHeartbeats 4000000
noncomputable def X32_1001 : Ctx := ⟨Try.f32, [], false⟩
theorem ok_slices_Clone_32_1001 (k : Nat) (x1 : Ty7) (r : Unit) (h : slices_Clone_32_1001 k x1 = some r) : Tri Try.prog 32 [(.inl 4 (List.map e_i64_i64_u8_i64 x1))] [] (.ref 4 0 0 0 x1.length .virt) [(.arr 4 (List.map e_i64_i64_u8_i64 x1) 0 0 false)] := by
    unfold slices_Clone_32_1001 at h
    by_cases c0 : roomI (x1.length * 32) = true
    · rw [if_pos c0] at h
      obtain rfl := Option.some.inj h
      exact Tri.of (x := X32_1001) mixed facts32 [.d false, .n x1.length, .norm 0 ⟨[(2, [])], [⟨.tmp 2, [], some 4⟩], false, [], []⟩, .n x1.length, .rows (List.map e_i64_i64_u8_i64 x1)] [⟨(take_all e_i64_i64_u8_i64 (l := x1) (n := x1.length) rfl)⟩, ⟨(rfl : x1.length = x1.length)⟩, ⟨(zle x1.length)⟩, ⟨c0⟩, ⟨(len_map e_i64_i64_u8_i64 x1)⟩, ⟨(rfl : false = false)⟩] (by kernel_rfl)
    · rw [if_neg c0] at h
      replace c0 := eqf c0
      cases h
end Go.Ws

namespace Go.Ws
open Go.Proofs
set_option linter.unusedSimpArgs false
set_option linter.unusedVariables false
set_option maxRecDepth 1000000
set_option maxHeartbeats 4000000
noncomputable def X32_1002 : Ctx := ⟨Try.f32, [], false⟩
theorem ok_slices_Clone_32_1002 : Tri Try.prog 32 [.nils] [] (.ref 4 0 0 0 0 .virt) [(.arr 4 (List.map e_i64_i64_u8_i64 []) 0 0 false)] := by
    obtain ⟨r, h⟩ : ∃ r, slices_Clone_32_1002 = r := ⟨_, rfl⟩
    try rw [h]
    unfold slices_Clone_32_1002 at h
    obtain rfl := h
    exact Tri.of (x := X32_1002) mixed facts32 [.d true, .norm 0 ⟨[(2, [])], [⟨.tmp 2, [], some 4⟩], false, [], []⟩, .n 0, .rows (List.map e_i64_i64_u8_i64 [])] [⟨(take_all e_i64_i64_u8_i64 (l := []) (n := 0) rfl)⟩, ⟨(rfl : 0 = 0)⟩, ⟨(zle 0)⟩, ⟨(rfl : true = true)⟩] (by kernel_rfl)
end Go.Ws

namespace Go.Ws
open Go.Proofs
set_option linter.unusedSimpArgs false
set_option linter.unusedVariables false
set_option maxRecDepth 1000000
set_option maxHeartbeats 4000000
theorem ok_slices_Clone_32 (k : Nat) (x1 : Ty7) (r : Unit) (h : slices_Clone_32 k x1 = some r) : Tri Try.prog 32 [(.sl 4 (List.map e_i64_i64_u8_i64 x1))] [] (.ref 4 0 0 0 x1.length .virt) [(.arr 4 (List.map e_i64_i64_u8_i64 x1) 0 0 false)] := by
    refine Tri.slOf (ok_slices_Clone_32_1001 k x1 r h) fun h0 => ?_
    have hx : x1 = [] := by simpa using h0
    subst hx
    exact ok_slices_Clone_32_1002
end Go.Ws

namespace Go.Ws
open Go.Proofs
set_option linter.unusedSimpArgs false
set_option linter.unusedVariables false
set_option maxRecDepth 1000000
set_option maxHeartbeats 4000000
noncomputable def X21 (x1 : Ty11) (x2 : Ty8) (x3 : Ty2) (x4 : Ty7) : Ctx := ⟨Try.f21, [(.row [(.sl 2 (List.map e_u8_i64 x1)), (.sl 3 (List.map e_u8_i64_b x2)), (.mp 1), (.ref 4 2 0 0 x4.length .virt)]), (.map (encM .i64 (fun y => AV.agg (e_i64_Lu8i64E_b_i64 y)) x3) x3.length), (.arr 4 (List.map e_i64_i64_u8_i64 x4) 0 0 false)], false⟩
theorem ok_site_Site_Log (k : Nat) (x1 : Ty11) (x2 : Ty8) (x3 : Ty2) (x4 : Ty7) (r : Unit) (h : site_Site_Log k x1 x2 x3 x4 = some r) : Tri Try.prog 21 [(.hp 0 0)] [(.row [(.sl 2 (List.map e_u8_i64 x1)), (.sl 3 (List.map e_u8_i64_b x2)), (.mp 1), (.ref 4 2 0 0 x4.length .virt)]), (.map (encM .i64 (fun y => AV.agg (e_i64_Lu8i64E_b_i64 y)) x3) x3.length), (.arr 4 (List.map e_i64_i64_u8_i64 x4) 0 0 false)] (.ref 4 3 0 0 x4.length .virt) [(.row [(.sl 2 (List.map e_u8_i64 x1)), (.sl 3 (List.map e_u8_i64_b x2)), (.mp 1), (.ref 4 2 0 0 x4.length .virt)]), (.map (encM .i64 (fun y => AV.agg (e_i64_Lu8i64E_b_i64 y)) x3) x3.length), (.arr 4 (List.map e_i64_i64_u8_i64 x4) 0 0 true), (.arr 4 (List.map e_i64_i64_u8_i64 x4) 0 0 false)] := by
    unfold site_Site_Log at h
    obtain ⟨x5, e0, h⟩ := Option.bind_eq_some_iff.1 h
    obtain rfl := Option.some.inj h
    exact Tri.of (x := (X21 x1 x2 x3 x4)) mixed facts21 [.call ⟨true, []⟩ (.bool (!false)) [(.row [(.sl 2 (List.map e_u8_i64 x1)), (.sl 3 (List.map e_u8_i64_b x2)), (.mp 1), (.ref 4 2 0 0 x4.length .virt)]), (.map (encM .i64 (fun y => AV.agg (e_i64_Lu8i64E_b_i64 y)) x3) x3.length), (.arr 4 (List.map e_i64_i64_u8_i64 x4) 0 0 false)], .d false, .call ⟨true, []⟩ (.ref 4 0 0 0 x4.length .virt) [(.arr 4 (List.map e_i64_i64_u8_i64 x4) 0 0 false)], .rows (List.map e_i64_i64_u8_i64 x4), .norm 0 ⟨[(2, [])], [⟨.tmp 2, [], none⟩], false, [], []⟩] [⟨(ok_slices_Clone_32 k x4 _ e0)⟩, ⟨(part_all e_i64_i64_u8_i64 (l := x4) (n := x4.length) rfl)⟩, ⟨(le_map e_i64_i64_u8_i64 (Nat.le_refl x4.length) : 0 + x4.length ≤ (List.map e_i64_i64_u8_i64 x4).length)⟩, ⟨(nF (nT rfl))⟩, ⟨(ok_site_Site_good_3 x1 x2 x3 x4)⟩] (by kernel_rfl)
end Go.Ws

namespace Go.Ws
open Go.Proofs
set_option linter.unusedSimpArgs false
set_option linter.unusedVariables false
set_option maxRecDepth 1000000
set_option maxHeartbeats 4000000
noncomputable def X12 : Ctx := ⟨Try.f12, [], true⟩
noncomputable def L12_0 : Code := at_ Try.f12 [1, 1, 1, 0, 1, 4, 5]
def S12_0 (v12001_1 : Int) (v12001_2 : Ty11) (v12001_3 : Ty8) (v12001_4 : Ty2) (v12001_5 : Ty7) : St := ⟨mkT 73 [(1, (.hp 0 0)), (27, (.ref 6 1 0 0 8 .full)), (28, (.int .i64 8)), (29, (.int .i64 v12001_1))], [(.row [(.sl 2 (List.map e_u8_i64 v12001_2)), (.sl 3 (List.map e_u8_i64_b v12001_3)), (.mp 2), (.ref 4 3 0 0 v12001_5.length .virt)]), (.arr 6 (List.map e_i64_i64_u8_i64_i64_i64 [(1, 1, 0, 0, 0, 0), (3, 1, 3, 5, 0, 0), (1, 2, 0, 0, 0, 0), (2, 2, 3, 0, 0, 9), (4, 1, 0, 1, 0, 0), (5, 1, 0, 0, 0, 0), (2, 2, 3, 0, 5, 0), (6, 1, 0, 2, 0, 0)]) 0 0 false), (.map (encM .i64 (fun y => AV.agg (e_i64_Lu8i64E_b_i64 y)) v12001_4) v12001_4.length), (.arr 4 (List.map e_i64_i64_u8_i64 v12001_5) 0 0 false)]⟩
def E12_0_0 (v12002_1 : Ty11) (v12002_2 : Ty8) (v12002_3 : Ty2) (v12002_4 : Ty7) : St := ⟨mkT 73 [(1, (.hp 0 0))], [(.row [(.sl 2 (List.map e_u8_i64 v12002_1)), (.sl 3 (List.map e_u8_i64_b v12002_2)), (.mp 1), (.ref 4 2 0 0 v12002_4.length .virt)]), (.map (encM .i64 (fun y => AV.agg (e_i64_Lu8i64E_b_i64 y)) v12002_3) v12002_3.length), (.arr 4 (List.map e_i64_i64_u8_i64 v12002_4) 0 0 false)]⟩
def O12_0 (y : (Sum (Ty11 × Ty8 × Ty2 × Ty7) (Bool))) : GX := match y with
  | .inl y => .st (.exit 0) (E12_0_0 y.1 y.2.1 y.2.2.1 y.2.2.2)
  | .inr y => .fin (.bool y) []
theorem ok_law10_alive_l0 (y : (Sum (Ty11 × Ty8 × Ty2 × Ty7) (Bool))) : ∀ (k : Nat) (v12001_1 : Int) (v12001_2 : Ty11) (v12001_3 : Ty8) (v12001_4 : Ty2) (v12001_5 : Ty7), law10_alive_l0 k v12001_1 v12001_2 v12001_3 v12001_4 v12001_5 = some y → LT Try.prog X12 L12_0 (S12_0 v12001_1 v12001_2 v12001_3 v12001_4 v12001_5) (O12_0 y)
  | 0, v12001_1, v12001_2, v12001_3, v12001_4, v12001_5, h => by cases h
  | k + 1, v12001_1, v12001_2, v12001_3, v12001_4, v12001_5, h => by
    rw [law10_alive_l0] at h
    by_cases cL0 : ltI v12001_1 8 = true
    · rw [if_pos cL0] at h
      by_cases cL1 : inI v12001_1 8 = true
      · rw [if_pos cL1] at h
        obtain ⟨v12000_1, eL2, h⟩ := Option.bind_eq_some_iff.1 h
        obtain ⟨v12000_2, eL3, h⟩ := Option.bind_eq_some_iff.1 h
        by_cases cL4 : eqI v12000_2.2.1 v12000_1.2.2.2.2.1 = true
        · rw [if_pos cL4] at h
          by_cases cL5 : eqI v12000_2.1 v12000_1.2.2.2.2.2 = true
          · rw [if_pos cL5] at h
            exact LT.next mixed (hs := ⟨[(1, []), (27, []), (28, []), (29, [])], [⟨.tmp 1, [], none⟩, ⟨.tmp 27, [], none⟩, ⟨.cell 0 2, [], none⟩, ⟨.cell 0 3, [], some 4⟩], false, [], []⟩) (es := none) [.d true, .row [(.int .i64 v12000_1.1), (.int .i64 v12000_1.2.1), (.int .u8 v12000_1.2.2.1), (.int .i64 v12000_1.2.2.2.1), (.int .i64 v12000_1.2.2.2.2.1), (.int .i64 v12000_1.2.2.2.2.2)], .call ⟨true, []⟩ (.tup [(.int .i64 v12000_2.2.1), (.int .i64 v12000_2.1)]) [(.row [(.sl 2 (List.map e_u8_i64 v12000_2.2.2.1)), (.sl 3 (List.map e_u8_i64_b v12000_2.2.2.2.1)), (.mp 1), (.ref 4 2 1 0 v12000_2.2.2.2.2.2.length .virt)]), (.map (encM .i64 (fun y => AV.agg (e_i64_Lu8i64E_b_i64 y)) v12000_2.2.2.2.2.1) v12000_2.2.2.2.2.1.length), (.arr 4 (List.map e_i64_i64_u8_i64 v12000_2.2.2.2.2.2) 1 1 false)], .d false, .d false, .d false, .d false, .d false, .d false, .n v12000_2.2.2.2.2.2.length, .rows (List.map e_i64_i64_u8_i64 v12000_2.2.2.2.2.2)] [⟨(take_all e_i64_i64_u8_i64 (l := v12000_2.2.2.2.2.2) (n := v12000_2.2.2.2.2.2.length) rfl)⟩, ⟨(rfl : v12000_2.2.2.2.2.2.length = v12000_2.2.2.2.2.2.length)⟩, ⟨(zle v12000_2.2.2.2.2.2.length)⟩, ⟨(nF cL5)⟩, ⟨(nF cL4)⟩, ⟨(nF cL4)⟩, ⟨(nF cL4)⟩, ⟨(nF cL4)⟩, ⟨(nF cL4)⟩, ⟨(ok_site_Site_Do_3 k v12000_1.1 v12000_1.2.1 v12000_1.2.2.1 v12000_1.2.2.2.1 v12001_2 v12001_3 v12001_4 v12001_5 _ eL3)⟩, ⟨(cells_map (e := e_i64_i64_u8_i64_i64_i64) eL2 6 0 6 (by decide))⟩, ⟨cL1⟩, ⟨cL0⟩] (by kernel_rfl) (ok_law10_alive_l0 y k (iadd .i64 v12001_1 1) v12000_2.2.2.1 v12000_2.2.2.2.1 v12000_2.2.2.2.2.1 v12000_2.2.2.2.2.2 h)
          · rw [if_neg cL5] at h
            replace cL5 := eqf cL5
            obtain rfl := Option.some.inj h
            show LT _ _ _ _ (.fin (.bool false) [])
            exact LT.done mixed (hs := ⟨[], [], false, [], []⟩) (es := none) [.d true, .row [(.int .i64 v12000_1.1), (.int .i64 v12000_1.2.1), (.int .u8 v12000_1.2.2.1), (.int .i64 v12000_1.2.2.2.1), (.int .i64 v12000_1.2.2.2.2.1), (.int .i64 v12000_1.2.2.2.2.2)], .call ⟨true, []⟩ (.tup [(.int .i64 v12000_2.2.1), (.int .i64 v12000_2.1)]) [(.row [(.sl 2 (List.map e_u8_i64 v12000_2.2.2.1)), (.sl 3 (List.map e_u8_i64_b v12000_2.2.2.2.1)), (.mp 1), (.ref 4 2 1 0 v12000_2.2.2.2.2.2.length .virt)]), (.map (encM .i64 (fun y => AV.agg (e_i64_Lu8i64E_b_i64 y)) v12000_2.2.2.2.2.1) v12000_2.2.2.2.2.1.length), (.arr 4 (List.map e_i64_i64_u8_i64 v12000_2.2.2.2.2.2) 1 1 false)], .d false, .d false, .d false, .d false, .d false, .d true] [⟨(nT cL5)⟩, ⟨(nF cL4)⟩, ⟨(nF cL4)⟩, ⟨(nF cL4)⟩, ⟨(nF cL4)⟩, ⟨(nF cL4)⟩, ⟨(ok_site_Site_Do_3 k v12000_1.1 v12000_1.2.1 v12000_1.2.2.1 v12000_1.2.2.2.1 v12001_2 v12001_3 v12001_4 v12001_5 _ eL3)⟩, ⟨(cells_map (e := e_i64_i64_u8_i64_i64_i64) eL2 6 0 6 (by decide))⟩, ⟨cL1⟩, ⟨cL0⟩] (by kernel_rfl) (fun s h => by cases h)
        · rw [if_neg cL4] at h
          replace cL4 := eqf cL4
          obtain rfl := Option.some.inj h
          show LT _ _ _ _ (.fin (.bool false) [])
          exact LT.done mixed (hs := ⟨[], [], false, [], []⟩) (es := none) [.d true, .row [(.int .i64 v12000_1.1), (.int .i64 v12000_1.2.1), (.int .u8 v12000_1.2.2.1), (.int .i64 v12000_1.2.2.2.1), (.int .i64 v12000_1.2.2.2.2.1), (.int .i64 v12000_1.2.2.2.2.2)], .call ⟨true, []⟩ (.tup [(.int .i64 v12000_2.2.1), (.int .i64 v12000_2.1)]) [(.row [(.sl 2 (List.map e_u8_i64 v12000_2.2.2.1)), (.sl 3 (List.map e_u8_i64_b v12000_2.2.2.2.1)), (.mp 1), (.ref 4 2 1 0 v12000_2.2.2.2.2.2.length .virt)]), (.map (encM .i64 (fun y => AV.agg (e_i64_Lu8i64E_b_i64 y)) v12000_2.2.2.2.2.1) v12000_2.2.2.2.2.1.length), (.arr 4 (List.map e_i64_i64_u8_i64 v12000_2.2.2.2.2.2) 1 1 false)], .d true, .d true, .d true, .d true, .d true, .d true] [⟨(rfl : true = true)⟩, ⟨(nT cL4)⟩, ⟨(nT cL4)⟩, ⟨(nT cL4)⟩, ⟨(nT cL4)⟩, ⟨(nT cL4)⟩, ⟨(ok_site_Site_Do_3 k v12000_1.1 v12000_1.2.1 v12000_1.2.2.1 v12000_1.2.2.2.1 v12001_2 v12001_3 v12001_4 v12001_5 _ eL3)⟩, ⟨(cells_map (e := e_i64_i64_u8_i64_i64_i64) eL2 6 0 6 (by decide))⟩, ⟨cL1⟩, ⟨cL0⟩] (by kernel_rfl) (fun s h => by cases h)
      · rw [if_neg cL1] at h
        replace cL1 := eqf cL1
        cases h
    · rw [if_neg cL0] at h
      replace cL0 := eqf cL0
      obtain rfl := Option.some.inj h
      show LT _ _ _ _ (.st (.exit 0) (E12_0_0 v12001_2 v12001_3 v12001_4 v12001_5))
      exact LT.done mixed (hs := ⟨[], [], false, [], []⟩) (es := (some ⟨[(1, [])], [⟨.tmp 1, [], none⟩, ⟨.cell 0 2, [], none⟩, ⟨.cell 0 3, [], none⟩], false, [], []⟩)) [.d false] [⟨cL0⟩] (by kernel_rfl) (fun s h => by cases h)
theorem ok_law10_alive (k : Nat) (r : Bool) (h : law10_alive k = some r) : Tri Try.prog 12 [] [] (.bool r) [] := by
    unfold law10_alive at h
    obtain ⟨x1, e0, h⟩ := Option.bind_eq_some_iff.1 h
    cases x1 with
    | inl x2 =>
      simp only [Sum.elim_inl] at h
      obtain ⟨x3, e2, h⟩ := Option.bind_eq_some_iff.1 h
      obtain ⟨x4, e3, h⟩ := Option.bind_eq_some_iff.1 h
      by_cases c4 : eqI x4 0 = true
      · rw [if_pos c4] at h
        by_cases c5 : x3.2.2.2.2 = true
        · rw [if_pos c5] at h
          by_cases c6 : eqI x3.1 3 = true
          · rw [if_pos c6] at h
            obtain ⟨x5, e7, h⟩ := Option.bind_eq_some_iff.1 h
            obtain rfl := Option.some.inj h
            exact Tri.of (x := X12) mixed facts12 [.call ⟨true, []⟩ (.hp 0 0) [(.row [.nils, .nils, (.mp 1), .nils]), (.map (encM .i64 (fun y => AV.agg (e_i64_Lu8i64E_b_i64 y)) ([] : Ty2)) ([] : Ty2).length)], .d false, .norm 2 ⟨[(1, []), (27, []), (28, []), (29, [])], [⟨.tmp 1, [(0, 2), (1, 3)], none⟩, ⟨.tmp 27, [], none⟩, ⟨.cell 0 2, [], none⟩, ⟨.cell 0 3, [], some 4⟩], false, [], []⟩, .n 0, .rows (List.map e_i64_i64_u8_i64 []), .out (.st .normal (E12_0_0 x2.1 x2.2.1 x2.2.2.1 x2.2.2.2)), .call ⟨true, []⟩ (.tup [(.agg [(.int .i64 x3.1), (.ref 2 3 0 0 x3.2.2.2.1.length .virt), (.bool x3.2.1), (.int .i64 x3.2.2.1)]), (.bool x3.2.2.2.2)]) [(.row [(.sl 2 (List.map e_u8_i64 x2.1)), (.sl 3 (List.map e_u8_i64_b x2.2.1)), (.mp 1), (.ref 4 2 0 0 x2.2.2.2.length .virt)]), (.map (encM .i64 (fun y => AV.agg (e_i64_Lu8i64E_b_i64 y)) x2.2.2.1) x2.2.2.1.length), (.arr 4 (List.map e_i64_i64_u8_i64 x2.2.2.2) 0 0 false), (.arr 2 (List.map e_u8_i64 x3.2.2.2.1) 0 0 false)], .call ⟨true, []⟩ (.int .i64 x4) [(.row [(.sl 2 (List.map e_u8_i64 x2.1)), (.sl 3 (List.map e_u8_i64_b x2.2.1)), (.mp 1), (.ref 4 2 0 0 x2.2.2.2.length .virt)]), (.map (encM .i64 (fun y => AV.agg (e_i64_Lu8i64E_b_i64 y)) x2.2.2.1) x2.2.2.1.length), (.arr 4 (List.map e_i64_i64_u8_i64 x2.2.2.2) 0 0 false)], .d true, .d true, .d true, .d true, .d true, .d true, .d true, .d true, .call ⟨true, []⟩ (.ref 4 3 0 0 x2.2.2.2.length .virt) [(.row [(.sl 2 (List.map e_u8_i64 x2.1)), (.sl 3 (List.map e_u8_i64_b x2.2.1)), (.mp 1), (.ref 4 2 0 0 x2.2.2.2.length .virt)]), (.map (encM .i64 (fun y => AV.agg (e_i64_Lu8i64E_b_i64 y)) x2.2.2.1) x2.2.2.1.length), (.arr 4 (List.map e_i64_i64_u8_i64 x2.2.2.2) 0 0 true), (.arr 4 (List.map e_i64_i64_u8_i64 x2.2.2.2) 0 0 false)], .d true, .d true, .d true] [⟨c6⟩, ⟨c6⟩, ⟨c6⟩, ⟨(ok_site_Site_Log k x2.1 x2.2.1 x2.2.2.1 x2.2.2.2 _ e7)⟩, ⟨c6⟩, ⟨c6⟩, ⟨c5⟩, ⟨c5⟩, ⟨c5⟩, ⟨c5⟩, ⟨c4⟩, ⟨c4⟩, ⟨(ok_site_Site_Get k 3 x2.1 x2.2.1 x2.2.2.1 x2.2.2.2 _ e3)⟩, ⟨(ok_site_Site_Part k 1 x2.1 x2.2.1 x2.2.2.1 x2.2.2.2 _ e2)⟩, ⟨(LT.block (ok_law10_alive_l0 _ k 0 [] [] ([] : Ty2) [] e0))⟩, ⟨(take_all e_i64_i64_u8_i64 (l := []) (n := 0) rfl)⟩, ⟨(rfl : 0 = 0)⟩, ⟨(zle 0)⟩, ⟨(rfl : false = false)⟩, ⟨(ok_site_New)⟩] (by kernel_rfl)
          · rw [if_neg c6] at h
            replace c6 := eqf c6
            obtain rfl := Option.some.inj h
            exact Tri.of (x := X12) mixed facts12 [.call ⟨true, []⟩ (.hp 0 0) [(.row [.nils, .nils, (.mp 1), .nils]), (.map (encM .i64 (fun y => AV.agg (e_i64_Lu8i64E_b_i64 y)) ([] : Ty2)) ([] : Ty2).length)], .d false, .norm 2 ⟨[(1, []), (27, []), (28, []), (29, [])], [⟨.tmp 1, [(0, 2), (1, 3)], none⟩, ⟨.tmp 27, [], none⟩, ⟨.cell 0 2, [], none⟩, ⟨.cell 0 3, [], some 4⟩], false, [], []⟩, .n 0, .rows (List.map e_i64_i64_u8_i64 []), .out (.st .normal (E12_0_0 x2.1 x2.2.1 x2.2.2.1 x2.2.2.2)), .call ⟨true, []⟩ (.tup [(.agg [(.int .i64 x3.1), (.ref 2 3 0 0 x3.2.2.2.1.length .virt), (.bool x3.2.1), (.int .i64 x3.2.2.1)]), (.bool x3.2.2.2.2)]) [(.row [(.sl 2 (List.map e_u8_i64 x2.1)), (.sl 3 (List.map e_u8_i64_b x2.2.1)), (.mp 1), (.ref 4 2 0 0 x2.2.2.2.length .virt)]), (.map (encM .i64 (fun y => AV.agg (e_i64_Lu8i64E_b_i64 y)) x2.2.2.1) x2.2.2.1.length), (.arr 4 (List.map e_i64_i64_u8_i64 x2.2.2.2) 0 0 false), (.arr 2 (List.map e_u8_i64 x3.2.2.2.1) 0 0 false)], .call ⟨true, []⟩ (.int .i64 x4) [(.row [(.sl 2 (List.map e_u8_i64 x2.1)), (.sl 3 (List.map e_u8_i64_b x2.2.1)), (.mp 1), (.ref 4 2 0 0 x2.2.2.2.length .virt)]), (.map (encM .i64 (fun y => AV.agg (e_i64_Lu8i64E_b_i64 y)) x2.2.2.1) x2.2.2.1.length), (.arr 4 (List.map e_i64_i64_u8_i64 x2.2.2.2) 0 0 false)], .d true, .d true, .d true, .d true, .d true, .d true, .d false, .d false, .d false, .d false, .d false] [⟨c6⟩, ⟨c6⟩, ⟨c6⟩, ⟨c6⟩, ⟨c6⟩, ⟨c5⟩, ⟨c5⟩, ⟨c5⟩, ⟨c5⟩, ⟨c4⟩, ⟨c4⟩, ⟨(ok_site_Site_Get k 3 x2.1 x2.2.1 x2.2.2.1 x2.2.2.2 _ e3)⟩, ⟨(ok_site_Site_Part k 1 x2.1 x2.2.1 x2.2.2.1 x2.2.2.2 _ e2)⟩, ⟨(LT.block (ok_law10_alive_l0 _ k 0 [] [] ([] : Ty2) [] e0))⟩, ⟨(take_all e_i64_i64_u8_i64 (l := []) (n := 0) rfl)⟩, ⟨(rfl : 0 = 0)⟩, ⟨(zle 0)⟩, ⟨(rfl : false = false)⟩, ⟨(ok_site_New)⟩] (by kernel_rfl)
        · rw [if_neg c5] at h
          replace c5 := eqf c5
          obtain rfl := Option.some.inj h
          exact Tri.of (x := X12) mixed facts12 [.call ⟨true, []⟩ (.hp 0 0) [(.row [.nils, .nils, (.mp 1), .nils]), (.map (encM .i64 (fun y => AV.agg (e_i64_Lu8i64E_b_i64 y)) ([] : Ty2)) ([] : Ty2).length)], .d false, .norm 2 ⟨[(1, []), (27, []), (28, []), (29, [])], [⟨.tmp 1, [(0, 2), (1, 3)], none⟩, ⟨.tmp 27, [], none⟩, ⟨.cell 0 2, [], none⟩, ⟨.cell 0 3, [], some 4⟩], false, [], []⟩, .n 0, .rows (List.map e_i64_i64_u8_i64 []), .out (.st .normal (E12_0_0 x2.1 x2.2.1 x2.2.2.1 x2.2.2.2)), .call ⟨true, []⟩ (.tup [(.agg [(.int .i64 x3.1), (.ref 2 3 0 0 x3.2.2.2.1.length .virt), (.bool x3.2.1), (.int .i64 x3.2.2.1)]), (.bool x3.2.2.2.2)]) [(.row [(.sl 2 (List.map e_u8_i64 x2.1)), (.sl 3 (List.map e_u8_i64_b x2.2.1)), (.mp 1), (.ref 4 2 0 0 x2.2.2.2.length .virt)]), (.map (encM .i64 (fun y => AV.agg (e_i64_Lu8i64E_b_i64 y)) x2.2.2.1) x2.2.2.1.length), (.arr 4 (List.map e_i64_i64_u8_i64 x2.2.2.2) 0 0 false), (.arr 2 (List.map e_u8_i64 x3.2.2.2.1) 0 0 false)], .call ⟨true, []⟩ (.int .i64 x4) [(.row [(.sl 2 (List.map e_u8_i64 x2.1)), (.sl 3 (List.map e_u8_i64_b x2.2.1)), (.mp 1), (.ref 4 2 0 0 x2.2.2.2.length .virt)]), (.map (encM .i64 (fun y => AV.agg (e_i64_Lu8i64E_b_i64 y)) x2.2.2.1) x2.2.2.1.length), (.arr 4 (List.map e_i64_i64_u8_i64 x2.2.2.2) 0 0 false)], .d true, .d true, .d false, .d false, .d false, .d false, .d false, .d false, .d false, .d false, .d false] [⟨(rfl : false = false)⟩, ⟨(rfl : false = false)⟩, ⟨(rfl : false = false)⟩, ⟨(rfl : false = false)⟩, ⟨(rfl : false = false)⟩, ⟨c5⟩, ⟨c5⟩, ⟨c5⟩, ⟨c5⟩, ⟨c4⟩, ⟨c4⟩, ⟨(ok_site_Site_Get k 3 x2.1 x2.2.1 x2.2.2.1 x2.2.2.2 _ e3)⟩, ⟨(ok_site_Site_Part k 1 x2.1 x2.2.1 x2.2.2.1 x2.2.2.2 _ e2)⟩, ⟨(LT.block (ok_law10_alive_l0 _ k 0 [] [] ([] : Ty2) [] e0))⟩, ⟨(take_all e_i64_i64_u8_i64 (l := []) (n := 0) rfl)⟩, ⟨(rfl : 0 = 0)⟩, ⟨(zle 0)⟩, ⟨(rfl : false = false)⟩, ⟨(ok_site_New)⟩] (by kernel_rfl)
      · rw [if_neg c4] at h
        replace c4 := eqf c4
        obtain rfl := Option.some.inj h
        exact Tri.of (x := X12) mixed facts12 [.call ⟨true, []⟩ (.hp 0 0) [(.row [.nils, .nils, (.mp 1), .nils]), (.map (encM .i64 (fun y => AV.agg (e_i64_Lu8i64E_b_i64 y)) ([] : Ty2)) ([] : Ty2).length)], .d false, .norm 2 ⟨[(1, []), (27, []), (28, []), (29, [])], [⟨.tmp 1, [(0, 2), (1, 3)], none⟩, ⟨.tmp 27, [], none⟩, ⟨.cell 0 2, [], none⟩, ⟨.cell 0 3, [], some 4⟩], false, [], []⟩, .n 0, .rows (List.map e_i64_i64_u8_i64 []), .out (.st .normal (E12_0_0 x2.1 x2.2.1 x2.2.2.1 x2.2.2.2)), .call ⟨true, []⟩ (.tup [(.agg [(.int .i64 x3.1), (.ref 2 3 0 0 x3.2.2.2.1.length .virt), (.bool x3.2.1), (.int .i64 x3.2.2.1)]), (.bool x3.2.2.2.2)]) [(.row [(.sl 2 (List.map e_u8_i64 x2.1)), (.sl 3 (List.map e_u8_i64_b x2.2.1)), (.mp 1), (.ref 4 2 0 0 x2.2.2.2.length .virt)]), (.map (encM .i64 (fun y => AV.agg (e_i64_Lu8i64E_b_i64 y)) x2.2.2.1) x2.2.2.1.length), (.arr 4 (List.map e_i64_i64_u8_i64 x2.2.2.2) 0 0 false), (.arr 2 (List.map e_u8_i64 x3.2.2.2.1) 0 0 false)], .call ⟨true, []⟩ (.int .i64 x4) [(.row [(.sl 2 (List.map e_u8_i64 x2.1)), (.sl 3 (List.map e_u8_i64_b x2.2.1)), (.mp 1), (.ref 4 2 0 0 x2.2.2.2.length .virt)]), (.map (encM .i64 (fun y => AV.agg (e_i64_Lu8i64E_b_i64 y)) x2.2.2.1) x2.2.2.1.length), (.arr 4 (List.map e_i64_i64_u8_i64 x2.2.2.2) 0 0 false)], .d false, .d false, .d false, .d false, .d false, .d false, .d false, .d false, .d false, .d false, .d false] [⟨(rfl : false = false)⟩, ⟨(rfl : false = false)⟩, ⟨(rfl : false = false)⟩, ⟨(rfl : false = false)⟩, ⟨(rfl : false = false)⟩, ⟨(rfl : false = false)⟩, ⟨(rfl : false = false)⟩, ⟨(rfl : false = false)⟩, ⟨(rfl : false = false)⟩, ⟨c4⟩, ⟨c4⟩, ⟨(ok_site_Site_Get k 3 x2.1 x2.2.1 x2.2.2.1 x2.2.2.2 _ e3)⟩, ⟨(ok_site_Site_Part k 1 x2.1 x2.2.1 x2.2.2.1 x2.2.2.2 _ e2)⟩, ⟨(LT.block (ok_law10_alive_l0 _ k 0 [] [] ([] : Ty2) [] e0))⟩, ⟨(take_all e_i64_i64_u8_i64 (l := []) (n := 0) rfl)⟩, ⟨(rfl : 0 = 0)⟩, ⟨(zle 0)⟩, ⟨(rfl : false = false)⟩, ⟨(ok_site_New)⟩] (by kernel_rfl)
    | inr x2 =>
      simp only [Sum.elim_inr] at h
      obtain rfl := Option.some.inj h
      exact Tri.of (x := X12) mixed facts12 [.call ⟨true, []⟩ (.hp 0 0) [(.row [.nils, .nils, (.mp 1), .nils]), (.map (encM .i64 (fun y => AV.agg (e_i64_Lu8i64E_b_i64 y)) ([] : Ty2)) ([] : Ty2).length)], .d false, .norm 2 ⟨[(1, []), (27, []), (28, []), (29, [])], [⟨.tmp 1, [(0, 2), (1, 3)], none⟩, ⟨.tmp 27, [], none⟩, ⟨.cell 0 2, [], none⟩, ⟨.cell 0 3, [], some 4⟩], false, [], []⟩, .n 0, .rows (List.map e_i64_i64_u8_i64 []), .out (.fin (.bool x2) [])] [⟨(LT.blockFin (id := 0) (ok_law10_alive_l0 _ k 0 [] [] ([] : Ty2) [] e0))⟩, ⟨(take_all e_i64_i64_u8_i64 (l := []) (n := 0) rfl)⟩, ⟨(rfl : 0 = 0)⟩, ⟨(zle 0)⟩, ⟨(rfl : false = false)⟩, ⟨(ok_site_New)⟩] (by kernel_rfl)
end Go.Ws

namespace Go.Ws
open Go.Proofs
set_option linter.unusedSimpArgs false
set_option linter.unusedVariables false
set_option maxRecDepth 1000000
set_option maxHeartbeats 4000000
noncomputable def X8 : Ctx := ⟨Try.f8, [], true⟩
noncomputable def L8_1 : Code := at_ Try.f8 [1, 1, 1, 1, 1, 1, 1, 1, 0, 1, 4, 5]
def S8_1 (x4 : Ty11 × Ty8 × Ty7 × Ty2 × Ty7) (v8011_1 : Int) : St := ⟨mkT 64 [(4, (.ref 4 0 0 0 x4.2.2.1.length .virt)), (9, (.ref 4 1 0 0 x4.2.2.2.2.length .virt)), (50, (.int .i64 (nI x4.2.2.2.2.length))), (51, (.int .i64 v8011_1))], [(.arr 4 (List.map e_i64_i64_u8_i64 x4.2.2.1) 0 0 false), (.arr 4 (List.map e_i64_i64_u8_i64 x4.2.2.2.2) 0 0 false)]⟩
def E8_1_2 : St := ⟨mkT 64 [], []⟩
def O8_1 (x4 : Ty11 × Ty8 × Ty7 × Ty2 × Ty7) (y : (Sum (Unit) (Bool))) : GX := match y with
  | .inl y => .st (.exit 2) (E8_1_2)
  | .inr y => .fin (.bool y) []
noncomputable def L8_0 : Code := at_ Try.f8 [1, 1, 1, 1, 1, 0, 1, 4, 5]
def S8_0 (x1 : Ty7) (v8001_1 : Int) (v8001_2 : Ty11) (v8001_3 : Ty8) (v8001_4 : Ty7) (v8001_5 : Ty2) (v8001_6 : Ty7) : St := ⟨mkT 64 [(0, (.sl 4 (List.map e_i64_i64_u8_i64 x1))), (3, (.hp 0 0)), (4, (.ref 4 1 0 0 v8001_4.length .virt)), (5, (.int .i64 v8001_1))], [(.row [(.sl 2 (List.map e_u8_i64 v8001_2)), (.sl 3 (List.map e_u8_i64_b v8001_3)), (.mp 2), (.ref 4 3 0 0 v8001_6.length .virt)]), (.arr 4 (List.map e_i64_i64_u8_i64 v8001_4) 0 0 false), (.map (encM .i64 (fun y => AV.agg (e_i64_Lu8i64E_b_i64 y)) v8001_5) v8001_5.length), (.arr 4 (List.map e_i64_i64_u8_i64 v8001_6) 0 0 false)]⟩
def E8_0_0 (v8002_1 : Ty11) (v8002_2 : Ty8) (v8002_3 : Ty7) (v8002_4 : Ty2) (v8002_5 : Ty7) : St := ⟨mkT 64 [(3, (.hp 0 0)), (4, (.ref 4 1 0 0 v8002_3.length .virt))], [(.row [(.sl 2 (List.map e_u8_i64 v8002_1)), (.sl 3 (List.map e_u8_i64_b v8002_2)), (.mp 2), (.ref 4 3 0 0 v8002_5.length .virt)]), (.arr 4 (List.map e_i64_i64_u8_i64 v8002_3) 0 0 false), (.map (encM .i64 (fun y => AV.agg (e_i64_Lu8i64E_b_i64 y)) v8002_4) v8002_4.length), (.arr 4 (List.map e_i64_i64_u8_i64 v8002_5) 0 0 false)]⟩
def O8_0 (x1 : Ty7) (y : (Ty11 × Ty8 × Ty7 × Ty2 × Ty7)) : GX := .st (.exit 0) (E8_0_0 y.1 y.2.1 y.2.2.1 y.2.2.2.1 y.2.2.2.2)
theorem ok_law10_SiteLogs_l1 (x4 : Ty11 × Ty8 × Ty7 × Ty2 × Ty7) (y : (Sum (Unit) (Bool))) : ∀ (k : Nat) (v8011_1 : Int), law10_SiteLogs_l1 k x4 v8011_1 = some y → LT Try.prog X8 L8_1 (S8_1 x4 v8011_1) (O8_1 x4 y)
  | 0, v8011_1, h => by cases h
  | k + 1, v8011_1, h => by
    rw [law10_SiteLogs_l1] at h
    by_cases cL0 : ltI v8011_1 (nI x4.2.2.2.2.length) = true
    · rw [if_pos cL0] at h
      by_cases cL1 : inI v8011_1 x4.2.2.2.2.length = true
      · rw [if_pos cL1] at h
        obtain ⟨v8010_1, eL2, h⟩ := Option.bind_eq_some_iff.1 h
        by_cases cL3 : inI v8011_1 x4.2.2.1.length = true
        · rw [if_pos cL3] at h
          obtain ⟨v8010_2, eL4, h⟩ := Option.bind_eq_some_iff.1 h
          by_cases cL5 : eqI v8010_1.1 v8010_2.1 = true
          · rw [if_pos cL5] at h
            by_cases cL6 : eqI v8010_1.2.1 v8010_2.2.1 = true
            · rw [if_pos cL6] at h
              by_cases cL7 : eqI v8010_1.2.2.1 v8010_2.2.2.1 = true
              · rw [if_pos cL7] at h
                by_cases cL8 : eqI v8010_1.2.2.2 v8010_2.2.2.2 = true
                · rw [if_pos cL8] at h
                  exact LT.next mixed (hs := ⟨[(4, []), (9, []), (50, []), (51, [])], [⟨.tmp 4, [], none⟩, ⟨.tmp 9, [], none⟩], false, [], []⟩) (es := none) [.d true, .row [(.int .i64 v8010_1.1), (.int .i64 v8010_1.2.1), (.int .u8 v8010_1.2.2.1), (.int .i64 v8010_1.2.2.2)], .row [(.int .i64 v8010_2.1), (.int .i64 v8010_2.2.1), (.int .u8 v8010_2.2.2.1), (.int .i64 v8010_2.2.2.2)], .d false] [⟨(nF (aT cL5 (aT cL6 (aT cL7 cL8))))⟩, ⟨(cells_map (e := e_i64_i64_u8_i64) eL4 4 0 4 (by decide))⟩, ⟨cL3⟩, ⟨(cells_map (e := e_i64_i64_u8_i64) eL2 4 0 4 (by decide))⟩, ⟨cL1⟩, ⟨cL0⟩] (by kernel_rfl) (ok_law10_SiteLogs_l1 x4 y k (iadd .i64 v8011_1 1) h)
                · rw [if_neg cL8] at h
                  replace cL8 := eqf cL8
                  obtain rfl := Option.some.inj h
                  show LT _ _ _ _ (.fin (.bool false) [])
                  exact LT.done mixed (hs := ⟨[], [], false, [], []⟩) (es := none) [.d true, .row [(.int .i64 v8010_1.1), (.int .i64 v8010_1.2.1), (.int .u8 v8010_1.2.2.1), (.int .i64 v8010_1.2.2.2)], .row [(.int .i64 v8010_2.1), (.int .i64 v8010_2.2.1), (.int .u8 v8010_2.2.2.1), (.int .i64 v8010_2.2.2.2)], .d true] [⟨(nT (aF2 cL5 (aF2 cL6 (aF2 cL7 cL8))))⟩, ⟨(cells_map (e := e_i64_i64_u8_i64) eL4 4 0 4 (by decide))⟩, ⟨cL3⟩, ⟨(cells_map (e := e_i64_i64_u8_i64) eL2 4 0 4 (by decide))⟩, ⟨cL1⟩, ⟨cL0⟩] (by kernel_rfl) (fun s h => by cases h)
              · rw [if_neg cL7] at h
                replace cL7 := eqf cL7
                obtain rfl := Option.some.inj h
                show LT _ _ _ _ (.fin (.bool false) [])
                exact LT.done mixed (hs := ⟨[], [], false, [], []⟩) (es := none) [.d true, .row [(.int .i64 v8010_1.1), (.int .i64 v8010_1.2.1), (.int .u8 v8010_1.2.2.1), (.int .i64 v8010_1.2.2.2)], .row [(.int .i64 v8010_2.1), (.int .i64 v8010_2.2.1), (.int .u8 v8010_2.2.2.1), (.int .i64 v8010_2.2.2.2)], .d true] [⟨(nT (aF2 cL5 (aF2 cL6 (aF1 (b := eqI v8010_1.2.2.2 v8010_2.2.2.2) cL7))))⟩, ⟨(cells_map (e := e_i64_i64_u8_i64) eL4 4 0 4 (by decide))⟩, ⟨cL3⟩, ⟨(cells_map (e := e_i64_i64_u8_i64) eL2 4 0 4 (by decide))⟩, ⟨cL1⟩, ⟨cL0⟩] (by kernel_rfl) (fun s h => by cases h)
            · rw [if_neg cL6] at h
              replace cL6 := eqf cL6
              obtain rfl := Option.some.inj h
              show LT _ _ _ _ (.fin (.bool false) [])
              exact LT.done mixed (hs := ⟨[], [], false, [], []⟩) (es := none) [.d true, .row [(.int .i64 v8010_1.1), (.int .i64 v8010_1.2.1), (.int .u8 v8010_1.2.2.1), (.int .i64 v8010_1.2.2.2)], .row [(.int .i64 v8010_2.1), (.int .i64 v8010_2.2.1), (.int .u8 v8010_2.2.2.1), (.int .i64 v8010_2.2.2.2)], .d true] [⟨(nT (aF2 cL5 (aF1 (b := (eqI v8010_1.2.2.1 v8010_2.2.2.1 && eqI v8010_1.2.2.2 v8010_2.2.2.2)) cL6)))⟩, ⟨(cells_map (e := e_i64_i64_u8_i64) eL4 4 0 4 (by decide))⟩, ⟨cL3⟩, ⟨(cells_map (e := e_i64_i64_u8_i64) eL2 4 0 4 (by decide))⟩, ⟨cL1⟩, ⟨cL0⟩] (by kernel_rfl) (fun s h => by cases h)
          · rw [if_neg cL5] at h
            replace cL5 := eqf cL5
            obtain rfl := Option.some.inj h
            show LT _ _ _ _ (.fin (.bool false) [])
            exact LT.done mixed (hs := ⟨[], [], false, [], []⟩) (es := none) [.d true, .row [(.int .i64 v8010_1.1), (.int .i64 v8010_1.2.1), (.int .u8 v8010_1.2.2.1), (.int .i64 v8010_1.2.2.2)], .row [(.int .i64 v8010_2.1), (.int .i64 v8010_2.2.1), (.int .u8 v8010_2.2.2.1), (.int .i64 v8010_2.2.2.2)], .d true] [⟨(nT (aF1 (b := (eqI v8010_1.2.1 v8010_2.2.1 && (eqI v8010_1.2.2.1 v8010_2.2.2.1 && eqI v8010_1.2.2.2 v8010_2.2.2.2))) cL5))⟩, ⟨(cells_map (e := e_i64_i64_u8_i64) eL4 4 0 4 (by decide))⟩, ⟨cL3⟩, ⟨(cells_map (e := e_i64_i64_u8_i64) eL2 4 0 4 (by decide))⟩, ⟨cL1⟩, ⟨cL0⟩] (by kernel_rfl) (fun s h => by cases h)
        · rw [if_neg cL3] at h
          replace cL3 := eqf cL3
          cases h
      · rw [if_neg cL1] at h
        replace cL1 := eqf cL1
        cases h
    · rw [if_neg cL0] at h
      replace cL0 := eqf cL0
      obtain rfl := Option.some.inj h
      show LT _ _ _ _ (.st (.exit 2) (E8_1_2))
      exact LT.done mixed (hs := ⟨[], [], false, [], []⟩) (es := (some ⟨[], [], false, [], []⟩)) [.d false] [⟨cL0⟩] (by kernel_rfl) (fun s h => by cases h)
theorem ok_law10_SiteLogs_l0 (x1 : Ty7) (y : (Ty11 × Ty8 × Ty7 × Ty2 × Ty7)) : ∀ (k : Nat) (v8001_1 : Int) (v8001_2 : Ty11) (v8001_3 : Ty8) (v8001_4 : Ty7) (v8001_5 : Ty2) (v8001_6 : Ty7), law10_SiteLogs_l0 k x1 v8001_1 v8001_2 v8001_3 v8001_4 v8001_5 v8001_6 = some y → LT Try.prog X8 L8_0 (S8_0 x1 v8001_1 v8001_2 v8001_3 v8001_4 v8001_5 v8001_6) (O8_0 x1 y)
  | 0, v8001_1, v8001_2, v8001_3, v8001_4, v8001_5, v8001_6, h => by cases h
  | k + 1, v8001_1, v8001_2, v8001_3, v8001_4, v8001_5, v8001_6, h => by
    rw [law10_SiteLogs_l0] at h
    by_cases cL0 : ltI v8001_1 (nI x1.length) = true
    · rw [if_pos cL0] at h
      by_cases cL1 : ltI v8001_1 120 = true
      · rw [if_pos cL1] at h
        by_cases cL2 : inI v8001_1 x1.length = true
        · rw [if_pos cL2] at h
          obtain ⟨v8000_1, eL3, h⟩ := Option.bind_eq_some_iff.1 h
          obtain ⟨v8000_2, eL4, h⟩ := Option.bind_eq_some_iff.1 h
          by_cases cL5 : eqI v8000_2.1 0 = true
          · rw [if_pos cL5] at h
            by_cases cL6 : roomI (((v8001_4 ++ [v8000_1]).length) * 32) = true
            · rw [if_pos cL6] at h
              exact LT.next mixed (hs := ⟨[(0, []), (3, []), (4, []), (5, [])], [⟨.tmp 3, [], none⟩, ⟨.tmp 4, [], some 4⟩, ⟨.cell 0 2, [], none⟩, ⟨.cell 0 3, [], some 4⟩], false, [], []⟩) (es := none) [.n x1.length, .d true, .d true, .d true, .d true, .n x1.length, .row [(.int .i64 v8000_1.1), (.int .i64 v8000_1.2.1), (.int .u8 v8000_1.2.2.1), (.int .i64 v8000_1.2.2.2)], .call ⟨true, []⟩ (.tup [(.int .i64 v8000_2.2.1), (.int .i64 v8000_2.1)]) [(.row [(.sl 2 (List.map e_u8_i64 v8000_2.2.2.1)), (.sl 3 (List.map e_u8_i64_b v8000_2.2.2.2.1)), (.mp 1), (.ref 4 2 1 0 v8000_2.2.2.2.2.2.length .virt)]), (.map (encM .i64 (fun y => AV.agg (e_i64_Lu8i64E_b_i64 y)) v8000_2.2.2.2.2.1) v8000_2.2.2.2.2.1.length), (.arr 4 (List.map e_i64_i64_u8_i64 v8000_2.2.2.2.2.2) 1 1 false)], .d true, .rows (List.map e_i64_i64_u8_i64 [v8000_1]), .n ((v8001_4 ++ [v8000_1]).length), .n v8001_4.length, .d true, .rows (List.map e_i64_i64_u8_i64 (v8001_4 ++ [v8000_1])), .n ((v8001_4 ++ [v8000_1]).length), .rows (List.map e_i64_i64_u8_i64 (v8001_4 ++ [v8000_1])), .n v8000_2.2.2.2.2.2.length, .rows (List.map e_i64_i64_u8_i64 v8000_2.2.2.2.2.2)] [⟨(take_all e_i64_i64_u8_i64 (l := v8000_2.2.2.2.2.2) (n := v8000_2.2.2.2.2.2.length) rfl)⟩, ⟨(rfl : v8000_2.2.2.2.2.2.length = v8000_2.2.2.2.2.2.length)⟩, ⟨(take_all e_i64_i64_u8_i64 (l := (v8001_4 ++ [v8000_1])) (n := ((v8001_4 ++ [v8000_1]).length)) rfl)⟩, ⟨(rfl : (v8001_4 ++ [v8000_1]).length = (v8001_4 ++ [v8000_1]).length)⟩, ⟨(zle v8000_2.2.2.2.2.2.length)⟩, ⟨(zle ((v8001_4 ++ [v8000_1]).length))⟩, ⟨(app_map e_i64_i64_u8_i64 v8001_4 [v8000_1])⟩, ⟨(eqN_self v8001_4.length)⟩, ⟨(len_map e_i64_i64_u8_i64 v8001_4)⟩, ⟨cL6⟩, ⟨(by simp only [List.length_append, List.length_cons, List.length_nil, List.length_take, List.length_drop, List.length_set, List.length_replicate, List.length_map, List.map_nil, List.map_cons] <;> omega : v8001_4.length + (List.map e_i64_i64_u8_i64 [v8000_1]).length = (v8001_4 ++ [v8000_1]).length)⟩, ⟨(part_all e_i64_i64_u8_i64 (l := [v8000_1]) (n := 1) rfl)⟩, ⟨(le_map e_i64_i64_u8_i64 (Nat.le_refl 1) : 0 + 1 ≤ (List.map e_i64_i64_u8_i64 [v8000_1]).length)⟩, ⟨cL5⟩, ⟨(ok_site_Site_Do_3 k v8000_1.1 v8000_1.2.1 v8000_1.2.2.1 v8000_1.2.2.2 v8001_2 v8001_3 v8001_5 v8001_6 _ eL4)⟩, ⟨(cells_map (e := e_i64_i64_u8_i64) eL3 4 0 4 (by decide))⟩, ⟨cL2⟩, ⟨(len_map e_i64_i64_u8_i64 x1)⟩, ⟨cL1⟩, ⟨cL0⟩, ⟨cL0⟩, ⟨cL0⟩, ⟨(len_map e_i64_i64_u8_i64 x1)⟩] (by kernel_rfl) (ok_law10_SiteLogs_l0 x1 y k (iadd .i64 v8001_1 1) v8000_2.2.2.1 v8000_2.2.2.2.1 (v8001_4 ++ [v8000_1]) v8000_2.2.2.2.2.1 v8000_2.2.2.2.2.2 h)
            · rw [if_neg cL6] at h
              replace cL6 := eqf cL6
              cases h
          · rw [if_neg cL5] at h
            replace cL5 := eqf cL5
            exact LT.next mixed (hs := ⟨[(0, []), (3, []), (4, []), (5, [])], [⟨.tmp 3, [], none⟩, ⟨.tmp 4, [], some 4⟩, ⟨.cell 0 2, [], none⟩, ⟨.cell 0 3, [], some 4⟩], false, [], []⟩) (es := none) [.n x1.length, .d true, .d true, .d true, .d true, .n x1.length, .row [(.int .i64 v8000_1.1), (.int .i64 v8000_1.2.1), (.int .u8 v8000_1.2.2.1), (.int .i64 v8000_1.2.2.2)], .call ⟨true, []⟩ (.tup [(.int .i64 v8000_2.2.1), (.int .i64 v8000_2.1)]) [(.row [(.sl 2 (List.map e_u8_i64 v8000_2.2.2.1)), (.sl 3 (List.map e_u8_i64_b v8000_2.2.2.2.1)), (.mp 1), (.ref 4 2 1 0 v8000_2.2.2.2.2.2.length .virt)]), (.map (encM .i64 (fun y => AV.agg (e_i64_Lu8i64E_b_i64 y)) v8000_2.2.2.2.2.1) v8000_2.2.2.2.2.1.length), (.arr 4 (List.map e_i64_i64_u8_i64 v8000_2.2.2.2.2.2) 1 1 false)], .d false, .n v8001_4.length, .rows (List.map e_i64_i64_u8_i64 v8001_4), .n v8000_2.2.2.2.2.2.length, .rows (List.map e_i64_i64_u8_i64 v8000_2.2.2.2.2.2)] [⟨(take_all e_i64_i64_u8_i64 (l := v8000_2.2.2.2.2.2) (n := v8000_2.2.2.2.2.2.length) rfl)⟩, ⟨(rfl : v8000_2.2.2.2.2.2.length = v8000_2.2.2.2.2.2.length)⟩, ⟨(take_all e_i64_i64_u8_i64 (l := v8001_4) (n := v8001_4.length) rfl)⟩, ⟨(rfl : v8001_4.length = v8001_4.length)⟩, ⟨(zle v8000_2.2.2.2.2.2.length)⟩, ⟨(zle v8001_4.length)⟩, ⟨cL5⟩, ⟨(ok_site_Site_Do_3 k v8000_1.1 v8000_1.2.1 v8000_1.2.2.1 v8000_1.2.2.2 v8001_2 v8001_3 v8001_5 v8001_6 _ eL4)⟩, ⟨(cells_map (e := e_i64_i64_u8_i64) eL3 4 0 4 (by decide))⟩, ⟨cL2⟩, ⟨(len_map e_i64_i64_u8_i64 x1)⟩, ⟨cL1⟩, ⟨cL0⟩, ⟨cL0⟩, ⟨cL0⟩, ⟨(len_map e_i64_i64_u8_i64 x1)⟩] (by kernel_rfl) (ok_law10_SiteLogs_l0 x1 y k (iadd .i64 v8001_1 1) v8000_2.2.2.1 v8000_2.2.2.2.1 v8001_4 v8000_2.2.2.2.2.1 v8000_2.2.2.2.2.2 h)
        · rw [if_neg cL2] at h
          replace cL2 := eqf cL2
          cases h
      · rw [if_neg cL1] at h
        replace cL1 := eqf cL1
        obtain rfl := Option.some.inj h
        show LT _ _ _ _ (.st (.exit 0) (E8_0_0 v8001_2 v8001_3 v8001_4 v8001_5 v8001_6))
        exact LT.done mixed (hs := ⟨[], [], false, [], []⟩) (es := (some ⟨[(3, []), (4, [])], [⟨.tmp 3, [], none⟩, ⟨.tmp 4, [], none⟩, ⟨.cell 0 2, [], none⟩, ⟨.cell 0 3, [], none⟩], false, [], []⟩)) [.n x1.length, .d true, .d true, .d true, .d false] [⟨cL1⟩, ⟨cL0⟩, ⟨cL0⟩, ⟨cL0⟩, ⟨(len_map e_i64_i64_u8_i64 x1)⟩] (by kernel_rfl) (fun s h => by cases h)
    · rw [if_neg cL0] at h
      replace cL0 := eqf cL0
      obtain rfl := Option.some.inj h
      show LT _ _ _ _ (.st (.exit 0) (E8_0_0 v8001_2 v8001_3 v8001_4 v8001_5 v8001_6))
      exact LT.done mixed (hs := ⟨[], [], false, [], []⟩) (es := (some ⟨[(3, []), (4, [])], [⟨.tmp 3, [], none⟩, ⟨.tmp 4, [], none⟩, ⟨.cell 0 2, [], none⟩, ⟨.cell 0 3, [], none⟩], false, [], []⟩)) [.n x1.length, .d false, .d false, .d false, .d false] [⟨(rfl : false = false)⟩, ⟨cL0⟩, ⟨cL0⟩, ⟨cL0⟩, ⟨(len_map e_i64_i64_u8_i64 x1)⟩] (by kernel_rfl) (fun s h => by cases h)
theorem ok_law10_SiteLogs (k : Nat) (x1 : Ty7) (r : Bool) (h : law10_SiteLogs k x1 = some r) : Tri Try.prog 8 [(.sl 4 (List.map e_i64_i64_u8_i64 x1))] [] (.bool r) [] := by
    unfold law10_SiteLogs at h
    obtain ⟨x2, e0, h⟩ := Option.bind_eq_some_iff.1 h
    by_cases c1 : x2 = true
    · rw [if_pos c1] at h
      obtain ⟨x4, e2, h⟩ := Option.bind_eq_some_iff.1 h
      obtain ⟨x5, e4, h⟩ := Option.bind_eq_some_iff.1 h
      by_cases c5 : eqI (nI x4.2.2.2.2.length) (nI x4.2.2.1.length) = true
      · rw [if_pos c5] at h
        obtain ⟨x6, e6, h⟩ := Option.bind_eq_some_iff.1 h
        cases x6 with
        | inl x7 =>
          simp only [Sum.elim_inl] at h
          obtain rfl := Option.some.inj h
          exact Tri.of (x := X8) mixed facts8 [.call ⟨true, []⟩ (.bool x2) [], .d false, .call ⟨true, []⟩ (.hp 0 0) [(.row [.nils, .nils, (.mp 1), .nils]), (.map (encM .i64 (fun y => AV.agg (e_i64_Lu8i64E_b_i64 y)) ([] : Ty2)) ([] : Ty2).length)], .d false, .norm 2 ⟨[(0, []), (3, []), (4, []), (5, [])], [⟨.tmp 3, [(0, 2), (1, 3)], none⟩, ⟨.tmp 4, [], some 4⟩, ⟨.cell 0 2, [], none⟩, ⟨.cell 0 3, [], some 4⟩], false, [], []⟩, .n 0, .rows (List.map e_i64_i64_u8_i64 []), .n 0, .rows (List.map e_i64_i64_u8_i64 []), .out (.st .normal (E8_0_0 x4.1 x4.2.1 x4.2.2.1 x4.2.2.2.1 x4.2.2.2.2)), .call ⟨true, []⟩ (.ref 4 3 0 0 x4.2.2.2.2.length .virt) [(.row [(.sl 2 (List.map e_u8_i64 x4.1)), (.sl 3 (List.map e_u8_i64_b x4.2.1)), (.mp 1), (.ref 4 2 0 0 x4.2.2.2.2.length .virt)]), (.map (encM .i64 (fun y => AV.agg (e_i64_Lu8i64E_b_i64 y)) x4.2.2.2.1) x4.2.2.2.1.length), (.arr 4 (List.map e_i64_i64_u8_i64 x4.2.2.2.2) 0 0 true), (.arr 4 (List.map e_i64_i64_u8_i64 x4.2.2.2.2) 0 0 false)], .d false, .norm 8 ⟨[(4, []), (9, []), (50, []), (51, [])], [⟨.tmp 4, [], none⟩, ⟨.tmp 9, [], none⟩], false, [], []⟩, .out (.st .normal (E8_1_2))] [⟨(LT.block (ok_law10_SiteLogs_l1 x4 _ k 0 e6))⟩, ⟨(nF c5)⟩, ⟨(ok_site_Site_Log k x4.1 x4.2.1 x4.2.2.2.1 x4.2.2.2.2 _ e4)⟩, ⟨(LT.block (ok_law10_SiteLogs_l0 x1 _ k 0 [] [] [] ([] : Ty2) [] e2))⟩, ⟨(take_all e_i64_i64_u8_i64 (l := []) (n := 0) rfl)⟩, ⟨(rfl : 0 = 0)⟩, ⟨(take_all e_i64_i64_u8_i64 (l := []) (n := 0) rfl)⟩, ⟨(rfl : 0 = 0)⟩, ⟨(zle 0)⟩, ⟨(zle 0)⟩, ⟨(rfl : false = false)⟩, ⟨(ok_site_New)⟩, ⟨(nF c1)⟩, ⟨(ok_law10_alive k _ e0)⟩] (by kernel_rfl)
        | inr x7 =>
          simp only [Sum.elim_inr] at h
          obtain rfl := Option.some.inj h
          exact Tri.of (x := X8) mixed facts8 [.call ⟨true, []⟩ (.bool x2) [], .d false, .call ⟨true, []⟩ (.hp 0 0) [(.row [.nils, .nils, (.mp 1), .nils]), (.map (encM .i64 (fun y => AV.agg (e_i64_Lu8i64E_b_i64 y)) ([] : Ty2)) ([] : Ty2).length)], .d false, .norm 2 ⟨[(0, []), (3, []), (4, []), (5, [])], [⟨.tmp 3, [(0, 2), (1, 3)], none⟩, ⟨.tmp 4, [], some 4⟩, ⟨.cell 0 2, [], none⟩, ⟨.cell 0 3, [], some 4⟩], false, [], []⟩, .n 0, .rows (List.map e_i64_i64_u8_i64 []), .n 0, .rows (List.map e_i64_i64_u8_i64 []), .out (.st .normal (E8_0_0 x4.1 x4.2.1 x4.2.2.1 x4.2.2.2.1 x4.2.2.2.2)), .call ⟨true, []⟩ (.ref 4 3 0 0 x4.2.2.2.2.length .virt) [(.row [(.sl 2 (List.map e_u8_i64 x4.1)), (.sl 3 (List.map e_u8_i64_b x4.2.1)), (.mp 1), (.ref 4 2 0 0 x4.2.2.2.2.length .virt)]), (.map (encM .i64 (fun y => AV.agg (e_i64_Lu8i64E_b_i64 y)) x4.2.2.2.1) x4.2.2.2.1.length), (.arr 4 (List.map e_i64_i64_u8_i64 x4.2.2.2.2) 0 0 true), (.arr 4 (List.map e_i64_i64_u8_i64 x4.2.2.2.2) 0 0 false)], .d false, .norm 8 ⟨[(4, []), (9, []), (50, []), (51, [])], [⟨.tmp 4, [], none⟩, ⟨.tmp 9, [], none⟩], false, [], []⟩, .out (.fin (.bool x7) [])] [⟨(LT.blockFin (id := 2) (ok_law10_SiteLogs_l1 x4 _ k 0 e6))⟩, ⟨(nF c5)⟩, ⟨(ok_site_Site_Log k x4.1 x4.2.1 x4.2.2.2.1 x4.2.2.2.2 _ e4)⟩, ⟨(LT.block (ok_law10_SiteLogs_l0 x1 _ k 0 [] [] [] ([] : Ty2) [] e2))⟩, ⟨(take_all e_i64_i64_u8_i64 (l := []) (n := 0) rfl)⟩, ⟨(rfl : 0 = 0)⟩, ⟨(take_all e_i64_i64_u8_i64 (l := []) (n := 0) rfl)⟩, ⟨(rfl : 0 = 0)⟩, ⟨(zle 0)⟩, ⟨(zle 0)⟩, ⟨(rfl : false = false)⟩, ⟨(ok_site_New)⟩, ⟨(nF c1)⟩, ⟨(ok_law10_alive k _ e0)⟩] (by kernel_rfl)
      · rw [if_neg c5] at h
        replace c5 := eqf c5
        obtain rfl := Option.some.inj h
        exact Tri.of (x := X8) mixed facts8 [.call ⟨true, []⟩ (.bool x2) [], .d false, .call ⟨true, []⟩ (.hp 0 0) [(.row [.nils, .nils, (.mp 1), .nils]), (.map (encM .i64 (fun y => AV.agg (e_i64_Lu8i64E_b_i64 y)) ([] : Ty2)) ([] : Ty2).length)], .d false, .norm 2 ⟨[(0, []), (3, []), (4, []), (5, [])], [⟨.tmp 3, [(0, 2), (1, 3)], none⟩, ⟨.tmp 4, [], some 4⟩, ⟨.cell 0 2, [], none⟩, ⟨.cell 0 3, [], some 4⟩], false, [], []⟩, .n 0, .rows (List.map e_i64_i64_u8_i64 []), .n 0, .rows (List.map e_i64_i64_u8_i64 []), .out (.st .normal (E8_0_0 x4.1 x4.2.1 x4.2.2.1 x4.2.2.2.1 x4.2.2.2.2)), .call ⟨true, []⟩ (.ref 4 3 0 0 x4.2.2.2.2.length .virt) [(.row [(.sl 2 (List.map e_u8_i64 x4.1)), (.sl 3 (List.map e_u8_i64_b x4.2.1)), (.mp 1), (.ref 4 2 0 0 x4.2.2.2.2.length .virt)]), (.map (encM .i64 (fun y => AV.agg (e_i64_Lu8i64E_b_i64 y)) x4.2.2.2.1) x4.2.2.2.1.length), (.arr 4 (List.map e_i64_i64_u8_i64 x4.2.2.2.2) 0 0 true), (.arr 4 (List.map e_i64_i64_u8_i64 x4.2.2.2.2) 0 0 false)], .d true] [⟨(nT c5)⟩, ⟨(ok_site_Site_Log k x4.1 x4.2.1 x4.2.2.2.1 x4.2.2.2.2 _ e4)⟩, ⟨(LT.block (ok_law10_SiteLogs_l0 x1 _ k 0 [] [] [] ([] : Ty2) [] e2))⟩, ⟨(take_all e_i64_i64_u8_i64 (l := []) (n := 0) rfl)⟩, ⟨(rfl : 0 = 0)⟩, ⟨(take_all e_i64_i64_u8_i64 (l := []) (n := 0) rfl)⟩, ⟨(rfl : 0 = 0)⟩, ⟨(zle 0)⟩, ⟨(zle 0)⟩, ⟨(rfl : false = false)⟩, ⟨(ok_site_New)⟩, ⟨(nF c1)⟩, ⟨(ok_law10_alive k _ e0)⟩] (by kernel_rfl)
    · rw [if_neg c1] at h
      replace c1 := eqf c1
      obtain rfl := Option.some.inj h
      exact Tri.of (x := X8) mixed facts8 [.call ⟨true, []⟩ (.bool x2) [], .d true] [⟨(nT c1)⟩, ⟨(ok_law10_alive k _ e0)⟩] (by kernel_rfl)
end Go.Ws
