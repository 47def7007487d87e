/- awake: true. Condition: the library's variable MaxLen holds some int. -/
import Derived.Test.YtbjhkgmojmggjaaDoorNewA
namespace Go.Proofs.YtbjhkgmojmggjaaDoor
set_option linter.unusedSimpArgs false
set_option linter.unusedVariables false
set_option linter.unnecessarySimpa false
set_option linter.unusedSectionVars false
open Go.RowKit
attribute [local go_sem ↓] Go.wp_at_zero Go.wp_at_succ

theorem Secret_at (g : Nat) (k : Int) (off : Nat) (h0 : 0 ≤ k) (h1 : k < 65536) (ho : 4 + k.toNat = off) (x : Int) (w : World) (hc : w.cell? ⟨g, off, none⟩ = some (.int .u8 x)) :
    Calls Tryd.prog 67 #[.pointer (some ⟨g, 0, none⟩), .int .i64 k] w fun e w' => e = .returned (.int .u8 x) ∧ w' = w :=
  Secret_any g k h0 h1 x w (ho ▸ hc)

set_option maxRecDepth 100000 in
set_option maxHeartbeats 400000 in
theorem awake_yes (w : World) (m : Int) (hm : w.cell? ⟨1, 0, none⟩ = some (.int .i64 m)) :
    Calls Tryd.prog 8 #[] w fun e w' => e = .returned (.bool true) ∧ Below w.heap.size w w' := by
  go_enter Tryd.func8, Tryd.ntmps8
  go_wp2_with (fail)
  refine (Parse_S0 w m hm).mono ?_
  rintro e w1 ⟨b, cap, rfl, own1, bel1⟩
  go_wp2_with (fail)
  have k2 := ((Keeps.of_below bel1 (S := fun _ => False)).alloc (.cells #[.slice (some ⟨b, 0, none⟩) 1 cap, .slice none 0 0, .int .i64 0, .int .i64 1024] 95)).alloc (.cells #[.int .i64 0, .int .i64 0] 132)
  have own2 := (own1.alloc (.cells #[.slice (some ⟨b, 0, none⟩) 1 cap, .slice none 0 0, .int .i64 0, .int .i64 1024] 95)).alloc (.cells #[.int .i64 0, .int .i64 0] 132)
  generalize hW : World.alloc (World.alloc _ _) _ = W2 at *
  clear hW bel1 own1
  refine (New_one _ _ _ _ own2).mono ?_
  rintro e w3 ⟨g, rfl, hg, h16, h17, bel3⟩
  have k3 := k2.trans (Keeps.of_below bel3 (S := fun _ => False)) (fun _ _ h => h)
  clear k2 own2 bel3
  go_wp2_with (fail)
  refine (Secret_at g 16 20 (by decide) (by decide) (by decide) 255 w3 h16).mono ?_
  rintro e w' ⟨rfl, rfl⟩
  go_wp2_with (fail)
  refine (Secret_at g 17 21 (by decide) (by decide) (by decide) 0 _ h17).mono ?_
  rintro e w' ⟨rfl, rfl⟩
  go_wp2_with (fail)
  go_ret
  exact ⟨rfl, k3.below (Nat.le_refl _) (fun _ _ h => h)⟩
end Go.Proofs.YtbjhkgmojmggjaaDoor
