/- The policy reader's 'secret' at '16', end; sorting no span and one. No condition beyond what each states. -/
import Derived.Test.YtbjhkgmojmggjaaDoorPolC
import Derived.Lib.SliceRun
namespace Go.Proofs.YtbjhkgmojmggjaaDoor
set_option linter.unusedSimpArgs false
set_option linter.unusedVariables false
set_option linter.unnecessarySimpa false
set_option linter.unusedSectionVars false
open Go.RowKit
attribute [local go_sem ↓] Go.wp_at_zero Go.wp_at_succ

theorem Tok.drew {w : World} {bt off : Nat} {k : Int} {tx : ByteArray} {nn ln cl : Int} (h : Tok w bt off k tx nn ln cl) : Tok w.drew bt off k tx nn ln cl := ⟨h.c0, h.c1, h.c2, h.c3, h.c4⟩

set_option maxRecDepth 100000 in
theorem secret_first (g bt off c : Nat) (seen : Value) (dec trc pl pc : Int) (a0 a1 : Int) (tx ty : ByteArray) (l1 c1 m2 l2 c2 : Int) (w : World)
    (hb : RdB w g (.slice (some ⟨bt, off, none⟩) 2 c) (.slice none 0 0) (.slice none 0 0) dec trc 0 pl pc seen) (hc : 1 < c) (hne : bt ≠ g)
    (ht : Tok w bt off 2 tx 16 l1 c1) (hu : Tok w bt (off + 5) 4 ty m2 l2 c2) :
    Calls Tryd.prog 108 #[.pointer (some ⟨g, 0, none⟩), .agg #[.int .i64 a0, .int .i64 a1]] w fun e w' =>
      e = .returned (.tuple #[]) ∧ ∃ P c' b cap, RdB w' g (.slice P 0 c') (.slice (some ⟨b, 0, none⟩) 1 cap) (.slice none 0 0) dec trc 0 pl pc seen ∧
        w'.ownsRow w.heap.size 111 3 (.slice (some ⟨b, 0, none⟩) 1 cap) 1 span0 ∧ Keeps (fun k => k = g) w w' := by
  have hg := hb.lt
  go_enter Tryd.func108, Tryd.ntmps108
  go_wp2_with (fail)
  have p1 := Blk.new w 132 #[.int .i64 a0, .int .i64 a1]
  have b1 : RdB _ g _ _ _ _ _ _ _ _ _ := hb.alloc (.cells #[.int .i64 a0, .int .i64 a1] 132)
  have t1 := ht.alloc (.cells #[.int .i64 a0, .int .i64 a1] 132)
  have u1 := hu.alloc (.cells #[.int .i64 a0, .int .i64 a1] 132)
  have k1 := (Keeps.refl (fun k => k = g) w).alloc (.cells #[.int .i64 a0, .int .i64 a1] 132)
  generalize hW : World.alloc _ _ = W at *
  have p1_c0 := p1.cell 0; have p1_c1 := p1.cell 1; simp at p1_c0 p1_c1
  go_still_tail 10, (by kernel_rfl)
  go_wp2_with (go_at_call 130; refine (span_first _ _ _ _ _ _ _ _ _ _ _ tx ty _ _ _ _ _ _ b1.drew hc hne t1.drew u1.drew).mono ?_; rintro e w2 ⟨rfl, P, c', b, cap, b2, own2, k2⟩)
  go_wp2_with (fail)
  go_end0
  refine ⟨rfl, P, c', b, cap, b2, own_base own2 k1.size, k1.drew.trans k2 (fun _ _ h => h)⟩

/-! Sorting. -/
set_option maxRecDepth 100000 in
theorem Clone_nil (w : World) : Calls Tryd.prog 135 #[.slice none 0 0] w fun e w' => e = .returned (.slice none 0 0) ∧ w' = w := by
  have q22 : ∀ (w : World) (a : Option Addr) (n c n' c' : Nat), (binOp .eql 93 (.slice a n c) (.slice none n' c')).run Tryd.prog w = .ok (.bool a.isNone) w := fun w a n c n' c' => Lib.run_eql_slice_nil w _ _ a n c n' c' Tryd.underlying93
  go_enter Tryd.func135, Tryd.ntmps135
  go_wp2_with (fail)
  go_ret
  exact ⟨rfl, rfl⟩

set_option maxRecDepth 100000 in
theorem Clone_one (b cap B : Nat) (w : World) (hown : w.ownsRow B 111 3 (.slice (some ⟨b, 0, none⟩) 1 cap) 1 span0) :
    Calls Tryd.prog 135 #[.slice (some ⟨b, 0, none⟩) 1 cap] w fun e w' =>
      ∃ b' cap', e = .returned (.slice (some ⟨b', 0, none⟩) 1 cap') ∧ w'.ownsRow w.heap.size 111 3 (.slice (some ⟨b', 0, none⟩) 1 cap') 1 span0 ∧ Below w.heap.size w w' := by
  obtain ⟨i0, hi0, hz0, hz1, hz2⟩ := info_parts info_span
  have q22 : ∀ (w : World) (a : Option Addr) (n c n' c' : Nat), (binOp .eql 93 (.slice a n c) (.slice none n' c')).run Tryd.prog w = .ok (.bool a.isNone) w := fun w a n c n' c' => Lib.run_eql_slice_nil w _ _ a n c n' c' Tryd.underlying93
  go_enter Tryd.func135, Tryd.ntmps135
  go_wp2_with (at_builtin; refine wpList_append_lies _ rfl (.tmp 5) (.tmp 6) 93 rfl w.heap.size 111 i0 _ 3 24 Tryd.underlying93 hi0 hz0 hz1 hz2 rfl (by omega) (.slice (some ⟨w.heap.size, 0, none⟩) 0 0) 0 [] (by rfl) (by exact World.ownsRow_made w #[] 0 (Nat.le_refl _) (Nat.zero_le _) rfl) ⟨b, 0, none⟩ 1 cap span0 (by rfl) (by rfl) (by exact World.ownsRow.cells (hown.alloc _) rfl) (by simp [span0, Value.oneCell']) (by omega) (by unfold maxLen; omega) (by omega) (by simp) _ rfl ?_; intro g1 cap1 w1 hown1 hg1 hat1 hlt1)
  go_wp2_with (fail)
  go_ret
  refine ⟨g1, cap1, rfl, hown1, ?_⟩
  have hk := ((Keeps.refl (fun _ => False) w).alloc (.cells #[] 111)).grown hg1 (fun k hk => .inr (by simp [Value.ownBlock] at hk; omega))
  exact hk.below (Nat.le_refl _) (fun _ _ h => h)

set_option maxRecDepth 100000 in
/-- An insertion sort's one round, of one element or none: nothing is compared. -/
theorem insertion_one (d f : Value) (n : Int) (h0 : 0 ≤ n) (h1 : n ≤ 1) (w : World) :
    Calls Tryd.prog 166 #[d, .int .i64 0, .int .i64 n, f] w fun e w' => e = .returned (.tuple #[]) ∧ w' = w := by
  have hn : ¬ (1 < n) := by omega
  go_enter Tryd.func166, Tryd.ntmps166
  go_wp2_with (fail)
  refine wp_loop_rounds 1 ?_
  rw [rounds_succ]
  go_wp2_with (fail)
  go_end0
  exact ⟨rfl, rfl⟩

set_option maxRecDepth 100000 in
theorem stable_one (d f : Value) (n : Int) (h0 : 0 ≤ n) (h1 : n ≤ 1) (w : World) :
    Calls Tryd.prog 150 #[d, .int .i64 n, f] w fun e w' => e = .returned (.tuple #[]) ∧ w' = w := by
  have hn : ¬ (20 < n) := by omega
  have hn' : ¬ (20 ≤ n) := by omega
  go_enter Tryd.func150, Tryd.ntmps150
  go_wp2_with (fail)
  refine wp_loop_rounds 1 ?_
  rw [rounds_succ]
  go_wp2_with (go_at_call 166; refine (insertion_one _ _ _ h0 h1 _).mono ?_; rintro e w' ⟨rfl, rfl⟩)
  refine wp_loop_rounds 1 ?_
  rw [rounds_succ]
  go_wp2_with (fail)
  go_end0
  exact ⟨rfl, rfl⟩

theorem SortStable_one (b : Option Addr) (cap : Nat) (f : Value) (n : Nat) (h1 : n ≤ 1) (w : World) :
    Calls Tryd.prog 136 #[.slice b n cap, f] w fun e w' => e = .returned (.tuple #[]) ∧ w' = w := by
  go_enter Tryd.func136, Tryd.ntmps136
  go_wp2_with (go_at_call 150; refine (stable_one _ _ _ (by omega) (by omega) _).mono ?_; rintro e w' ⟨rfl, rfl⟩)
  go_end0
  exact ⟨rfl, rfl⟩

theorem sorted_nil (w : World) : Calls Tryd.prog 124 #[.slice none 0 0] w fun e w' => e = .returned (.slice none 0 0) ∧ w' = w := by
  go_enter Tryd.func124, Tryd.ntmps124
  go_wp2_with (first | (go_at_call 135; refine (Clone_nil _).mono ?_; rintro e w' ⟨rfl, rfl⟩) | (go_at_call 136; refine (SortStable_one _ _ _ _ (by omega) _).mono ?_; rintro e w' ⟨rfl, rfl⟩))
  go_ret
  exact ⟨rfl, rfl⟩

theorem sorted_one (b cap B : Nat) (w : World) (hown : w.ownsRow B 111 3 (.slice (some ⟨b, 0, none⟩) 1 cap) 1 span0) :
    Calls Tryd.prog 124 #[.slice (some ⟨b, 0, none⟩) 1 cap] w fun e w' =>
      ∃ b' cap', e = .returned (.slice (some ⟨b', 0, none⟩) 1 cap') ∧ w'.ownsRow w.heap.size 111 3 (.slice (some ⟨b', 0, none⟩) 1 cap') 1 span0 ∧ Below w.heap.size w w' := by
  go_enter Tryd.func124, Tryd.ntmps124
  go_wp2_with (first | (go_at_call 135; refine (Clone_one _ _ _ _ hown).mono ?_; rintro e w1 ⟨b', cap', rfl, own1, bel1⟩) | (go_at_call 136; refine (SortStable_one _ _ _ _ (by omega) _).mono ?_; rintro e w' ⟨rfl, rfl⟩))
  go_ret
  exact ⟨b', cap', rfl, own1, bel1⟩
end Go.Proofs.YtbjhkgmojmggjaaDoor
