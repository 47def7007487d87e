/- The policy reader's 'next' where nothing fits, spans' places, the taken spans where none was: contracts. No condition beyond what each states. -/
import Derived.Test.YtbjhkgmojmggjaaDoorPolA
namespace Go.Proofs.YtbjhkgmojmggjaaDoor
set_option linter.unusedSimpArgs false
set_option linter.unusedVariables false
set_option linter.unnecessarySimpa false
set_option linter.unusedSectionVars false
open Go.RowKit
attribute [local go_sem ↓] Go.wp_at_zero Go.wp_at_succ

/-- No token of this kind comes next. -/
theorem next_no (g bt off n c : Nat) (sec snk seen : Value) (dec trc pl pc k kk : Int) (tx ty : ByteArray) (nn ln cl : Int) (w : World)
    (hb : RdB w g (.slice (some ⟨bt, off, none⟩) (n + 1) c) sec snk dec trc 0 pl pc seen) (ht : Tok w bt off k tx nn ln cl) (hk : (k == kk) = false) :
    Calls Tryd.prog 145 #[.pointer (some ⟨g, 0, none⟩), .int .i64 kk, .string ty] w fun e w' =>
      e = .returned (.bool false) ∧ w' = w := by
  have hb_c0 := hb.cell 0; have hb_c7 := hb.cell 7; simp at hb_c0 hb_c7
  have k0 := ht.c0
  have k1 := ht.c1
  have hn1 : ¬ ((n : Int) + 1 = 0) := by omega
  have hk' : ¬ k = kk := by simpa using hk
  go_enter Tryd.func145, Tryd.ntmps145
  go_wp2
  go_ret
  exact ⟨rfl, rfl⟩

theorem lies_16 (also : Bool) (w : World) :
    Calls Tryd.prog 121 #[.agg #[.int .i64 16, .int .i64 16, .int .u8 255], .bool also] w fun e w' =>
      e = .returned (.bool true) ∧ Below w.heap.size w w' := by
  go_enter Tryd.func121, Tryd.ntmps121
  go_wp2
  go_ret
  refine ⟨rfl, ?_⟩
  exact (Below.refl _ _).alloc (Nat.le_refl _) _

theorem IndexFunc_nil (f : Value) (w : World) :
    Calls Tryd.prog 149 #[.slice none 0 0, f] w fun e w' => e = .returned (.int .i64 (-1)) ∧ w' = w := by
  go_enter Tryd.func149, Tryd.ntmps149
  go_wp2_with (fail)
  refine wp_loop_rounds 1 ?_
  rw [rounds_succ]
  go_wp2_with (fail)
  go_ret
  exact ⟨rfl, rfl⟩

theorem ContainsFunc_nil (f : Value) (w : World) :
    Calls Tryd.prog 133 #[.slice none 0 0, f] w fun e w' => e = .returned (.bool false) ∧ w' = w := by
  go_enter Tryd.func133, Tryd.ntmps133
  go_wp2_with (go_at_call 149; refine (IndexFunc_nil _ _).mono ?_; rintro e w' ⟨rfl, rfl⟩)
  go_ret
  exact ⟨rfl, rfl⟩

theorem info_span : (Tryd.prog.info? 111).map (fun i => (i.zero, i.size, i.bytes)) = some (some (.agg #[.int .i64 0, .int .i64 0, .int .u8 0]), 3, 24) := by kernel_rfl

def span0 : List Value := [.int .i64 16, .int .i64 16, .int .u8 255]

set_option maxRecDepth 100000 in
/-- One span is taken where none was. -/
theorem add_first (g : Nat) (w : World) (hb : Blk w g 217 #[.slice none 0 0, .slice none 0 0]) :
    Calls Tryd.prog 122 #[.pointer (some ⟨g, 0, none⟩), .agg #[.int .i64 16, .int .i64 16, .int .u8 255]] w fun e w' =>
      e = .returned (.int .i64 0) ∧ ∃ b cap, Blk w' g 217 #[.slice (some ⟨b, 0, none⟩) 1 cap, .slice none 0 0] ∧
        w'.ownsRow w.heap.size 111 3 (.slice (some ⟨b, 0, none⟩) 1 cap) 1 span0 ∧ Keeps (fun k => k = g) w w' := by
  obtain ⟨i0, hi0, hz0, hz1, hz2⟩ := info_parts info_span
  have hb_c0 := hb.cell 0; have hb_c1 := hb.cell 1; have hb_f0 := hb.frozen 0; have hb_f1 := hb.frozen 1; simp at hb_c0 hb_c1
  have hg := hb.lt
  go_enter Tryd.func122, Tryd.ntmps122
  go_wp2_with (fail)
  have hb2 := hb.alloc (.cells #[Value.int IntKind.i64 16, Value.int IntKind.i64 16, Value.int IntKind.u8 255] 111)
  have hx2 := Blk.new w 111 #[Value.int IntKind.i64 16, Value.int IntKind.i64 16, Value.int IntKind.u8 255]
  have hk2 := (Keeps.refl (fun k => k = g) w).alloc (.cells #[Value.int IntKind.i64 16, Value.int IntKind.i64 16, Value.int IntKind.u8 255] 111)
  have hs2 : (w.alloc (.cells #[Value.int IntKind.i64 16, Value.int IntKind.i64 16, Value.int IntKind.u8 255] 111)).heap.size = w.heap.size + 1 := by simp
  generalize hW : w.alloc _ = W at *
  generalize hB : w.heap.size = B at *
  have hb2_c0 := hb2.cell 0; have hb2_c1 := hb2.cell 1; have hb2_f0 := hb2.frozen 0; have hb2_f1 := hb2.frozen 1; simp at hb2_c0 hb2_c1
  have hx2_c0 := hx2.cell 0; have hx2_c1 := hx2.cell 1; have hx2_c2 := hx2.cell 2; simp at hx2_c0 hx2_c1 hx2_c2
  go_quiet (fail)
  go_wp2_with (fail)
  go_quiet ((go_at_call 133; exact quiet_add_same (ContainsFunc_nil _ _)))
  go_wp2_with (fail)
  go_quiet ((go_at_call 133; exact quiet_add_same (ContainsFunc_nil _ _)))
  go_wp2_with (fail)
  generalize hX : World.drewN _ _ = X
  have hb3 := hb2.eqh hX
  have hx3 := hx2.eqh hX
  have hk3 : Keeps (fun k => k = g) w X := by rw [← hX]; exact ((hk2.drewN _).drewN _).drewN _
  have hs3 : X.heap.size = B + 1 := by rw [← hX]; exact hs2
  have hs4 : B ≤ X.heap.size := by omega
  have hB4 : w.heap.size ≤ B := by omega
  clear hX hb2 hx2 hk2 hs2 hW hb2_c0 hb2_c1 hb2_f0 hb2_f1 hx2_c0 hx2_c1 hx2_c2 hB hs3
  have hb3_c0 := hb3.cell 0; have hb3_c1 := hb3.cell 1; have hb3_f0 := hb3.frozen 0; have hb3_f1 := hb3.frozen 1; simp at hb3_c0 hb3_c1
  have hx3_c0 := hx3.cell 0; have hx3_c1 := hx3.cell 1; have hx3_c2 := hx3.cell 2; simp at hx3_c0 hx3_c1 hx3_c2
  have a0 := fun o => cell_alloc hb3_c0 o
  have a1 := fun o => cell_alloc hx3_c0 o
  have a2 := fun o => cell_alloc hx3_c1 o
  have a3 := fun o => cell_alloc hx3_c2 o
  go_region_law ((refine step_append_lies _ rfl (.tmp 38) (.tmp 40) 93 rfl B 111 i0 _ 3 24 Tryd.underlying93 hi0 hz0 hz1 hz2 rfl (by omega) (.slice none 0 0) 0 [] (by rfl) (by exact World.ownsRow_nil _ _ _ _) ⟨X.heap.size, 0, none⟩ 1 1 span0 (by rfl) rfl (by exact news_new_drew _ _ _ _ (by simp)) (by simp [span0, Value.oneCell']) (by omega) (by unfold maxLen; omega) (by omega) (by go_size) _ rfl ?_; intro g1 cap1 w1 hown1 hg1 hat1 hlt1; have hb1 := (((hb3.alloc _).drew)).keeps ((Keeps.refl (fun k => False) _).grown hg1 (fun k hk => by simp [Value.ownBlock] at hk)) (fun h => h); have hb1_c0 := hb1.cell 0; have hb1_c1 := hb1.cell 1; have hb1_f0 := hb1.frozen 0; have hb1_f1 := hb1.frozen 1; simp at hb1_c0 hb1_c1))
  all_goals
    go_wp2
    go_ret
    have hne : g1 ≠ g := by
      rcases hat1 with h | h
      · simp [Value.ownBlock] at h
      · simp at h; omega
    refine ⟨rfl, g1, cap1, hb1.set_ 0 _, ?_, ?_⟩
    · refine own_base ?_ hB4
      exact ((Keeps.refl (fun k => k = g) w1).setCell (p := ⟨g, 0, none⟩) (.inl rfl) _).own hown1 (fun b hb => by simp [Value.ownBlock] at hb; omega)
    · exact (((hk3.alloc _).drew).grown hg1 (fun k hk => by simp [Value.ownBlock] at hk)).setCell (p := ⟨g, 0, none⟩) (.inl rfl) _
end Go.Proofs.YtbjhkgmojmggjaaDoor
