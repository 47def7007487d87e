/- The lexer at the one text 'secret $10': scan, Scan. Condition: the library's variable MaxLen holds some int. -/
import Derived.Test.YtbjhkgmojmggjaaDoorLexB
import Derived.Test.YtbjhkgmojmggjaaDoorRegion
namespace Go.Proofs.YtbjhkgmojmggjaaDoor
set_option linter.unusedSimpArgs false
set_option linter.unusedVariables false
set_option linter.unnecessarySimpa false
set_option linter.unusedSectionVars false
open Go.RowKit
attribute [local go_sem ↓] Go.wp_at_zero Go.wp_at_succ

set_option maxRecDepth 100000 in
set_option maxRecDepth 100000 in
set_option maxHeartbeats 2000000 in
theorem scan_S0 (g : Nat) (w : World) (hb : Blk w g 227 #[.string (⟨#[115, 101, 99, 114, 101, 116, 32, 36, 49, 48]⟩ : ByteArray), .int .i64 1, .int .i64 0, .slice none 0 0]) :
    Calls Tryd.prog 129 #[.pointer (some ⟨g, 0, none⟩)] w fun e w' =>
      e = .returned (.tuple #[.agg #[.int .i64 0, .int .i64 0], .int .i64 0]) ∧ ∃ b cap, Blk w' g 227 #[.string (⟨#[115, 101, 99, 114, 101, 116, 32, 36, 49, 48]⟩ : ByteArray), .int .i64 1, .int .i64 10, .slice (some ⟨b, 0, none⟩) 3 cap] ∧
        w'.ownsRow w.heap.size 199 5 (.slice (some ⟨b, 0, none⟩) 3 cap) 3 [.int .i64 1, .string ⟨#[115, 101, 99, 114, 101, 116]⟩, .int .i64 0, .int .i64 1, .int .i64 1,
          .int .i64 2, .string ByteArray.empty, .int .i64 16, .int .i64 1, .int .i64 8, .int .i64 4, .string ByteArray.empty, .int .i64 0, .int .i64 1, .int .i64 11] ∧
        Keeps (fun k => k = g) w w' := by
  have c0 := hb.cell 0
  have c2 := hb.cell 2
  simp at c0 c2
  have hlt := hb.lt
  have x0 := S0_0
  have hmf := @run_makeFunc_any Tryd.prog
  go_enter Tryd.func129, Tryd.ntmps129
  go_wp2
  refine wp_scope_passes 0 4 (by rfl) ?_
  go_wp2
  go_step3
  trace "3"
  generalize hW : (w.alloc (Obj.cells #[Value.pointer (some ⟨g, 0, none⟩)] 225)).alloc (Obj.cells #[Value.int IntKind.i64 0, Value.int IntKind.i64 0] 132) = W
  have hbg : Blk W g 227 #[.string (⟨#[115, 101, 99, 114, 101, 116, 32, 36, 49, 48]⟩ : ByteArray), .int .i64 1, .int .i64 0, .slice none 0 0] := by rw [← hW]; exact (hb.alloc _).alloc _
  have hbx : Blk W w.heap.size 225 #[Value.pointer (some ⟨g, 0, none⟩)] := by rw [← hW]; exact (Blk.new _ _ _).alloc _
  have hbr : Blk W (w.heap.size + 1) 132 #[Value.int IntKind.i64 0, Value.int IntKind.i64 0] := by rw [← hW]; simpa using Blk.new (w.alloc (Obj.cells #[Value.pointer (some ⟨g, 0, none⟩)] 225)) _ _
  have hkW : Keeps (fun k => k = g) w W := by rw [← hW]; exact ((Keeps.refl _ w).alloc _).alloc _
  have hsz : w.heap.size + 1 < W.heap.size := hbr.lt
  clear hW c0 c2 hb
  generalize hN : w.heap.size = bx at *
  have hNle : w.heap.size ≤ bx := by omega
  clear hN
  have d0 := hbg.cell 0
  have d2 := hbg.cell 2
  have dx := hbx.cell 0
  simp at d0 d2 dx
  go_wp2
  go_quiet (fail)
  go_wp2
  go_quiet (fail)
  go_wp2_with (go_at_call 142; refine (next_word g bx _ (by exact hbg) (by show bx ≤ W.heap.size; omega)).mono ?_; rintro e w1 ⟨rfl, b1, cap1, hb1, hown1, hat1, hk1⟩; have p0 := hb1.cell 0; have p2 := hb1.cell 2; have hbx1 : Blk w1 bx 225 #[Value.pointer (some ⟨g, 0, none⟩)] := (show Blk (W.drewN _) _ _ _ from hbx).keeps hk1 (by omega); have hbr1 : Blk w1 (bx + 1) 132 #[Value.int IntKind.i64 0, Value.int IntKind.i64 0] := (show Blk (W.drewN _) _ _ _ from hbr).keeps hk1 (by omega); have px := hbx1.cell 0; simp at p0 p2 px)
  go_step3
  refine ⟨rfl, ?_⟩
  rw [scopePasses_succ]
  clear d0 d2 dx x0
  have hkw1 : Keeps (fun k => k = g) w w1 := (hkW.drewN _).trans hk1 (fun x _ hx => hx)
  have hsz1 : bx + 1 < w1.heap.size := Nat.lt_of_lt_of_le hsz hk1.size
  have hb1g : b1 ≠ g := by have := hat1; simp at this; omega
  have hb1x : bx + 1 < b1 := Nat.lt_of_lt_of_le hsz hat1
  clear hk1 hat1 hkW hbg hbx hbr hsz
  have q2 := hb1.frozen 2
  have x6 := S0_6
  trace "pass 2"
  go_wp2
  go_quiet (fail)
  go_wp2
  go_quiet (fail)
  go_wp2_with (fail)
  go_step3
  refine ⟨rfl, ?_⟩
  rw [scopePasses_succ]
  generalize hW2 : World.setCell _ _ _ = W2
  have hb2 : Blk W2 g 227 #[.string (⟨#[115, 101, 99, 114, 101, 116, 32, 36, 49, 48]⟩ : ByteArray), .int .i64 1, .int .i64 7, .slice (some ⟨b1, 0, none⟩) 1 cap1] := by rw [← hW2]; exact Blk.set_ (w := w1.drewN _) hb1 2 _
  have hk2 : Keeps (fun k => k = g) w1 W2 := by rw [← hW2]; exact ((Keeps.refl (fun k => k = g) w1).drewN _).setCell (p := ⟨g, 2, none⟩) (.inl rfl) _
  have hown2 := hk2.own hown1 (fun b hb => by simp [Value.ownBlock] at hb; omega)
  have hbx2 := hbx1.keeps hk2 (by omega)
  have hbr2 := hbr1.keeps hk2 (by omega)
  have hkw2 := hkw1.trans hk2 (fun x _ hx => hx)
  have hsz2 : bx + 1 < W2.heap.size := Nat.lt_of_lt_of_le hsz1 hk2.size
  clear hW2 hb1 hbx1 hbr1 hk2 hown1 p0 p2 px q2 x6 hkw1 hsz1
  have p0 := hb2.cell 0
  have p2 := hb2.cell 2
  have px := hbx2.cell 0
  simp at p0 p2 px
  have x7 := S0_7
  trace "pass 3"
  go_wp2
  go_quiet (fail)
  go_wp2
  go_quiet (fail)
  go_wp2_with (go_at_call 142; refine (next_num g _ bx _ _ (by exact hb2) (by exact hown2) (by simp [Value.ownBlock]; omega) (by show bx ≤ W2.heap.size; omega)).mono ?_; rintro e w3 ⟨rfl, b3, cap3, hb3, hown3, hat3, hk3⟩; have p0' := hb3.cell 0; have p2' := hb3.cell 2; have p3' := hb3.cell 3; have hbx3 : Blk w3 bx 225 #[Value.pointer (some ⟨g, 0, none⟩)] := (show Blk (W2.drewN _) _ _ _ from hbx2).keeps hk3 (by simp [Value.ownBlock]; omega); have hbr3 : Blk w3 (bx + 1) 132 #[Value.int IntKind.i64 0, Value.int IntKind.i64 0] := (show Blk (W2.drewN _) _ _ _ from hbr2).keeps hk3 (by simp [Value.ownBlock]; omega); have px' := hbx3.cell 0; simp at p0' p2' p3' px')
  go_step3
  refine ⟨rfl, ?_⟩
  rw [scopePasses_succ]
  have hkw3 : Keeps (fun k => k = g) w w3 := (hkw2.drewN _).trans hk3 (fun x hx hx' => by
    rcases hx' with h | h
    · exact h
    · simp [Value.ownBlock] at h; omega)
  have hsz3 : bx + 1 < w3.heap.size := Nat.lt_of_lt_of_le hsz2 hk3.size
  have hb3x : bx + 1 < b3 := by
    rcases hat3 with h | h
    · simp [Value.ownBlock] at h; omega
    · exact Nat.lt_of_lt_of_le hsz2 h
  clear hk3 hat3 hkw2 hb2 hbx2 hbr2 hown2 hsz2 p0 p2 px x7
  trace "pass 4"
  go_wp2
  go_quiet (fail)
  go_wp2_with (fail)
  generalize hW5 : w3.drewN _ = W5
  have hb5 : Blk W5 g 227 #[.string (⟨#[115, 101, 99, 114, 101, 116, 32, 36, 49, 48]⟩ : ByteArray), .int .i64 1, .int .i64 10, .slice (some ⟨b3, 0, none⟩) 2 cap3] := by rw [← hW5]; exact hb3
  have hbx5 : Blk W5 bx 225 #[Value.pointer (some ⟨g, 0, none⟩)] := by rw [← hW5]; exact hbx3
  have hbr5 : Blk W5 (bx + 1) 132 #[Value.int IntKind.i64 0, Value.int IntKind.i64 0] := by rw [← hW5]; exact hbr3
  have hkw5 : Keeps (fun k => k = g) w W5 := by rw [← hW5]; exact hkw3.drewN _
  have hsz5 : bx + 1 < W5.heap.size := by rw [← hW5]; exact hsz3
  have hown5 : W5.ownsRow bx 199 5 (.slice (some ⟨b3, 0, none⟩) 2 cap3) 2 [.int .i64 1, .string ⟨#[115, 101, 99, 114, 101, 116]⟩, .int .i64 0, .int .i64 1, .int .i64 1, .int .i64 2, .string ByteArray.empty, .int .i64 16, .int .i64 1, .int .i64 8] := by rw [← hW5]; exact hown3
  clear hW5 hb3 hbx3 hbr3 hkw3 hsz3 hown3 p0' p2' p3' px'
  have p3 := hb5.cell 3
  have px := hbx5.cell 0
  simp at p3 px
  obtain ⟨i0, hi0, hz0, hz1, hz2⟩ := info_parts info_token
  have gl := hb5.lt
  have bl := hbx5.lt
  -- BEGIN region 5
  refine wp_region_N (fun w' => w'.cell? ⟨bx, 0, none⟩ = some (.pointer (some ⟨g, 0, none⟩)) ∧ w'.cell? ⟨g, 3, none⟩ = some (.slice (some ⟨b3, 0, none⟩) 2 cap3)) 11 (by kernel_rfl) ?_
  have hS : W5.drew.cell? ⟨bx, 0, none⟩ = some (.pointer (some ⟨g, 0, none⟩)) ∧ W5.drew.cell? ⟨g, 3, none⟩ = some (.slice (some ⟨b3, 0, none⟩) 2 cap3) := ⟨px, p3⟩
  refine wpAnyN_take (i := 0) (v := ?_) rfl (by kernel_rfl) (by kernel_rfl) (by kernel_rfl) (by kernel_rfl) (fun _ _ _ h => h) (Or.inl ⟨by rfl, ?_⟩) hS ?_
  rotate_left
  · rintro w ⟨h1, h2⟩
    go_simp
    try with_reducible rfl
  simp only [Act.put, List.setIfInBounds_toArray, List.set_cons_zero, List.set_cons_succ]
  refine wpAnyN_take (i := 1) (v := ?_) rfl (by kernel_rfl) (by kernel_rfl) (by kernel_rfl) (by kernel_rfl) (fun _ _ _ h => h) (Or.inl ⟨by rfl, ?_⟩) hS ?_
  rotate_left
  · rintro w ⟨h1, h2⟩
    go_simp
    try with_reducible rfl
  simp only [Act.put, List.setIfInBounds_toArray, List.set_cons_zero, List.set_cons_succ]
  refine wpAnyN_take (i := 2) (v := ?_) rfl (by kernel_rfl) (by kernel_rfl) (by kernel_rfl) (by kernel_rfl) (fun _ _ _ h => h) (Or.inl ⟨by rfl, ?_⟩) hS ?_
  rotate_left
  · rintro w ⟨h1, h2⟩
    go_simp
    try with_reducible rfl
  simp only [Act.put, List.setIfInBounds_toArray, List.set_cons_zero, List.set_cons_succ]
  refine wpAnyN_take (i := 3) (v := ?_) rfl (by kernel_rfl) (by kernel_rfl) (by kernel_rfl) (by kernel_rfl) (fun _ _ _ h => h) (Or.inl ⟨by rfl, ?_⟩) hS ?_
  rotate_left
  · rintro w ⟨h1, h2⟩
    go_simp
    try with_reducible rfl
  simp only [Act.put, List.setIfInBounds_toArray, List.set_cons_zero, List.set_cons_succ]
  refine wpAnyN_take (i := 4) (v := ?_) rfl (by kernel_rfl) (by kernel_rfl) (by kernel_rfl) (by kernel_rfl) (fun _ _ _ h => h) (Or.inl ⟨by rfl, ?_⟩) hS ?_
  rotate_left
  · rintro w ⟨h1, h2⟩
    go_simp
    try with_reducible rfl
  simp only [Act.put, List.setIfInBounds_toArray, List.set_cons_zero, List.set_cons_succ]
  refine wpAnyN_take (i := 5) (v := ?_) rfl (by kernel_rfl) (by kernel_rfl) (by kernel_rfl) (by kernel_rfl) (fun _ _ _ h => h) (Or.inl ⟨by rfl, ?_⟩) hS ?_
  rotate_left
  · rintro w ⟨h1, h2⟩
    go_simp
    try with_reducible rfl
  simp only [Act.put, List.setIfInBounds_toArray, List.set_cons_zero, List.set_cons_succ]
  refine wpAnyN_take (i := 6) (v := ?_) rfl (by kernel_rfl) (by kernel_rfl) (by kernel_rfl) (by kernel_rfl) (fun _ _ _ h => h) (Or.inl ⟨by rfl, ?_⟩) hS ?_
  rotate_left
  · rintro w ⟨h1, h2⟩
    go_simp
    try with_reducible rfl
  simp only [Act.put, List.setIfInBounds_toArray, List.set_cons_zero, List.set_cons_succ]
  refine wpAnyN_one (i := 7) rfl (by kernel_rfl) (fun K hK => ?_)
  go_simp
  refine (place_any g _ _ 1 10 _ _ (by exact hb5) (by omega) (by omega)).mono ?_
  rintro e w' ⟨rfl, rfl⟩
  refine hK.out _ _ (fun _ => ⟨(hbx5.drew.alloc _).cell 0, (hb5.drew.alloc _).cell 3⟩) (fun hS' => ?_)
  clear hK K
  replace hS := hS' (by omega)
  clear hS'
  try simp only [Act.put, List.setIfInBounds_toArray, List.set_cons_zero, List.set_cons_succ]
  refine wpAnyN_take (i := 8) (v := ?_) rfl (by kernel_rfl) (by kernel_rfl) (by kernel_rfl) (by kernel_rfl) (fun _ _ _ h => h) (Or.inl ⟨by rfl, ?_⟩) hS ?_
  rotate_left
  · rintro w ⟨h1, h2⟩
    go_simp
    try with_reducible rfl
  simp only [Act.put, List.setIfInBounds_toArray, List.set_cons_zero, List.set_cons_succ]
  refine wpAnyN_one (i := 9) rfl (by kernel_rfl) (fun K hK => ?_)
  go_simp
  refine hK.out _ _ (fun _ => ⟨((hbx5.drew.alloc _).alloc _).cell 0, ((hb5.drew.alloc _).alloc _).cell 3⟩) (fun hS' => ?_)
  clear hK K
  replace hS := hS' (by omega)
  clear hS'
  try simp only [Act.put, List.setIfInBounds_toArray, List.set_cons_zero, List.set_cons_succ]
  refine wpAnyN_one (i := 10) rfl (by kernel_rfl) (fun K hK => ?_)
  refine step_append_lies _ (by rfl) (.tmp 40) (.tmp 45) 189 (by rfl) bx 199 i0 _ 5 48 Tryd.underlying189 hi0 hz0 hz1 hz2 (by rfl) (by omega) (.slice (some ⟨b3, 0, none⟩) 2 cap3) 2 _ (by rfl) (by exact own_drew ((hown5.alloc _).alloc _)) ⟨W5.heap.size + 1, 0, none⟩ 1 1 [.int .i64 4, .string ByteArray.empty, .int .i64 0, .int .i64 1, .int .i64 11] (by rfl) (by rfl) (by exact news_new_drew _ _ _ _ (by simp)) (by simp [Value.oneCell']) (by omega) (by unfold maxLen; omega) (by omega) (by go_size) _ (by rfl) ?_
  intro g1 cap1 w6 hown6 hg6 hat6 hlt6
  have hkk : Keeps (fun k => k = b3) _ w6 := (Keeps.refl (fun k => k = b3) _).grown hg6 (fun k hk => .inl (by simpa [Value.ownBlock] using hk.symm))
  have hb6 := (((hb5.alloc _).alloc _).drew).keeps hkk (by omega)
  have hbx6 := (((hbx5.alloc _).alloc _).drew).keeps hkk (by omega)
  have hbr6 := (((hbr5.alloc _).alloc _).drew).keeps hkk (by omega)
  have c3 := hb6.cell 3
  have cx := hbx6.cell 0
  have f3 := hb6.frozen 3
  simp at c3 cx
  refine hK.out _ _ (fun _ => ⟨cx, c3⟩) (fun hS' => ?_)
  clear hK K
  replace hS := hS' (by omega)
  clear hS'
  try simp only [Act.put, List.setIfInBounds_toArray, List.set_cons_zero, List.set_cons_succ]
  refine wpAnyN_one (i := 11) rfl (by kernel_rfl) (fun K hK => ?_)
  go_simp
  refine hK.out _ _ (fun h => absurd h (by omega)) (fun _ => ?_)
  clear hK K
  try simp only [Act.put, List.setIfInBounds_toArray, List.set_cons_zero, List.set_cons_succ]
  refine wpAnyN_one (i := 12) rfl (by kernel_rfl) (fun K hK => ?_)
  go_simp
  refine hK.out _ _ (fun h => absurd h (by omega)) (fun _ => ?_)
  clear hK K
  try simp only [Act.put, List.setIfInBounds_toArray, List.set_cons_zero, List.set_cons_succ]
  refine wpAnyN_one (i := 13) rfl (by kernel_rfl) (fun K hK => ?_)
  go_simp
  refine hK.out _ _ (fun h => absurd h (by omega)) (fun _ => ?_)
  clear hK K
  try simp only [Act.put, List.setIfInBounds_toArray, List.set_cons_zero, List.set_cons_succ]
  refine wpAnyN_done (by kernel_rfl) ?_ _
  -- END region 5
  have dr0 := hbr6.cell 0
  have dr1 := hbr6.cell 1
  have fr0 := hbr6.frozen 0
  have fr1 := hbr6.frozen 1
  simp at dr0 dr1
  go_wp2
  rw [Exit.jump_ret']
  have hg1 : g1 ≠ g ∧ bx + 1 < g1 := by
    rcases hat6 with h | h
    · simp [Value.ownBlock] at h; omega
    · simp at h; omega
  generalize hW7 : World.setCell _ _ _ = W7
  have hb7 : Blk W7 g 227 #[.string (⟨#[115, 101, 99, 114, 101, 116, 32, 36, 49, 48]⟩ : ByteArray), .int .i64 1, .int .i64 10, .slice (some ⟨g1, 0, none⟩) 3 cap1] := by
    rw [← hW7]
    exact ((hb6.set_ 3 _).far (p := ⟨bx + 1, 0, none⟩) (by simp; omega) _).far (p := ⟨bx + 1, 1, none⟩) (by simp; omega) _
  have hbr7 : Blk W7 (bx + 1) 132 #[.int .i64 0, .int .i64 0] := by
    rw [← hW7]
    exact (((hbr6.far (p := ⟨g, 3, none⟩) (by simp; omega) _).set_ 0 _).set_ 1 _)
  have hk7 : Keeps (fun k => k = g ∨ k = bx + 1) w6 W7 := by
    rw [← hW7]
    exact (((Keeps.refl (fun k => k = g ∨ k = bx + 1) w6).setCell (p := ⟨g, 3, none⟩) (.inl (.inl rfl)) _).setCell (p := ⟨bx + 1, 0, none⟩) (.inl (.inr rfl)) _).setCell (p := ⟨bx + 1, 1, none⟩) (.inl (.inr rfl)) _
  have hown7 := hk7.own hown6 (fun b hb => by simp [Value.ownBlock] at hb; omega)
  have e0 := hbr7.cell 0
  have e1 := hbr7.cell 1
  simp at e0 e1
  clear hW7
  refine bodyPost_ret (v := .tuple #[.agg #[.int .i64 0, .int .i64 0], .int .i64 0]) (by simp [results, Tryd.results129, go_sem, e0, e1]) rfl ⟨rfl, g1, cap1, hb7, own_base hown7 hNle, ?_⟩
  have hk6 : Keeps (fun k => k = g) w w6 := (((hkw5.alloc _).alloc _).drew).grown hg6 (fun k hk => .inr (by simp [Value.ownBlock] at hk; omega))
  exact hk6.trans hk7 (fun x hx hx' => by omega)
end Go.Proofs.YtbjhkgmojmggjaaDoor
