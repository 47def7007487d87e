/- labels.New at one secret span: the table's small functions and its making. No condition beyond what each states. -/
import Derived.Test.YtbjhkgmojmggjaaDoorPolG
import Derived.LaidEqlPtr
namespace Go.Proofs.YtbjhkgmojmggjaaDoor
set_option linter.unusedSimpArgs false
set_option linter.unusedVariables false
set_option linter.unnecessarySimpa false
set_option linter.unusedSectionVars false
open Go.RowKit
attribute [local go_sem ↓] Go.wp_at_zero Go.wp_at_succ

theorem there_yes (p : Addr) (k : Int) (h0 : 0 ≤ k) (h1 : k < 65536) (w : World) :
    Calls Tryd.prog 113 #[.pointer (some p), .int .i64 k] w fun e w' => e = .returned (.bool true) ∧ w' = w := by
  go_enter Tryd.func113, Tryd.ntmps113
  go_wp2_with (fail)
  go_ret
  exact ⟨rfl, rfl⟩

theorem Secret_any (g : Nat) (k : Int) (h0 : 0 ≤ k) (h1 : k < 65536) (x : Int) (w : World) (hc : w.cell? ⟨g, 4 + k.toNat, none⟩ = some (.int .u8 x)) :
    Calls Tryd.prog 67 #[.pointer (some ⟨g, 0, none⟩), .int .i64 k] w fun e w' => e = .returned (.int .u8 x) ∧ w' = w := by
  go_enter Tryd.func67, Tryd.ntmps67
  go_wp2_with (go_at_call 113; refine (there_yes _ _ h0 h1 _).mono ?_; rintro e w' ⟨rfl, rfl⟩)
  go_ret
  exact ⟨rfl, rfl⟩

theorem zc3 : Tryd.zeroCells177[3]? = some (.int .i64 0) := by
  rw [← Array.getElem?_toList]
  kernel_rfl
theorem zc20 : Tryd.zeroCells177[20]? = some (.int .u8 0) := by
  rw [← Array.getElem?_toList]
  kernel_rfl
theorem zc21 : Tryd.zeroCells177[21]? = some (.int .u8 0) := by
  rw [← Array.getElem?_toList]
  kernel_rfl
theorem table_cells (z : Array Value) (a b c d : Value) (h3 : z[3]? = some (.int .i64 0)) (h20 : z[20]? = some (.int .u8 0)) (h21 : z[21]? = some (.int .u8 0)) :
    let cs := (((z.setIfInBounds 0 a).setIfInBounds 1 b).setIfInBounds 2 c).setIfInBounds 3 d
    cs[0]? = some a ∧ cs[1]? = some b ∧ cs[20]? = some (.int .u8 0) ∧ cs[21]? = some (.int .u8 0) := by
  have hz : 3 < z.size := (Array.getElem?_eq_some_iff.1 h3).1
  have h0 : 0 < z.size := by omega
  have h1 : 1 < z.size := by omega
  simp [h0, h1, h20, h21]
theorem size_arr : (Tryd.prog.info? 175).map (fun i => i.size) = some 65536 := by kernel_rfl

set_option maxRecDepth 100000 in
set_option maxHeartbeats 2000000 in
theorem New_one (b cap B : Nat) (w : World) (hown : w.ownsRow B 111 3 (.slice (some ⟨b, 0, none⟩) 1 cap) 1 span0) :
    Calls Tryd.prog 49 #[.agg #[.slice (some ⟨b, 0, none⟩) 1 cap, .slice none 0 0, .int .i64 0, .int .i64 1024]] w fun e w' =>
      ∃ g, e = .returned (.tuple #[.pointer (some ⟨g, 0, none⟩), .int .i64 0]) ∧ w.heap.size ≤ g ∧ w'.cell? ⟨g, 4 + 16, none⟩ = some (.int .u8 255) ∧ w'.cell? ⟨g, 4 + 17, none⟩ = some (.int .u8 0) ∧ Below w.heap.size w w' := by
  go_enter Tryd.func49, Tryd.ntmps49
  go_wp2_with (fail)
  refine wp_scope_straight ?_
  have p1 := Blk.new w 95 #[.slice (some ⟨b, 0, none⟩) 1 cap, .slice none 0 0, .int .i64 0, .int .i64 1024]
  have k1 := (Keeps.refl (fun _ => False) w).alloc (.cells #[.slice (some ⟨b, 0, none⟩) 1 cap, .slice none 0 0, .int .i64 0, .int .i64 1024] 95)
  generalize hW : World.alloc _ _ = W at *
  clear hW
  have own1 := k1.own hown (fun _ _ h => h)
  clear hown
  generalize hB : w.heap.size = B0 at *
  have p1_c0 := p1.cell 0; have p1_c1 := p1.cell 1; have p1_c2 := p1.cell 2; have p1_c3 := p1.cell 3; simp at p1_c0 p1_c1 p1_c2 p1_c3
  go_wp2_with (fail)
  refine (Check_one _ _ _ _ own1).mono ?_
  rintro e w2 ⟨rfl, bel2⟩
  have p2 := p1.later bel2
  have k2 := k1.trans (Keeps.of_below bel2 (S := fun _ => False)) (fun _ _ h => h)
  have own2 := (Keeps.of_below bel2 (S := fun _ => False)).own own1 (fun _ _ h => h)
  have hlt1 : B0 < W.heap.size := p1.lt
  have hlt2 := bel2.size
  clear p1 k1 own1 bel2 p1_c0 p1_c1 p1_c2 p1_c3
  have p2_c0 := p2.cell 0; have p2_c1 := p2.cell 1; have p2_c2 := p2.cell 2; have p2_c3 := p2.cell 3; simp at p2_c0 p2_c1 p2_c2 p2_c3
  go_wp2_with (fail)
  refine (Sorted_one _ _ _ _ _ _ own2).mono ?_
  rintro e w3 ⟨b', cap', rfl, own3, bel3⟩
  have p3 := p2.later bel3
  have k3 := k2.trans (Keeps.of_below bel3 (S := fun _ => False)) (fun _ _ h => h)
  clear p2 k2 own2 p2_c0 p2_c1 p2_c2 p2_c3
  go_wp2_with (fail)
  have hlt3 := bel3.size
  have hf := table_cells _ (.slice (some ⟨b', 0, none⟩) 1 cap') (.slice none 0 0) (.int .i64 0) (.int .i64 1024) zc3 zc20 zc21
  generalize hcs : ((((Tryd.zeroCells177.setIfInBounds 0 (Value.slice (some ⟨b', 0, none⟩) 1 cap')).setIfInBounds 1 (Value.slice none 0 0)).setIfInBounds 2 (Value.int IntKind.i64 0)).setIfInBounds 3 (Value.int IntKind.i64 1024)) = cs at *
  clear hcs
  obtain ⟨hc0, hc1, hc20, hc21⟩ := hf
  have t4 := Blk.new w3 177 cs
  have own4 := own3.alloc (.cells cs 177)
  have k4 := k3.alloc (.cells cs 177)
  generalize hW : World.alloc _ _ = W4 at *
  clear hW k3 own3 p3 bel3
  generalize hT : w3.heap.size = T at *
  have hbT := own4.lt b' (by rfl)
  have hT0 : B0 ≤ T := by omega
  have c0 := (t4.cell 0).trans hc0
  have c1 := (t4.cell 1).trans hc1
  clear hc0
  go_quiet (fail)
  rename_i nq
  go_wp2_with (fail)
  have t5 := t4.drewN nq
  have own5 : (W4.drewN nq).ownsRow B0 111 3 (.slice (some ⟨b', 0, none⟩) 1 cap') 1 span0 := own_base own4 (by omega)
  have k5 := k4.drewN nq
  generalize hW : World.drewN _ _ = W5 at *
  clear hW t4 own4 k4 c0 c1
  go_step3
  go_wp2_with (fail)
  refine wp_loop_rounds 2 ?_
  rw [rounds_succ]
  go_wp2_with (fail)
  refine wp_loop_rounds 2 ?_
  rw [rounds_succ]
  have cs5 := World.ownsRow.cells own5 rfl
  have x0 : W5.cell? ⟨b', 0, none⟩ = _ := cs5 0 _ rfl
  have x1 : W5.cell? ⟨b', 1, none⟩ = _ := cs5 1 _ rfl
  have x2 : W5.cell? ⟨b', 2, none⟩ = _ := cs5 2 _ rfl
  go_wp2_with (fail)
  have y6 := Blk.new W5 111 #[.int .i64 16, .int .i64 16, .int .u8 255]
  have t6 := t5.alloc (.cells #[.int .i64 16, .int .i64 16, .int .u8 255] 111)
  have k6 := k5.alloc (.cells #[.int .i64 16, .int .i64 16, .int .u8 255] 111)
  have hlt5 : T < W5.heap.size := t5.lt
  generalize hW : World.alloc _ _ = W6 at *
  clear hW own5 k5 t5 x0 x1 x2 cs5
  generalize hX : W5.heap.size = X at *
  have y6_c0 := y6.cell 0; have y6_c1 := y6.cell 1; have y6_c2 := y6.cell 2; simp at y6_c0 y6_c1 y6_c2
  have c20 : W6.cell? ⟨T, 20, none⟩ = _ := (t6.cell 20).trans hc20
  have f20 : W6.frozen? ⟨T, 20, none⟩ = false := t6.frozen 20
  refine wp_loop_rounds 2 ?_
  rw [rounds_succ]
  go_wp2_with (fail)
  refine wp_region_P (fun w' => w'.cell? ⟨X, 2, none⟩ = some (.int .u8 255)) [3] (by kernel_rfl) ?_
  have hS : W6.drew.cell? ⟨X, 2, none⟩ = some (.int .u8 255) := y6_c2
  refine wpAnyP_free (i := 0) (v := ?_) rfl (by kernel_rfl) (by kernel_rfl) (by kernel_rfl) (by kernel_rfl) (fun _ _ _ h => h) (Or.inl ⟨by rfl, ?_⟩) ?_
  rotate_left
  · rintro w _
    go_simp
    try with_reducible rfl
  simp only [Act.put, List.getElem_toArray, List.getElem_cons_succ, List.getElem_cons_zero, List.setIfInBounds_toArray, List.set_cons_zero, List.set_cons_succ]
  refine wpAnyP_free (i := 1) (v := ?_) rfl (by kernel_rfl) (by kernel_rfl) (by kernel_rfl) (by kernel_rfl) (fun _ _ _ h => h) (Or.inl ⟨by rfl, ?_⟩) ?_
  rotate_left
  · rintro w _
    go_simp
    try with_reducible rfl
  simp only [Act.put, List.getElem_toArray, List.getElem_cons_succ, List.getElem_cons_zero, List.setIfInBounds_toArray, List.set_cons_zero, List.set_cons_succ]
  refine wpAnyP_free (i := 2) (v := ?_) rfl (by kernel_rfl) (by kernel_rfl) (by kernel_rfl) (by kernel_rfl) (fun _ _ _ h => h) (Or.inl ⟨by rfl, ?_⟩) ?_
  rotate_left
  · rintro w _
    go_simp
    try with_reducible rfl
  simp only [Act.put, List.getElem_toArray, List.getElem_cons_succ, List.getElem_cons_zero, List.setIfInBounds_toArray, List.set_cons_zero, List.set_cons_succ]
  refine wpAnyP_free (i := 4) (v := ?_) rfl (by kernel_rfl) (by kernel_rfl) (by kernel_rfl) (by kernel_rfl) (fun _ _ _ h => h) (Or.inl ⟨by rfl, ?_⟩) ?_
  rotate_left
  · rintro w _
    go_simp
    try with_reducible rfl
  simp only [Act.put, List.getElem_toArray, List.getElem_cons_succ, List.getElem_cons_zero, List.setIfInBounds_toArray, List.set_cons_zero, List.set_cons_succ]
  refine wpAnyP_take (i := 3) (v := ?_) rfl (by kernel_rfl) (by kernel_rfl) (by kernel_rfl) (by kernel_rfl) (fun _ _ _ h => h) (Or.inl ⟨by rfl, ?_⟩) hS ?_
  rotate_left
  · rintro w h1
    go_simp
    try with_reducible rfl
  simp only [Act.put, List.getElem_toArray, List.getElem_cons_succ, List.getElem_cons_zero, List.setIfInBounds_toArray, List.set_cons_zero, List.set_cons_succ]
  refine wpAnyP_one (i := 5) rfl (by kernel_rfl) (fun K hK => ?_)
  go_simp
  refine hK.out _ _ (fun h => absurd h (by decide)) (fun _ => ?_)
  clear hK K
  try simp only [Act.put, List.setIfInBounds_toArray, List.set_cons_zero, List.set_cons_succ]
  refine wpAnyP_one (i := 6) rfl (by kernel_rfl) (fun K hK => ?_)
  go_simp
  refine hK.out _ _ (fun h => absurd h (by decide)) (fun _ => ?_)
  clear hK K
  try simp only [Act.put, List.setIfInBounds_toArray, List.set_cons_zero, List.set_cons_succ]
  refine wpAnyP_done (by kernel_rfl) ?_ _
  have t7 : Blk _ T 177 _ := (t6.set_ 20 (.int .u8 255)).drew
  have y7 : Blk _ X 111 _ := (y6.far (p := ⟨T, 20, none⟩) (by simp; omega) (.int .u8 255)).drew
  have k7 := (k6.setCell (p := ⟨T, 20, none⟩) (.inr (by simp; omega)) (.int .u8 255)).drew
  clear hS
  generalize hW : World.drew (World.setCell _ _ _) = W7 at *
  have hW6 : T < W6.heap.size := t6.lt
  clear hW t6 y6 k6 c20 f20 y6_c0 y6_c1 y6_c2
  have hd20 : (cs.setIfInBounds 20 (.int .u8 255))[20]? = some (.int .u8 255) := by
    have : 20 < cs.size := (Array.getElem?_eq_some_iff.1 hc20).1
    simp [this]
  have hd21 : (cs.setIfInBounds 20 (.int .u8 255))[21]? = some (.int .u8 0) := by
    rw [Array.getElem?_setIfInBounds_ne (by decide)]
    exact hc21
  have hd1 : (cs.setIfInBounds 20 (.int .u8 255))[1]? = some (.slice none 0 0) := by
    rw [Array.getElem?_setIfInBounds_ne (by decide)]
    exact hc1
  generalize hds : cs.setIfInBounds 20 (.int .u8 255) = ds at *
  clear hds hc20 hc21
  have y7_c0 := y7.cell 0; have y7_c1 := y7.cell 1; have y7_c2 := y7.cell 2; simp at y7_c0 y7_c1 y7_c2
  have c1 : W7.cell? ⟨T, 1, none⟩ = _ := (t7.cell 1).trans hd1
  go_wp2_with (fail)
  rw [rounds_succ]
  go_wp2_with (fail)
  rw [rounds_succ]
  obtain ⟨ja, hja, hjs⟩ := Option.map_eq_some_iff.1 size_arr
  have hne := run_eql_ptr_other (P := Tryd.prog) W7 (a := ⟨T, 4, none⟩) (b := ⟨T, 65540, none⟩) Tryd.underlying178 hja (by rw [hjs]; decide) (by simp) t7 t7
  have heq := fun w => run_eql_ptr_same (P := Tryd.prog) w ⟨T, 65540, none⟩ Tryd.underlying178 hja
  go_wp2_with (fail)
  go_quiet (fail)
  clear hne
  generalize hW : World.drewN _ _ = W8
  have t8 := t7.eqh hW
  have k8 : Keeps (fun _ => False) w W8 := hW ▸ k7.drewN _
  clear hW t7 k7 y7 y7_c0 y7_c1 y7_c2 c1
  go_wp2_with (fail)
  rw [rounds_succ]
  go_wp2_with (fail)
  refine wp_loop_rounds 1 ?_
  rw [rounds_succ]
  go_wp2_with (fail)
  refine noGoto_ret' ?_
  refine bodyPost_ret (v := .tuple #[.pointer (some ⟨T, 0, none⟩), .int .i64 0]) (by simp [results, Tryd.results49, go_sem]) rfl ⟨T, rfl, by omega, ?_, ?_, k8.below (by omega) (fun _ _ h => h)⟩
  · exact (t8.cell 20).trans hd20
  · exact (t8.cell 21).trans hd21
end Go.Proofs.YtbjhkgmojmggjaaDoor
