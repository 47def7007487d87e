/- The policy reader's 'span' at '16', end. No condition beyond what it states. -/
import Derived.Test.YtbjhkgmojmggjaaDoorPolB
namespace Go.Proofs.YtbjhkgmojmggjaaDoor
set_option linter.unusedSimpArgs false
set_option linter.unusedVariables false
set_option linter.unnecessarySimpa false
set_option linter.unusedSectionVars false
open Go.RowKit
attribute [local go_sem ↓] Go.wp_at_zero Go.wp_at_succ

set_option maxRecDepth 100000 in
set_option maxHeartbeats 1000000 in
theorem span_first (g bt off c : Nat) (seen : Value) (dec trc pl pc : Int) (a0 a1 : Value) (tx ty : ByteArray) (l1 c1 m2 l2 c2 : Int) (w : World)
    (hb : RdB w g (.slice (some ⟨bt, off, none⟩) 2 c) (.slice none 0 0) (.slice none 0 0) dec trc 0 pl pc seen) (hc : 1 < c) (hne : bt ≠ g)
    (ht : Tok w bt off 2 tx 16 l1 c1) (hu : Tok w bt (off + 5) 4 ty m2 l2 c2) :
    Calls Tryd.prog 130 #[.pointer (some ⟨g, 0, none⟩), .agg #[a0, a1], .pointer (some ⟨g, 1, none⟩), .pointer (some ⟨g, 2, none⟩), .bool true] w fun e w' =>
      e = .returned (.tuple #[]) ∧ ∃ P c' b cap, RdB w' g (.slice P 0 c') (.slice (some ⟨b, 0, none⟩) 1 cap) (.slice none 0 0) dec trc 0 pl pc seen ∧
        w'.ownsRow w.heap.size 111 3 (.slice (some ⟨b, 0, none⟩) 1 cap) 1 span0 ∧ Keeps (fun k => k = g) w w' := by
  have hg := hb.lt
  have hbt := lt_of_cell ht.c0
  simp at hbt
  go_enter Tryd.func130, Tryd.ntmps130
  go_wp2_with (fail)
  generalize hW : World.alloc _ _ = W
  have b1 := ((((hb.alloc _).alloc _).alloc _).alloc _).eqh hW
  have t1 := ((((ht.alloc _).alloc _).alloc _).alloc _).eqw hW
  have u1 := ((((hu.alloc _).alloc _).alloc _).alloc _).eqw hW
  have k1 : Keeps (fun k => k = g) w W := by rw [← hW]; exact ((((Keeps.refl _ _).alloc _).alloc _).alloc _).alloc _
  have p1 : Blk W w.heap.size 132 #[a0, a1] := by rw [← hW]; exact ((((Blk.new w _ _).alloc _).alloc _).alloc _).at_ (by simp)
  have x1 : Blk W (w.heap.size + 1) 111 #[.int .i64 0, .int .i64 0, .int .u8 255] := by rw [← hW]; exact ((((Blk.new (w.alloc _) _ _).alloc _).alloc _)).at_ (by simp)
  have y1 : Blk W (w.heap.size + 1 + 1) 132 #[.int .i64 0, .int .i64 0] := by rw [← hW]; exact (((Blk.new ((w.alloc _).alloc _) _ _).alloc _)).at_ (by simp)
  have z1 : Blk W (w.heap.size + 1 + 1 + 1) 132 #[.int .i64 0, .int .i64 0] := by rw [← hW]; exact (Blk.new (((w.alloc _).alloc _).alloc _) _ _).at_ (by simp)
  clear hW hb ht hu
  generalize hB : w.heap.size = B at *
  have hB' : w.heap.size ≤ B := by omega
  refine (take_value _ _ _ _ _ _ _ _ _ _ _ _ tx _ _ _ _ b1 hc t1).mono ?_
  rintro e w2 ⟨rfl, b2, k2⟩
  have u2 := u1.keeps k2 hne
  have p2 := p1.keeps k2 (by omega)
  have x2 := x1.keeps k2 (by omega)
  have y2 := y1.keeps k2 (by omega)
  have z2 := z1.keeps k2 (by omega)
  have kk2 := k1.trans k2 (fun _ _ h => h)
  clear b1 t1 u1 k1 p1 x1 y1 z1 k2
  have x2_c0 := x2.cell 0; have x2_c1 := x2.cell 1; have x2_c2 := x2.cell 2; have x2_f0 := x2.frozen 0; have x2_f1 := x2.frozen 1; have x2_f2 := x2.frozen 2; simp at x2_c0 x2_c1 x2_c2
  have y2_c0 := y2.cell 0; have y2_c1 := y2.cell 1; have y2_f0 := y2.frozen 0; have y2_f1 := y2.frozen 1; simp at y2_c0 y2_c1
  go_wp2_with (fail)
  generalize hW : World.setCell _ _ _ = W3
  have b3 : RdB W3 g _ _ _ _ _ _ _ _ _ := hW ▸ b2.fr.fr.fr.fr
  have u3 := u2.fr.fr.fr.fr.eqw hW
  have p3 : Blk W3 B 132 #[a0, a1] := by rw [← hW]; exact p2.fr.fr.fr.fr
  have x3 : Blk W3 (B + 1) 111 #[.int .i64 16, .int .i64 16, .int .u8 255] := by rw [← hW]; exact x2.st.fr.fr.st
  have z3 : Blk W3 (B + 1 + 1 + 1) 132 #[.int .i64 0, .int .i64 0] := by rw [← hW]; exact z2.fr.fr.fr.fr
  have y3 : Blk W3 (B + 1 + 1) 132 #[.int .i64 l1, .int .i64 c1] := by rw [← hW]; exact y2.fr.st.st.fr
  have k3 : Keeps (fun k => k = g) w W3 := by rw [← hW]; exact kk2.st.st.st.st
  clear hW b2 u2 p2 x2 z2 y2 kk2 x2_c0 x2_c1 x2_c2 y2_c0 y2_c1 x2_f0 x2_f1 x2_f2 y2_f0 y2_f1
  go_wp2_with (go_at_call 145; refine (next_no _ _ _ _ _ _ _ _ _ _ _ _ _ _ _ _ _ _ _ _ (by exact b3) (by exact u3) (by rfl)).mono ?_; rintro e w4 ⟨rfl, rfl⟩)
  refine (take_end_any _ _ _ _ _ _ _ _ _ _ _ ty _ _ _ _ b3 (by omega) u3).mono ?_
  rintro e w5 ⟨rfl, ⟨P, c', b5⟩, k5⟩
  have p5 := p3.keeps k5 (by omega)
  have x5 := x3.keeps k5 (by omega)
  have y5 := y3.keeps k5 (by omega)
  have z5 := z3.keeps k5 (by omega)
  have kk5 := k3.trans k5 (fun _ _ h => h)
  clear b3 u3 p3 x3 y3 z3 k3 k5
  have x5_c0 := x5.cell 0; have x5_c1 := x5.cell 1; have x5_c2 := x5.cell 2; have x5_f0 := x5.frozen 0; have x5_f1 := x5.frozen 1; have x5_f2 := x5.frozen 2; simp at x5_c0 x5_c1 x5_c2
  go_wp2_with (go_at_call 121; refine (lies_16 _ _).mono ?_; rintro e w6 ⟨rfl, hb6⟩)
  have b6 : RdB w6 g _ _ _ _ _ _ _ _ _ := b5.fr.later hb6
  have p6 := p5.fr.later hb6
  have y6 := y5.fr.later hb6
  have z6 := z5.fr.later hb6
  have x6 : Blk w6 (B + 1) 111 #[.int .i64 16, .int .i64 16, .int .u8 255] := x5.st.later hb6
  have kk6 : Keeps (fun k => k = g) w w6 := kk5.st.trans (Keeps.of_below hb6 (S := fun _ => False)) (fun _ _ h => h.elim)
  have hs6 : B + 1 + 1 + 1 < w6.heap.size := z6.lt
  clear b5 p5 y5 z5 x5 kk5 x5_c0 x5_c1 x5_c2 x5_f0 x5_f1 x5_f2 hb6
  have b6_c1 := b6.cell 1; have b6_c2 := b6.cell 2; have b6_f1 := b6.frozen 1; have b6_f2 := b6.frozen 2; simp at b6_c1 b6_c2
  have x6_c0 := x6.cell 0; have x6_c1 := x6.cell 1; have x6_c2 := x6.cell 2; simp at x6_c0 x6_c1 x6_c2
  go_region_law (fail)
  all_goals
    generalize hW : World.drew _ = W7
    have b7 : RdB W7 g _ _ _ _ _ _ _ _ _ := hW ▸ (b6.alloc _).drew
    have x7 : Blk W7 (B + 1) 111 #[.int .i64 16, .int .i64 16, .int .u8 255] := hW ▸ (x6.alloc _).drew
    have p7 : Blk W7 B 132 #[a0, a1] := hW ▸ (p6.alloc _).drew
    have t7 : Blk W7 w6.heap.size 217 #[.slice none 0 0, .slice none 0 0] := hW ▸ (Blk.new w6 _ _).drew
    have k7 : Keeps (fun k => k = g) w W7 := hW ▸ (kk6.alloc _).drew
    have hs7 : w6.heap.size < W7.heap.size := t7.lt
    have hg6 : g < w6.heap.size := b6.lt
    have x7_c0 := x7.cell 0; have x7_c1 := x7.cell 1; have x7_c2 := x7.cell 2; simp at x7_c0 x7_c1 x7_c2
    clear hW
    go_wp2_with (fail)
    refine (add_first _ _ t7).mono ?_
    rintro e w8 ⟨rfl, b, cap, t8, own8, k8⟩
    have b8 := b7.keeps k8 (by omega)
    have kk8 := k7.trans k8 (S := fun k => k = g) (fun x h1 h2 => by omega)
    have hgs : w.heap.size ≤ w6.heap.size := by omega
    clear b7 x7 p7 t7 k7 k8
    have b8_c1 := b8.cell 1; have b8_c7 := b8.cell 7; have b8_f1 := b8.frozen 1; have b8_f7 := b8.frozen 7; simp at b8_c1 b8_c7
    have t8_c0 := t8.cell 0; simp at t8_c0
    go_wp2_with (fail)
    go_end0
    refine ⟨rfl, P, c', b, cap, b8.st, ?_, kk8.st⟩
    refine own_base ?_ (Nat.le_trans hgs (Nat.le_of_lt hs7))
    exact ((Keeps.refl (fun k => k = g) w8).setCell (p := ⟨g, 1, none⟩) (.inl rfl) _).own own8 (fun x hx h => by have := (own8.lt x hx).1; omega)
end Go.Proofs.YtbjhkgmojmggjaaDoor
