/- The lexer at the one text 'secret $10': Scan. Condition: the library's variable MaxLen holds some int. -/
import Derived.Test.YtbjhkgmojmggjaaDoorLexC
namespace Go.Proofs.YtbjhkgmojmggjaaDoor
set_option linter.unusedSimpArgs false
set_option linter.unusedVariables false
set_option linter.unnecessarySimpa false
set_option linter.unusedSectionVars false
open Go.RowKit
attribute [local go_sem ↓] Go.wp_at_zero Go.wp_at_succ

def toks0 : List Value := [.int .i64 1, .string ⟨#[115, 101, 99, 114, 101, 116]⟩, .int .i64 0, .int .i64 1, .int .i64 1,
          .int .i64 2, .string ByteArray.empty, .int .i64 16, .int .i64 1, .int .i64 8, .int .i64 4, .string ByteArray.empty, .int .i64 0, .int .i64 1, .int .i64 11]

theorem split_S0 : Lib.splitB (⟨#[10]⟩ : ByteArray) 0 0 (⟨#[115, 101, 99, 114, 101, 116, 32, 36, 49, 48]⟩ : ByteArray) = [(⟨#[115, 101, 99, 114, 101, 116, 32, 36, 49, 48]⟩ : ByteArray)] := rfl
theorem count_S0 : Lib.countB (⟨#[115, 101, 99, 114, 101, 116, 32, 36, 49, 48]⟩ : ByteArray) ⟨#[10]⟩ = 0 := by decide

set_option maxRecDepth 100000 in
set_option maxHeartbeats 1000000 in
theorem Scan_S0 (w : World) (m : Int) (hm : w.cell? ⟨1, 0, none⟩ = some (.int .i64 m)) :
    Calls Tryd.prog 107 #[.string (⟨#[115, 101, 99, 114, 101, 116, 32, 36, 49, 48]⟩ : ByteArray)] w fun e w' =>
      ∃ b cap, e = .returned (.tuple #[.slice (some ⟨b, 0, none⟩) 3 cap, .agg #[.int .i64 0, .int .i64 0], .int .i64 0]) ∧
        w'.ownsRow w.heap.size 199 5 (.slice (some ⟨b, 0, none⟩) 3 cap) 3 toks0 ∧ Below w.heap.size w w' := by
  have hs1 := split_S0
  have hs2 := count_S0
  go_enter Tryd.func107, Tryd.ntmps107
  go_wp2_with (go_at_call 128; refine (Tryd.strings_Split _ _ m _ (by decide) (by exact cell_alloc hm _) (by decide)).mono ?_; rintro e w' ⟨rfl, rfl⟩)
  clear hs1 hs2
  generalize hW : World.alloc _ _ = W
  have hr : Blk W w.heap.size 132 #[.int .i64 0, .int .i64 0] := by rw [← hW]; exact (Blk.new _ _ _).alloc _
  have hp : Blk W (w.heap.size + 1) 9 #[.string (⟨#[115, 101, 99, 114, 101, 116, 32, 36, 49, 48]⟩ : ByteArray)] := by
    rw [← hW]
    have := Blk.new (w.alloc (Obj.cells #[Value.int IntKind.i64 0, Value.int IntKind.i64 0] 132)) 9 #[.string (⟨#[115, 101, 99, 114, 101, 116, 32, 36, 49, 48]⟩ : ByteArray)]
    simp at this
    exact this
  have hbW : Below w.heap.size w W := by rw [← hW]; exact ((Below.refl _ _).alloc (Nat.le_refl _) _).alloc (by simp) _
  have hsz : W.heap.size = w.heap.size + 2 := by rw [← hW]; simp
  have hszl : w.heap.size + 2 ≤ W.heap.size := by omega
  clear hW hm
  generalize hN : w.heap.size = bx at *
  have hNle : w.heap.size ≤ bx := by omega
  clear hN
  have p0 := hp.cell 0
  simp at p0
  have Hsz := Lib.hid hsz
  clear hsz
  refine wp_loop_rounds 2 ?_
  rw [rounds_succ]
  obtain ⟨i0, hi0, hz0, hz1, hz2⟩ := info_parts info_token
  go_wp2_with (first | (go_at_call 129; refine (scan_S0 W.heap.size _ (by exact Blk.new _ _ _)).mono ?_; rintro e w1 ⟨rfl, b1, cap1, hb1, hown1, hk1⟩; have q3 := hb1.cell 3; have hl1 := hb1.lt; simp at q3) | (at_builtin; refine wpList_append_lies _ rfl (.tmp 43) (.tmp 47) 189 rfl bx 199 i0 _ 5 48 Tryd.underlying189 hi0 hz0 hz1 hz2 rfl (by omega) (.slice none 0 0) 0 [] (by rfl) (World.ownsRow_nil _ _ _ _) ⟨b1, 0, none⟩ 3 cap1 toks0 (by rfl) (by rfl) (by exact World.ownsRow.cells (hown1.alloc _) rfl) (by simp [toks0, Value.oneCell']) (by omega) (by unfold maxLen; omega) (by omega) (by have := hk1.size; simp at this; simp; omega) _ rfl ?_; intro g2 cap2 w2 hown2 hg2 hat2 hlt2))
  have hk2 : Keeps (fun k => k = W.heap.size) W w2 := by
    have h1 : Keeps (fun k => k = W.heap.size) W w1 := ((Keeps.refl (fun k => k = W.heap.size) W).alloc _).trans hk1 (fun x _ hx => hx)
    exact (h1.alloc _).grown hg2 (fun k hk => by simp [Value.ownBlock] at hk)
  have hr2 := hr.keeps hk2 (by omega)
  have r0 := hr2.cell 0
  have r1 := hr2.cell 1
  have f0 := hr2.frozen 0
  have f1 := hr2.frozen 1
  simp at r0 r1
  rw [rounds_succ]
  go_wp2_with (fail)
  generalize hW7 : World.setCell _ _ _ = W7
  have hr7 : Blk W7 bx 132 #[.int .i64 0, .int .i64 0] := by
    rw [← hW7]
    exact ((hr2.set_ 0 _).set_ 1 _)
  have hk7 : Keeps (fun k => k = bx) w2 W7 := by
    rw [← hW7]
    exact ((Keeps.refl (fun k => k = bx) w2).setCell (p := ⟨bx, 0, none⟩) (.inl rfl) _).setCell (p := ⟨bx, 1, none⟩) (.inl rfl) _
  have hgb : g2 ≠ bx := by
    rcases hat2 with h | h
    · simp [Value.ownBlock] at h
    · have := hk1.size; simp at h this; omega
  have hown7 := hk7.own hown2 (fun b hb => by simp [Value.ownBlock] at hb; omega)
  have e0 := hr7.cell 0
  have e1 := hr7.cell 1
  simp at e0 e1
  have hk27 : Keeps (fun k => k = bx ∨ k = W.heap.size) W W7 := (hk2.mono (fun x _ hx => .inr hx)).trans hk7 (fun x _ hx => .inl hx)
  clear hW7
  refine bodyPost_ret (v := .tuple #[.slice (some ⟨g2, 0, none⟩) 3 cap2, .agg #[.int .i64 0, .int .i64 0], .int .i64 0]) (by simp [results, Tryd.results107, go_sem, e0, e1]) rfl ⟨g2, cap2, rfl, ?_, ?_⟩
  · exact own_base hown7 hNle
  · exact (hbW.trans (hk27.below (by omega) (fun k hk hx => by omega))).mono hNle
end Go.Proofs.YtbjhkgmojmggjaaDoor
