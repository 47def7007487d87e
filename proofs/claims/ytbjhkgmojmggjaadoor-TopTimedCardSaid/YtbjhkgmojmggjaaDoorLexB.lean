/- The lexer at the one text 'secret $10': next, scan, Scan. Condition: the library's variable MaxLen holds some int. -/
import Derived.Test.YtbjhkgmojmggjaaDoorLexA
import Derived.Test.YtbjhkgmojmggjaaDoorShelf
import Derived.StillTailTactics
namespace Go.Proofs.YtbjhkgmojmggjaaDoor
set_option linter.unusedSimpArgs false
set_option linter.unusedVariables false
set_option linter.unnecessarySimpa false
set_option linter.unusedSectionVars false
open Go.RowKit

theorem S0_0 (h : 0 < ((⟨#[115, 101, 99, 114, 101, 116, 32, 36, 49, 48]⟩ : ByteArray)).size) : (((⟨#[115, 101, 99, 114, 101, 116, 32, 36, 49, 48]⟩ : ByteArray))[0]'h).toNat = 115 := rfl
theorem S0_1 (h : 1 < ((⟨#[115, 101, 99, 114, 101, 116, 32, 36, 49, 48]⟩ : ByteArray)).size) : (((⟨#[115, 101, 99, 114, 101, 116, 32, 36, 49, 48]⟩ : ByteArray))[1]'h).toNat = 101 := rfl
theorem S0_2 (h : 2 < ((⟨#[115, 101, 99, 114, 101, 116, 32, 36, 49, 48]⟩ : ByteArray)).size) : (((⟨#[115, 101, 99, 114, 101, 116, 32, 36, 49, 48]⟩ : ByteArray))[2]'h).toNat = 99 := rfl
theorem S0_3 (h : 3 < ((⟨#[115, 101, 99, 114, 101, 116, 32, 36, 49, 48]⟩ : ByteArray)).size) : (((⟨#[115, 101, 99, 114, 101, 116, 32, 36, 49, 48]⟩ : ByteArray))[3]'h).toNat = 114 := rfl
theorem S0_4 (h : 4 < ((⟨#[115, 101, 99, 114, 101, 116, 32, 36, 49, 48]⟩ : ByteArray)).size) : (((⟨#[115, 101, 99, 114, 101, 116, 32, 36, 49, 48]⟩ : ByteArray))[4]'h).toNat = 101 := rfl
theorem S0_5 (h : 5 < ((⟨#[115, 101, 99, 114, 101, 116, 32, 36, 49, 48]⟩ : ByteArray)).size) : (((⟨#[115, 101, 99, 114, 101, 116, 32, 36, 49, 48]⟩ : ByteArray))[5]'h).toNat = 116 := rfl
theorem S0_6 (h : 6 < ((⟨#[115, 101, 99, 114, 101, 116, 32, 36, 49, 48]⟩ : ByteArray)).size) : (((⟨#[115, 101, 99, 114, 101, 116, 32, 36, 49, 48]⟩ : ByteArray))[6]'h).toNat = 32 := rfl
theorem S0_7 (h : 7 < ((⟨#[115, 101, 99, 114, 101, 116, 32, 36, 49, 48]⟩ : ByteArray)).size) : (((⟨#[115, 101, 99, 114, 101, 116, 32, 36, 49, 48]⟩ : ByteArray))[7]'h).toNat = 36 := rfl
theorem S0_8 (h : 8 < ((⟨#[115, 101, 99, 114, 101, 116, 32, 36, 49, 48]⟩ : ByteArray)).size) : (((⟨#[115, 101, 99, 114, 101, 116, 32, 36, 49, 48]⟩ : ByteArray))[8]'h).toNat = 49 := rfl
theorem S0_9 (h : 9 < ((⟨#[115, 101, 99, 114, 101, 116, 32, 36, 49, 48]⟩ : ByteArray)).size) : (((⟨#[115, 101, 99, 114, 101, 116, 32, 36, 49, 48]⟩ : ByteArray))[9]'h).toNat = 48 := rfl

theorem digit_no (b : Int) (w : World) (hb : Lib.indexByte [48, 49, 50, 51, 52, 53, 54, 55, 56, 57] b.toNat.toUInt8 = -1) :
    Calls Tryd.prog 155 #[.int .u8 b, .int .i64 10] w fun e w' => e = .returned (.tuple #[.int .i64 (-1), .bool false]) ∧ w = w' := by
  go_enter Tryd.func155, Tryd.ntmps155
  go_wp2_with (go_at_call 172; refine (Tryd.strings_IndexByte _ _ _).mono ?_; rintro e w' ⟨rfl, rfl⟩)
  go_ret2
  exact ⟨rfl, rfl⟩

theorem letter_yes (b : Int) (w : World) (h0 : 97 ≤ b) (h1 : b ≤ 122) :
    Calls Tryd.prog 156 #[.int .u8 b] w fun e w' => e = .returned (.bool true) ∧ w = w' := by
  go_enter Tryd.func156, Tryd.ntmps156
  go_wp2
  all_goals (go_ret; exact ⟨rfl, rfl⟩)
theorem letter_no (b : Int) (w : World) (h : b < 97 ∨ 122 < b) :
    Calls Tryd.prog 156 #[.int .u8 b] w fun e w' => e = .returned (.bool false) ∧ w = w' := by
  rcases h with h | h
  · have h' : ¬ 97 ≤ b := by omega
    go_enter Tryd.func156, Tryd.ntmps156
    go_wp2
    all_goals (go_ret; exact ⟨rfl, rfl⟩)
  · have h' : ¬ b ≤ 122 := by omega
    have h2 : 97 ≤ b := by omega
    go_enter Tryd.func156, Tryd.ntmps156
    go_wp2
    all_goals (go_ret; exact ⟨rfl, rfl⟩)

theorem word_S0 (g : Nat) (n at_ l : Value) (w : World) (hb : Blk w g 227 #[.string (⟨#[115, 101, 99, 114, 101, 116, 32, 36, 49, 48]⟩ : ByteArray), n, at_, l]) :
    Calls Tryd.prog 157 #[.pointer (some ⟨g, 0, none⟩), .int .i64 0] w fun e w' => e = .returned (.int .i64 6) ∧ w = w' := by
  have c0 := hb.cell 0
  simp at c0
  go_enter Tryd.func157, Tryd.ntmps157
  go_wp2
  refine wp_loop_rounds 7 ?_
  repeat (rw [rounds_succ]; go_wp2)
  go_ret
  exact ⟨rfl, rfl⟩

theorem begins_S0_6 (g : Nat) (n at_ l : Value) (w : World) (hb : Blk w g 227 #[.string (⟨#[115, 101, 99, 114, 101, 116, 32, 36, 49, 48]⟩ : ByteArray), n, at_, l]) :
    Calls Tryd.prog 158 #[.pointer (some ⟨g, 0, none⟩), .int .i64 6] w fun e w' => e = .returned (.bool false) ∧ w = w' := by
  have c0 := hb.cell 0
  simp at c0
  have x6 := S0_6
  go_enter Tryd.func158, Tryd.ntmps158
  go_wp2_with (first | (go_at_call 155; refine (digit_no _ _ (by decide)).mono ?_; rintro e w' ⟨rfl, rfl⟩) | (go_at_call 156; refine (letter_no _ _ (by omega)).mono ?_; rintro e w' ⟨rfl, rfl⟩))
  go_ret
  exact ⟨rfl, rfl⟩

theorem begins_S0_10 (g : Nat) (n at_ l : Value) (w : World) (hb : Blk w g 227 #[.string (⟨#[115, 101, 99, 114, 101, 116, 32, 36, 49, 48]⟩ : ByteArray), n, at_, l]) :
    Calls Tryd.prog 158 #[.pointer (some ⟨g, 0, none⟩), .int .i64 10] w fun e w' => e = .returned (.bool false) ∧ w = w' := by
  have c0 := hb.cell 0
  simp at c0
  go_enter Tryd.func158, Tryd.ntmps158
  go_wp2_with (fail)
  go_ret
  exact ⟨rfl, rfl⟩

set_option maxRecDepth 100000 in
theorem next_word (g B : Nat) (w : World) (hb : Blk w g 227 #[.string (⟨#[115, 101, 99, 114, 101, 116, 32, 36, 49, 48]⟩ : ByteArray), .int .i64 1, .int .i64 0, .slice none 0 0]) (hB : B ≤ w.heap.size) :
    Calls Tryd.prog 142 #[.pointer (some ⟨g, 0, none⟩)] w fun e w' =>
      e = .returned (.int .i64 0) ∧ ∃ b cap, Blk w' g 227 #[.string (⟨#[115, 101, 99, 114, 101, 116, 32, 36, 49, 48]⟩ : ByteArray), .int .i64 1, .int .i64 6, .slice (some ⟨b, 0, none⟩) 1 cap] ∧
        w'.ownsRow B 199 5 (.slice (some ⟨b, 0, none⟩) 1 cap) 1 [.int .i64 1, .string ⟨#[115, 101, 99, 114, 101, 116]⟩, .int .i64 0, .int .i64 1, .int .i64 1] ∧
        w.heap.size ≤ b ∧ Keeps (fun k => k = g) w w' := by
  have c0 := hb.cell 0
  have c2 := hb.cell 2
  simp at c0 c2
  have x0 := S0_0
  go_enter Tryd.func142, Tryd.ntmps142
  go_wp2
  go_quiet (fail)
  go_wp2
  go_quiet (fail)
  go_wp2_with (first | (go_at_call 155; refine (digit_no _ _ (by decide)).mono ?_; rintro e w' ⟨rfl, rfl⟩) | (go_at_call 156; refine (letter_yes _ _ (by omega) (by omega)).mono ?_; rintro e w' ⟨rfl, rfl⟩) | (go_at_call 157; refine (word_S0 g _ _ _ _ (by exact hb)).mono ?_; rintro e w' ⟨rfl, rfl⟩) | (go_at_call 158; refine (begins_S0_6 g _ _ _ _ (by exact hb)).mono ?_; rintro e w' ⟨rfl, rfl⟩))
  generalize hW : w.drewN _ = W
  have hbW : Blk W g 227 #[.string (⟨#[115, 101, 99, 114, 101, 116, 32, 36, 49, 48]⟩ : ByteArray), .int .i64 1, .int .i64 0, .slice none 0 0] := by rw [← hW]; exact hb
  have c0W := hbW.cell 0
  have c2W := hbW.cell 2
  simp at c0W c2W
  clear c0 c2
  have hsz : w.heap.size ≤ W.heap.size := by rw [← hW]; exact Nat.le_refl _
  have hkW : Keeps (fun k => k = g) w W := by rw [← hW]; exact (Keeps.refl _ w).drewN _
  clear hW
  go_still_tail 13, (by kernel_rfl)
  go_wp2_with (go_at_call 159; refine (add_any g _ _ 1 0 6 1 0 _ _ _ B 0 [] _ hbW.drew (World.ownsRow_nil _ _ _ _) (by omega) (by omega) (by omega) (by simp [Value.ownBlock]) (Nat.le_trans hB hsz)).mono ?_; rintro e w1 ⟨rfl, b, cap, hb1, hown1, hat1, hk1⟩)
  go_ret
  refine ⟨rfl, b, cap, hb1, hown1, ?_, ?_⟩
  · rcases hat1 with h | h
    · simp [Value.ownBlock] at h
    · exact Nat.le_trans hsz h
  · exact hkW.drew.trans hk1 (fun x _ hx => by simpa [Value.ownBlock] using hx)

theorem digit16 (b : Int) (k : Nat) (w : World) (hb : Lib.indexByte [48, 49, 50, 51, 52, 53, 54, 55, 56, 57, 97, 98, 99, 100, 101, 102] b.toNat.toUInt8 = (k : Int)) :
    Calls Tryd.prog 155 #[.int .u8 b, .int .i64 16] w fun e w' => e = .returned (.tuple #[.int .i64 k, .bool true]) ∧ w = w' := by
  have h0 : (0 : Int) ≤ (k : Int) := by omega
  go_enter Tryd.func155, Tryd.ntmps155
  go_wp2_with (go_at_call 172; refine (Tryd.strings_IndexByte _ _ _).mono ?_; rintro e w' ⟨rfl, rfl⟩)
  go_ret2
  exact ⟨rfl, rfl⟩

theorem number_S0 (g : Nat) (n at_ l : Value) (w : World) (hb : Blk w g 227 #[.string (⟨#[115, 101, 99, 114, 101, 116, 32, 36, 49, 48]⟩ : ByteArray), n, at_, l]) :
    Calls Tryd.prog 161 #[.pointer (some ⟨g, 0, none⟩), .int .i64 8, .int .i64 16] w fun e w' => e = .returned (.tuple #[.int .i64 16, .int .i64 10]) ∧ w = w' := by
  have c0 := hb.cell 0
  simp at c0
  have x8 := S0_8
  have x9 := S0_9
  go_enter Tryd.func161, Tryd.ntmps161
  go_wp2
  refine wp_loop_rounds 3 ?_
  rw [rounds_succ]
  go_wp2_with (go_at_call 155; refine (digit16 _ 1 _ (by decide)).mono ?_; rintro e w' ⟨rfl, rfl⟩)
  rw [rounds_succ]
  go_wp2_with (go_at_call 155; refine (digit16 _ 0 _ (by decide)).mono ?_; rintro e w' ⟨rfl, rfl⟩)
  rw [rounds_succ]
  go_wp2_with (fail)
  go_ret2
  exact ⟨rfl, rfl⟩

set_option maxRecDepth 100000 in
theorem next_num (g : Nat) (v : Value) (B : Nat) (xs : List Value) (w : World) (hb : Blk w g 227 #[.string (⟨#[115, 101, 99, 114, 101, 116, 32, 36, 49, 48]⟩ : ByteArray), .int .i64 1, .int .i64 7, v])
    (hown : w.ownsRow B 199 5 v 1 xs) (hv : v.ownBlock ≠ some g) (hB : B ≤ w.heap.size) :
    Calls Tryd.prog 142 #[.pointer (some ⟨g, 0, none⟩)] w fun e w' =>
      e = .returned (.int .i64 0) ∧ ∃ b cap, Blk w' g 227 #[.string (⟨#[115, 101, 99, 114, 101, 116, 32, 36, 49, 48]⟩ : ByteArray), .int .i64 1, .int .i64 10, .slice (some ⟨b, 0, none⟩) 2 cap] ∧
        w'.ownsRow B 199 5 (.slice (some ⟨b, 0, none⟩) 2 cap) 2 (xs ++ [.int .i64 2, .string ByteArray.empty, .int .i64 16, .int .i64 1, .int .i64 8]) ∧
        (v.ownBlock = some b ∨ w.heap.size ≤ b) ∧ Keeps (fun k => k = g ∨ v.ownBlock = some k) w w' := by
  have c0 := hb.cell 0
  have c2 := hb.cell 2
  simp at c0 c2
  have x7 := S0_7
  have hp : Lib.hasPrefix (((⟨#[115, 101, 99, 114, 101, 116, 32, 36, 49, 48]⟩ : ByteArray)).extract 7 10).data.toList [46, 46] = false := by decide
  go_enter Tryd.func142, Tryd.ntmps142
  go_wp2
  go_quiet (fail)
  go_wp2
  go_quiet (fail)
  go_wp2_with (first | (go_at_call 155; refine (digit_no _ _ (by decide)).mono ?_; rintro e w' ⟨rfl, rfl⟩) | (go_at_call 156; refine (letter_no _ _ (by omega)).mono ?_; rintro e w' ⟨rfl, rfl⟩))
  go_quiet ((go_at_call 160; exact quiet_add_same (Tryd.strings_HasPrefix _ _ _)))
  go_wp2
  go_quiet (fail)
  go_wp2_with (first | (go_at_call 161; refine (number_S0 g _ _ _ _ (by exact hb)).mono ?_; rintro e w' ⟨rfl, rfl⟩) | (go_at_call 158; refine (begins_S0_10 g _ _ _ _ (by exact hb)).mono ?_; rintro e w' ⟨rfl, rfl⟩))
  refine (add_any g _ v 1 7 10 2 16 _ _ _ B 1 xs _ (by exact hb) (by exact hown) (by omega) (by omega) (by omega) hv (by exact hB)).mono ?_
  rintro e w1 ⟨rfl, b, cap, hb1, hown1, hat1, hk1⟩
  go_wp2
  go_ret
  refine ⟨rfl, b, cap, hb1, hown1, hat1, ?_⟩
  exact ((Keeps.refl _ w).drewN _).trans hk1 (fun x _ hx => hx)
end Go.Proofs.YtbjhkgmojmggjaaDoor
