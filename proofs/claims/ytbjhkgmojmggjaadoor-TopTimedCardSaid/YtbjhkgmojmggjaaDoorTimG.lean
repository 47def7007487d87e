/- TopTimed: the law's loop. Conditions: the input's cells are ints; MaxLen holds some int. -/
import Derived.Test.YtbjhkgmojmggjaaDoorTimC
import Derived.Test.YtbjhkgmojmggjaaDoorTimF
import Derived.Laws.StructEq
import Derived.Deep.DeepCutAuto
import Derived.Deep.CutBlock
namespace Go.Proofs.YtbjhkgmojmggjaaDoor
set_option linter.unusedSimpArgs false
set_option linter.unusedVariables false
set_option linter.unnecessarySimpa false
set_option linter.unusedSectionVars false
open Go.RowKit
attribute [local go_sem ↓] Go.wp_at_zero Go.wp_at_succ

theorem quiet_same {P : Program} {f : FuncId} {args : Array Value} {w : World} {n : Nat} {v : Value}
    (h : Calls P f args (w.drewN n) fun e w' => e = .returned v ∧ w' = w.drewN n) : Calls P f args (w.drewN n) fun e w'' => e = .returned v ∧ ∃ m, w'' = w.drewN m :=
  h.mono fun _ _ ⟨he, hm⟩ => ⟨he, n, hm⟩

/-- Behind an act: both timers are one. -/
def CutT (B : Nat) (w wx : World) : Prop := ∃ tx : Tm, tx.Ok ∧ TmB wx B tx ∧ TmB wx (B + 1) tx ∧ Keeps (fun _ => False) w wx

/-- n acts lie from off on in block b: their numbers. -/
structure Acts (w : World) (b off n : Nat) (z : Nat → Nat → Int) : Prop where
  cell : ∀ j i, j < n → i < 4 → w.cell? ⟨b, off + j * 4 + i, none⟩ = some (.int .i64 (z j i))
  lo : ∀ j i, -9223372036854775808 ≤ z j i
  hi : ∀ j i, z j i ≤ 9223372036854775807

set_option maxRecDepth 100000 in
set_option maxHeartbeats 4000000 in
theorem TopTimed_walk (w : World) (b off n cap : Nat) (z : Nat → Nat → Int) (ha : Acts w b off n z) (hb : b < w.heap.size) (hn : n ≤ 9223372036854775807) (m : Int)
    (hm : w.cell? ⟨1, 0, none⟩ = some (.int .i64 m)) :
    Calls Tryd.prog 3 #[.slice (some ⟨b, off, none⟩) n cap] w fun e w' => e = .returned (.bool true) ∧ Below w.heap.size w w' := by
  go_enter Tryd.func3, Tryd.ntmps3
  go_wp2_with (fail)
  refine (awake_yes w m hm).mono ?_
  rintro e w1 ⟨rfl, bel1⟩
  go_wp2_with (fail)
  have k1 := Keeps.of_below bel1 (S := fun _ => False)
  have p2 := (Blk.new w1 25 (Tm.cells ⟨0, 0, false, false, false, false⟩)).alloc (.cells (Tm.cells ⟨0, 0, false, false, false, false⟩) 25)
  have q2 := (Blk.new (w1.alloc (.cells (Tm.cells ⟨0, 0, false, false, false, false⟩) 25)) 25 (Tm.cells ⟨0, 0, false, false, false, false⟩)).at_ (j := w1.heap.size + 1) (by simp)
  have k2 := (k1.alloc (.cells (Tm.cells ⟨0, 0, false, false, false, false⟩) 25)).alloc (.cells (Tm.cells ⟨0, 0, false, false, false, false⟩) 25)
  have hsz := bel1.size
  generalize hW : World.alloc (World.alloc _ _) _ = W at *
  clear hW k1 bel1
  generalize hB : w1.heap.size = B at *
  go_loopw [5] (fun v wr => ∃ (i : Nat) (t : Tm), v = .int .i64 i ∧ i ≤ n ∧ i ≤ 60 ∧ t.Ok ∧ TmB wr B t ∧ TmB wr (B + 1) t ∧ Keeps (fun _ => False) w wr) (fun v _ => (60 - intV v).toNat)
  case atStart => exact ⟨0, ⟨0, 0, false, false, false, false⟩, rfl, Nat.zero_le _, by omega, ⟨by simp, by simp, by simp, by simp⟩, p2, q2, k2⟩
  case round =>
    obtain ⟨i, t, rfl, hin, hi6, ht, pr, qr, kr⟩ := hrel
    clear p2 q2 k2
    by_cases hlt : i < n ∧ i < 60
    · obtain ⟨hl1, hl2⟩ := hlt
      have e0 := kr.cell (ha.cell i 0 hl1 (by omega)) (fun h => h)
      have e1 := kr.cell (ha.cell i 1 hl1 (by omega)) (fun h => h)
      have e2 := kr.cell (ha.cell i 2 hl1 (by omega)) (fun h => h)
      have e3 := kr.cell (ha.cell i 3 hl1 (by omega)) (fun h => h)
      have r0 := And.intro (ha.lo i 0) (ha.hi i 0)
      have r1 := And.intro (ha.lo i 1) (ha.hi i 1)
      have r2 := And.intro (ha.lo i 2) (ha.hi i 2)
      have r3 := And.intro (ha.lo i 3) (ha.hi i 3)
      simp only [Nat.add_zero] at e0
      generalize z i 0 = zd at *
      generalize z i 1 = za at *
      generalize z i 2 = zb at *
      generalize z i 3 = zt at *
      have f1 := ofP_range za 6 (by decide)
      have f0 := ofP_range zd 6 (by decide)
      have f8 := ofP_range zt 8 (by decide)
      have f40 := ofP_range zb 40 (by decide)
      have f3000 := ofP_range zb 3000 (by decide)
      have hd : ofP zd 6 = 0 ∨ ofP zd 6 = 1 ∨ ofP zd 6 = 2 ∨ ofP zd 6 = 3 ∨ ofP zd 6 = 4 ∨ ofP zd 6 = 5 := by omega
      clear f0
      generalize hgd : ofP zd 6 = dd at hd
      generalize hga : ofP za 6 = aa at f1
      generalize hgt : ofP zt 8 = tt at f8
      generalize hg4 : ofP zb 40 = b4 at f40
      generalize hg3 : ofP zb 3000 = b3 at f3000
      go_wp2_with (fail)
      refine (madOf_any za 6 _ (by decide) r1 (by decide)).mono ?_
      rintro e w' ⟨rfl, rfl⟩
      rw [hga]
      go_wp2_with (fail)
      refine (madOf_any zd 6 _ (by decide) r0 (by decide)).mono ?_
      rintro e w' ⟨rfl, rfl⟩
      rw [hgd]
      -- BEGIN branches
      have hA : wr.heap.size > B + 1 := qr.lt
      have ab := Blk.new wr 27 #[.int .i64 zd, .int .i64 za, .int .i64 zb, .int .i64 zt]
      have pa := pr.alloc (.cells #[.int .i64 zd, .int .i64 za, .int .i64 zb, .int .i64 zt] 27)
      have qa := qr.alloc (.cells #[.int .i64 zd, .int .i64 za, .int .i64 zb, .int .i64 zt] 27)
      have ka := kr.alloc (.cells #[.int .i64 zd, .int .i64 za, .int .i64 zb, .int .i64 zt] 27)
      clear e0 e1 e2 e3 pr qr kr
      generalize hW : World.alloc _ _ = Wa at *
      clear hW
      generalize hAa : wr.heap.size = A at *
      clear hAa
      have ab_c2 := ab.cell 2; have ab_c3 := ab.cell 3; simp at ab_c2 ab_c3
      have qa_c0 := qa.cell 0; have qa_c1 := qa.cell 1; have qa_c2 := qa.cell 2; have qa_c3 := qa.cell 3; have qa_c4 := qa.cell 4; have qa_c5 := qa.cell 5; simp at qa_c0 qa_c1 qa_c2 qa_c3 qa_c4 qa_c5
      go_upto_block 2 with (fail)
      go_cut [5] (fun s5 wx => s5 = .int .i64 i ∧ CutT B w wx)
      case first =>
        rcases hd with rfl | rfl | rfl | rfl | rfl | rfl
        · skip
          by_cases hr1 : aa - 1 = 1
          · have haa : aa = 2 := by omega
            subst haa
            have hr : (0 : Int) ≤ 1 ∧ (1 : Int) < 4 := by decide
            clear hr1 f1
            go_wp2_with (fail)
            refine (madOf_any zt 8 _ (by decide) r3 (by decide)).mono ?_
            rintro e w' ⟨rfl, rfl⟩
            rw [hgt]
            by_cases htt : 0 < tt
            · go_wp2_with (fail)
              refine (madTimed_any t ht 1 (0) (by decide) (by decide) _).mono ?_
              rintro e wb ⟨rfl, belb⟩
              have pb := pa.later belb
              have qb := qa.later belb
              have kb := ka.trans (Keeps.of_below belb (S := fun _ => False)) (fun _ _ h => h)
              have hbs := belb.size
              clear pa qa ka belb qa_c0 qa_c1 qa_c2 qa_c3 qa_c4 qa_c5
              have qb_c0 := qb.cell 0; have qb_c1 := qb.cell 1; have qb_c2 := qb.cell 2; have qb_c3 := qb.cell 3; have qb_c4 := qb.cell 4; have qb_c5 := qb.cell 5; have qb_f0 := qb.frozen 0; have qb_f1 := qb.frozen 1; have qb_f2 := qb.frozen 2; have qb_f3 := qb.frozen 3; have qb_f4 := qb.frozen 4; have qb_f5 := qb.frozen 5; simp at qb_c0 qb_c1 qb_c2 qb_c3 qb_c4 qb_c5
              go_wp2_with (fail)
              generalize hX : World.setCell (World.setCell _ _ _) _ _ = wc
              have pc : TmB wc B t := by rw [← hX]; exact pb.fr.fr.fr.fr.fr.fr
              have qc : TmB wc (B + 1) (t.write 1 (0)) := by rw [← hX]; exact qb.st.st.st.st.st.st
              have kc : Keeps (fun _ => False) w wc := by rw [← hX]; exact (((((kb.setCell (.inr (by simp; omega)) _).setCell (.inr (by simp; omega)) _).setCell (.inr (by simp; omega)) _).setCell (.inr (by simp; omega)) _).setCell (.inr (by simp; omega)) _).setCell (.inr (by simp; omega)) _
              clear hX pb qb kb qb_c0 qb_c1 qb_c2 qb_c3 qb_c4 qb_c5 qb_f0 qb_f1 qb_f2 qb_f3 qb_f4 qb_f5
              refine (Write_any B t ht 1 (0) (by decide) (by decide) wc pc).mono ?_
              rintro e wx ⟨rfl, px, kw⟩
              rw [if_pos hr]
              have qx := qc.keeps kw (by omega)
              have kx := kc.trans kw (fun _ _ h => by omega)
              have hx := ht.write 1 (0) (by decide) (by decide)
              clear pc qc kc kw
              generalize t.write 1 (0) = tx at *
              go_wp2_with (fail)

              go_meet
              exact ⟨rfl, ⟨tx, hx, px, qx, kx⟩⟩
            · go_wp2_with (fail)
              refine (madTimed_any t ht 1 (zb % 256) (by omega) (by omega) _).mono ?_
              rintro e wb ⟨rfl, belb⟩
              have pb := pa.later belb
              have qb := qa.later belb
              have kb := ka.trans (Keeps.of_below belb (S := fun _ => False)) (fun _ _ h => h)
              have hbs := belb.size
              clear pa qa ka belb qa_c0 qa_c1 qa_c2 qa_c3 qa_c4 qa_c5
              have qb_c0 := qb.cell 0; have qb_c1 := qb.cell 1; have qb_c2 := qb.cell 2; have qb_c3 := qb.cell 3; have qb_c4 := qb.cell 4; have qb_c5 := qb.cell 5; have qb_f0 := qb.frozen 0; have qb_f1 := qb.frozen 1; have qb_f2 := qb.frozen 2; have qb_f3 := qb.frozen 3; have qb_f4 := qb.frozen 4; have qb_f5 := qb.frozen 5; simp at qb_c0 qb_c1 qb_c2 qb_c3 qb_c4 qb_c5
              go_wp2_with (fail)
              generalize hX : World.setCell (World.setCell _ _ _) _ _ = wc
              have pc : TmB wc B t := by rw [← hX]; exact pb.fr.fr.fr.fr.fr.fr
              have qc : TmB wc (B + 1) (t.write 1 (zb % 256)) := by rw [← hX]; exact qb.st.st.st.st.st.st
              have kc : Keeps (fun _ => False) w wc := by rw [← hX]; exact (((((kb.setCell (.inr (by simp; omega)) _).setCell (.inr (by simp; omega)) _).setCell (.inr (by simp; omega)) _).setCell (.inr (by simp; omega)) _).setCell (.inr (by simp; omega)) _).setCell (.inr (by simp; omega)) _
              clear hX pb qb kb qb_c0 qb_c1 qb_c2 qb_c3 qb_c4 qb_c5 qb_f0 qb_f1 qb_f2 qb_f3 qb_f4 qb_f5
              refine (Write_any B t ht 1 (zb % 256) (by omega) (by omega) wc pc).mono ?_
              rintro e wx ⟨rfl, px, kw⟩
              rw [if_pos hr]
              have qx := qc.keeps kw (by omega)
              have kx := kc.trans kw (fun _ _ h => by omega)
              have hx := ht.write 1 (zb % 256) (by omega) (by omega)
              clear pc qc kc kw
              generalize t.write 1 (zb % 256) = tx at *
              go_wp2_with (fail)

              go_meet
              exact ⟨rfl, ⟨tx, hx, px, qx, kx⟩⟩
          · by_cases hr : 0 ≤ aa - 1 ∧ aa - 1 < 4
            · obtain ⟨hra, hrb⟩ := hr
              have hr : 0 ≤ aa - 1 ∧ aa - 1 < 4 := ⟨hra, hrb⟩
              go_wp2_with (fail)
              refine (madTimed_any t ht (aa - 1) (zb % 256) (by omega) (by omega) _).mono ?_
              rintro e wb ⟨rfl, belb⟩
              have pb := pa.later belb
              have qb := qa.later belb
              have kb := ka.trans (Keeps.of_below belb (S := fun _ => False)) (fun _ _ h => h)
              have hbs := belb.size
              clear pa qa ka belb qa_c0 qa_c1 qa_c2 qa_c3 qa_c4 qa_c5
              have qb_c0 := qb.cell 0; have qb_c1 := qb.cell 1; have qb_c2 := qb.cell 2; have qb_c3 := qb.cell 3; have qb_c4 := qb.cell 4; have qb_c5 := qb.cell 5; have qb_f0 := qb.frozen 0; have qb_f1 := qb.frozen 1; have qb_f2 := qb.frozen 2; have qb_f3 := qb.frozen 3; have qb_f4 := qb.frozen 4; have qb_f5 := qb.frozen 5; simp at qb_c0 qb_c1 qb_c2 qb_c3 qb_c4 qb_c5
              go_wp2_with (fail)
              generalize hX : World.setCell (World.setCell _ _ _) _ _ = wc
              have pc : TmB wc B t := by rw [← hX]; exact pb.fr.fr.fr.fr.fr.fr
              have qc : TmB wc (B + 1) (t.write (aa - 1) (zb % 256)) := by rw [← hX]; exact qb.st.st.st.st.st.st
              have kc : Keeps (fun _ => False) w wc := by rw [← hX]; exact (((((kb.setCell (.inr (by simp; omega)) _).setCell (.inr (by simp; omega)) _).setCell (.inr (by simp; omega)) _).setCell (.inr (by simp; omega)) _).setCell (.inr (by simp; omega)) _).setCell (.inr (by simp; omega)) _
              clear hX pb qb kb qb_c0 qb_c1 qb_c2 qb_c3 qb_c4 qb_c5 qb_f0 qb_f1 qb_f2 qb_f3 qb_f4 qb_f5
              refine (Write_any B t ht (aa - 1) (zb % 256) (by omega) (by omega) wc pc).mono ?_
              rintro e wx ⟨rfl, px, kw⟩
              rw [if_pos hr]
              have qx := qc.keeps kw (by omega)
              have kx := kc.trans kw (fun _ _ h => by omega)
              have hx := ht.write (aa - 1) (zb % 256) (by omega) (by omega)
              clear pc qc kc kw
              generalize t.write (aa - 1) (zb % 256) = tx at *
              go_wp2_with (fail)

              go_meet
              exact ⟨rfl, ⟨tx, hx, px, qx, kx⟩⟩
            · have hra : aa - 1 < 0 ∨ 4 ≤ aa - 1 := by omega
              rcases hra with hra | hra
              · go_wp2_with (fail)
                refine (Write_any B t ht (aa - 1) (zb % 256) (by omega) (by omega) _ pa).mono ?_
                rintro e wx ⟨rfl, px, kw⟩
                rw [if_neg hr]
                have qx := qa.keeps kw (by omega)
                have kx := ka.trans kw (fun _ _ h => by omega)
                have htw : t.write (aa - 1) (zb % 256) = t := by unfold Tm.write; rw [if_neg (by omega), if_neg (by omega), if_neg (by omega), if_neg (by omega)]
                rw [htw] at px
                have hx := ht
                clear pa qa ka kw
                generalize t = tx at *
                go_wp2_with (fail)

                go_meet
                exact ⟨rfl, ⟨tx, hx, px, qx, kx⟩⟩
              · go_wp2_with (fail)
                refine (Write_any B t ht (aa - 1) (zb % 256) (by omega) (by omega) _ pa).mono ?_
                rintro e wx ⟨rfl, px, kw⟩
                rw [if_neg hr]
                have qx := qa.keeps kw (by omega)
                have kx := ka.trans kw (fun _ _ h => by omega)
                have htw : t.write (aa - 1) (zb % 256) = t := by unfold Tm.write; rw [if_neg (by omega), if_neg (by omega), if_neg (by omega), if_neg (by omega)]
                rw [htw] at px
                have hx := ht
                clear pa qa ka kw
                generalize t = tx at *
                go_wp2_with (fail)

                go_meet
                exact ⟨rfl, ⟨tx, hx, px, qx, kx⟩⟩
        · skip
          by_cases hr1 : aa - 1 = 1
          · have haa : aa = 2 := by omega
            subst haa
            have hr : (0 : Int) ≤ 1 ∧ (1 : Int) < 4 := by decide
            clear hr1 f1
            go_wp2_with (fail)
            refine (madOf_any zt 8 _ (by decide) r3 (by decide)).mono ?_
            rintro e w' ⟨rfl, rfl⟩
            rw [hgt]
            by_cases htt : 0 < tt
            · go_wp2_with (fail)
              refine (madTimed_any t ht 1 (0) (by decide) (by decide) _).mono ?_
              rintro e wb ⟨rfl, belb⟩
              have pb := pa.later belb
              have qb := qa.later belb
              have kb := ka.trans (Keeps.of_below belb (S := fun _ => False)) (fun _ _ h => h)
              have hbs := belb.size
              clear pa qa ka belb qa_c0 qa_c1 qa_c2 qa_c3 qa_c4 qa_c5
              have qb_c0 := qb.cell 0; have qb_c1 := qb.cell 1; have qb_c2 := qb.cell 2; have qb_c3 := qb.cell 3; have qb_c4 := qb.cell 4; have qb_c5 := qb.cell 5; have qb_f0 := qb.frozen 0; have qb_f1 := qb.frozen 1; have qb_f2 := qb.frozen 2; have qb_f3 := qb.frozen 3; have qb_f4 := qb.frozen 4; have qb_f5 := qb.frozen 5; simp at qb_c0 qb_c1 qb_c2 qb_c3 qb_c4 qb_c5
              go_wp2_with (fail)
              generalize hX : World.setCell (World.setCell _ _ _) _ _ = wc
              have pc : TmB wc B t := by rw [← hX]; exact pb.fr.fr.fr.fr.fr.fr
              have qc : TmB wc (B + 1) (t.write 1 (0)) := by rw [← hX]; exact qb.st.st.st.st.st.st
              have kc : Keeps (fun _ => False) w wc := by rw [← hX]; exact (((((kb.setCell (.inr (by simp; omega)) _).setCell (.inr (by simp; omega)) _).setCell (.inr (by simp; omega)) _).setCell (.inr (by simp; omega)) _).setCell (.inr (by simp; omega)) _).setCell (.inr (by simp; omega)) _
              clear hX pb qb kb qb_c0 qb_c1 qb_c2 qb_c3 qb_c4 qb_c5 qb_f0 qb_f1 qb_f2 qb_f3 qb_f4 qb_f5
              refine (Write_any B t ht 1 (0) (by decide) (by decide) wc pc).mono ?_
              rintro e wx ⟨rfl, px, kw⟩
              rw [if_pos hr]
              have qx := qc.keeps kw (by omega)
              have kx := kc.trans kw (fun _ _ h => by omega)
              have hx := ht.write 1 (0) (by decide) (by decide)
              clear pc qc kc kw
              generalize t.write 1 (0) = tx at *
              go_wp2_with (fail)

              go_meet
              exact ⟨rfl, ⟨tx, hx, px, qx, kx⟩⟩
            · go_wp2_with (fail)
              refine (madTimed_any t ht 1 (zb % 256) (by omega) (by omega) _).mono ?_
              rintro e wb ⟨rfl, belb⟩
              have pb := pa.later belb
              have qb := qa.later belb
              have kb := ka.trans (Keeps.of_below belb (S := fun _ => False)) (fun _ _ h => h)
              have hbs := belb.size
              clear pa qa ka belb qa_c0 qa_c1 qa_c2 qa_c3 qa_c4 qa_c5
              have qb_c0 := qb.cell 0; have qb_c1 := qb.cell 1; have qb_c2 := qb.cell 2; have qb_c3 := qb.cell 3; have qb_c4 := qb.cell 4; have qb_c5 := qb.cell 5; have qb_f0 := qb.frozen 0; have qb_f1 := qb.frozen 1; have qb_f2 := qb.frozen 2; have qb_f3 := qb.frozen 3; have qb_f4 := qb.frozen 4; have qb_f5 := qb.frozen 5; simp at qb_c0 qb_c1 qb_c2 qb_c3 qb_c4 qb_c5
              go_wp2_with (fail)
              generalize hX : World.setCell (World.setCell _ _ _) _ _ = wc
              have pc : TmB wc B t := by rw [← hX]; exact pb.fr.fr.fr.fr.fr.fr
              have qc : TmB wc (B + 1) (t.write 1 (zb % 256)) := by rw [← hX]; exact qb.st.st.st.st.st.st
              have kc : Keeps (fun _ => False) w wc := by rw [← hX]; exact (((((kb.setCell (.inr (by simp; omega)) _).setCell (.inr (by simp; omega)) _).setCell (.inr (by simp; omega)) _).setCell (.inr (by simp; omega)) _).setCell (.inr (by simp; omega)) _).setCell (.inr (by simp; omega)) _
              clear hX pb qb kb qb_c0 qb_c1 qb_c2 qb_c3 qb_c4 qb_c5 qb_f0 qb_f1 qb_f2 qb_f3 qb_f4 qb_f5
              refine (Write_any B t ht 1 (zb % 256) (by omega) (by omega) wc pc).mono ?_
              rintro e wx ⟨rfl, px, kw⟩
              rw [if_pos hr]
              have qx := qc.keeps kw (by omega)
              have kx := kc.trans kw (fun _ _ h => by omega)
              have hx := ht.write 1 (zb % 256) (by omega) (by omega)
              clear pc qc kc kw
              generalize t.write 1 (zb % 256) = tx at *
              go_wp2_with (fail)

              go_meet
              exact ⟨rfl, ⟨tx, hx, px, qx, kx⟩⟩
          · by_cases hr : 0 ≤ aa - 1 ∧ aa - 1 < 4
            · obtain ⟨hra, hrb⟩ := hr
              have hr : 0 ≤ aa - 1 ∧ aa - 1 < 4 := ⟨hra, hrb⟩
              go_wp2_with (fail)
              refine (madTimed_any t ht (aa - 1) (zb % 256) (by omega) (by omega) _).mono ?_
              rintro e wb ⟨rfl, belb⟩
              have pb := pa.later belb
              have qb := qa.later belb
              have kb := ka.trans (Keeps.of_below belb (S := fun _ => False)) (fun _ _ h => h)
              have hbs := belb.size
              clear pa qa ka belb qa_c0 qa_c1 qa_c2 qa_c3 qa_c4 qa_c5
              have qb_c0 := qb.cell 0; have qb_c1 := qb.cell 1; have qb_c2 := qb.cell 2; have qb_c3 := qb.cell 3; have qb_c4 := qb.cell 4; have qb_c5 := qb.cell 5; have qb_f0 := qb.frozen 0; have qb_f1 := qb.frozen 1; have qb_f2 := qb.frozen 2; have qb_f3 := qb.frozen 3; have qb_f4 := qb.frozen 4; have qb_f5 := qb.frozen 5; simp at qb_c0 qb_c1 qb_c2 qb_c3 qb_c4 qb_c5
              go_wp2_with (fail)
              generalize hX : World.setCell (World.setCell _ _ _) _ _ = wc
              have pc : TmB wc B t := by rw [← hX]; exact pb.fr.fr.fr.fr.fr.fr
              have qc : TmB wc (B + 1) (t.write (aa - 1) (zb % 256)) := by rw [← hX]; exact qb.st.st.st.st.st.st
              have kc : Keeps (fun _ => False) w wc := by rw [← hX]; exact (((((kb.setCell (.inr (by simp; omega)) _).setCell (.inr (by simp; omega)) _).setCell (.inr (by simp; omega)) _).setCell (.inr (by simp; omega)) _).setCell (.inr (by simp; omega)) _).setCell (.inr (by simp; omega)) _
              clear hX pb qb kb qb_c0 qb_c1 qb_c2 qb_c3 qb_c4 qb_c5 qb_f0 qb_f1 qb_f2 qb_f3 qb_f4 qb_f5
              refine (Write_any B t ht (aa - 1) (zb % 256) (by omega) (by omega) wc pc).mono ?_
              rintro e wx ⟨rfl, px, kw⟩
              rw [if_pos hr]
              have qx := qc.keeps kw (by omega)
              have kx := kc.trans kw (fun _ _ h => by omega)
              have hx := ht.write (aa - 1) (zb % 256) (by omega) (by omega)
              clear pc qc kc kw
              generalize t.write (aa - 1) (zb % 256) = tx at *
              go_wp2_with (fail)

              go_meet
              exact ⟨rfl, ⟨tx, hx, px, qx, kx⟩⟩
            · have hra : aa - 1 < 0 ∨ 4 ≤ aa - 1 := by omega
              rcases hra with hra | hra
              · go_wp2_with (fail)
                refine (Write_any B t ht (aa - 1) (zb % 256) (by omega) (by omega) _ pa).mono ?_
                rintro e wx ⟨rfl, px, kw⟩
                rw [if_neg hr]
                have qx := qa.keeps kw (by omega)
                have kx := ka.trans kw (fun _ _ h => by omega)
                have htw : t.write (aa - 1) (zb % 256) = t := by unfold Tm.write; rw [if_neg (by omega), if_neg (by omega), if_neg (by omega), if_neg (by omega)]
                rw [htw] at px
                have hx := ht
                clear pa qa ka kw
                generalize t = tx at *
                go_wp2_with (fail)

                go_meet
                exact ⟨rfl, ⟨tx, hx, px, qx, kx⟩⟩
              · go_wp2_with (fail)
                refine (Write_any B t ht (aa - 1) (zb % 256) (by omega) (by omega) _ pa).mono ?_
                rintro e wx ⟨rfl, px, kw⟩
                rw [if_neg hr]
                have qx := qa.keeps kw (by omega)
                have kx := ka.trans kw (fun _ _ h => by omega)
                have htw : t.write (aa - 1) (zb % 256) = t := by unfold Tm.write; rw [if_neg (by omega), if_neg (by omega), if_neg (by omega), if_neg (by omega)]
                rw [htw] at px
                have hx := ht
                clear pa qa ka kw
                generalize t = tx at *
                go_wp2_with (fail)

                go_meet
                exact ⟨rfl, ⟨tx, hx, px, qx, kx⟩⟩
        · skip
          by_cases hr1 : aa - 1 = 1
          · have haa : aa = 2 := by omega
            subst haa
            have hr : (0 : Int) ≤ 1 ∧ (1 : Int) < 4 := by decide
            clear hr1 f1
            go_wp2_with (fail)
            refine (madOf_any zt 8 _ (by decide) r3 (by decide)).mono ?_
            rintro e w' ⟨rfl, rfl⟩
            rw [hgt]
            by_cases htt : 0 < tt
            · go_wp2_with (fail)
              refine (madTimed_any t ht 1 (0) (by decide) (by decide) _).mono ?_
              rintro e wb ⟨rfl, belb⟩
              have pb := pa.later belb
              have qb := qa.later belb
              have kb := ka.trans (Keeps.of_below belb (S := fun _ => False)) (fun _ _ h => h)
              have hbs := belb.size
              clear pa qa ka belb qa_c0 qa_c1 qa_c2 qa_c3 qa_c4 qa_c5
              have qb_c0 := qb.cell 0; have qb_c1 := qb.cell 1; have qb_c2 := qb.cell 2; have qb_c3 := qb.cell 3; have qb_c4 := qb.cell 4; have qb_c5 := qb.cell 5; have qb_f0 := qb.frozen 0; have qb_f1 := qb.frozen 1; have qb_f2 := qb.frozen 2; have qb_f3 := qb.frozen 3; have qb_f4 := qb.frozen 4; have qb_f5 := qb.frozen 5; simp at qb_c0 qb_c1 qb_c2 qb_c3 qb_c4 qb_c5
              go_wp2_with (fail)
              generalize hX : World.setCell (World.setCell _ _ _) _ _ = wc
              have pc : TmB wc B t := by rw [← hX]; exact pb.fr.fr.fr.fr.fr.fr
              have qc : TmB wc (B + 1) (t.write 1 (0)) := by rw [← hX]; exact qb.st.st.st.st.st.st
              have kc : Keeps (fun _ => False) w wc := by rw [← hX]; exact (((((kb.setCell (.inr (by simp; omega)) _).setCell (.inr (by simp; omega)) _).setCell (.inr (by simp; omega)) _).setCell (.inr (by simp; omega)) _).setCell (.inr (by simp; omega)) _).setCell (.inr (by simp; omega)) _
              clear hX pb qb kb qb_c0 qb_c1 qb_c2 qb_c3 qb_c4 qb_c5 qb_f0 qb_f1 qb_f2 qb_f3 qb_f4 qb_f5
              refine (Write_any B t ht 1 (0) (by decide) (by decide) wc pc).mono ?_
              rintro e wx ⟨rfl, px, kw⟩
              rw [if_pos hr]
              have qx := qc.keeps kw (by omega)
              have kx := kc.trans kw (fun _ _ h => by omega)
              have hx := ht.write 1 (0) (by decide) (by decide)
              clear pc qc kc kw
              generalize t.write 1 (0) = tx at *
              go_wp2_with (fail)

              go_meet
              exact ⟨rfl, ⟨tx, hx, px, qx, kx⟩⟩
            · go_wp2_with (fail)
              refine (madTimed_any t ht 1 (zb % 256) (by omega) (by omega) _).mono ?_
              rintro e wb ⟨rfl, belb⟩
              have pb := pa.later belb
              have qb := qa.later belb
              have kb := ka.trans (Keeps.of_below belb (S := fun _ => False)) (fun _ _ h => h)
              have hbs := belb.size
              clear pa qa ka belb qa_c0 qa_c1 qa_c2 qa_c3 qa_c4 qa_c5
              have qb_c0 := qb.cell 0; have qb_c1 := qb.cell 1; have qb_c2 := qb.cell 2; have qb_c3 := qb.cell 3; have qb_c4 := qb.cell 4; have qb_c5 := qb.cell 5; have qb_f0 := qb.frozen 0; have qb_f1 := qb.frozen 1; have qb_f2 := qb.frozen 2; have qb_f3 := qb.frozen 3; have qb_f4 := qb.frozen 4; have qb_f5 := qb.frozen 5; simp at qb_c0 qb_c1 qb_c2 qb_c3 qb_c4 qb_c5
              go_wp2_with (fail)
              generalize hX : World.setCell (World.setCell _ _ _) _ _ = wc
              have pc : TmB wc B t := by rw [← hX]; exact pb.fr.fr.fr.fr.fr.fr
              have qc : TmB wc (B + 1) (t.write 1 (zb % 256)) := by rw [← hX]; exact qb.st.st.st.st.st.st
              have kc : Keeps (fun _ => False) w wc := by rw [← hX]; exact (((((kb.setCell (.inr (by simp; omega)) _).setCell (.inr (by simp; omega)) _).setCell (.inr (by simp; omega)) _).setCell (.inr (by simp; omega)) _).setCell (.inr (by simp; omega)) _).setCell (.inr (by simp; omega)) _
              clear hX pb qb kb qb_c0 qb_c1 qb_c2 qb_c3 qb_c4 qb_c5 qb_f0 qb_f1 qb_f2 qb_f3 qb_f4 qb_f5
              refine (Write_any B t ht 1 (zb % 256) (by omega) (by omega) wc pc).mono ?_
              rintro e wx ⟨rfl, px, kw⟩
              rw [if_pos hr]
              have qx := qc.keeps kw (by omega)
              have kx := kc.trans kw (fun _ _ h => by omega)
              have hx := ht.write 1 (zb % 256) (by omega) (by omega)
              clear pc qc kc kw
              generalize t.write 1 (zb % 256) = tx at *
              go_wp2_with (fail)

              go_meet
              exact ⟨rfl, ⟨tx, hx, px, qx, kx⟩⟩
          · by_cases hr : 0 ≤ aa - 1 ∧ aa - 1 < 4
            · obtain ⟨hra, hrb⟩ := hr
              have hr : 0 ≤ aa - 1 ∧ aa - 1 < 4 := ⟨hra, hrb⟩
              go_wp2_with (fail)
              refine (madTimed_any t ht (aa - 1) (zb % 256) (by omega) (by omega) _).mono ?_
              rintro e wb ⟨rfl, belb⟩
              have pb := pa.later belb
              have qb := qa.later belb
              have kb := ka.trans (Keeps.of_below belb (S := fun _ => False)) (fun _ _ h => h)
              have hbs := belb.size
              clear pa qa ka belb qa_c0 qa_c1 qa_c2 qa_c3 qa_c4 qa_c5
              have qb_c0 := qb.cell 0; have qb_c1 := qb.cell 1; have qb_c2 := qb.cell 2; have qb_c3 := qb.cell 3; have qb_c4 := qb.cell 4; have qb_c5 := qb.cell 5; have qb_f0 := qb.frozen 0; have qb_f1 := qb.frozen 1; have qb_f2 := qb.frozen 2; have qb_f3 := qb.frozen 3; have qb_f4 := qb.frozen 4; have qb_f5 := qb.frozen 5; simp at qb_c0 qb_c1 qb_c2 qb_c3 qb_c4 qb_c5
              go_wp2_with (fail)
              generalize hX : World.setCell (World.setCell _ _ _) _ _ = wc
              have pc : TmB wc B t := by rw [← hX]; exact pb.fr.fr.fr.fr.fr.fr
              have qc : TmB wc (B + 1) (t.write (aa - 1) (zb % 256)) := by rw [← hX]; exact qb.st.st.st.st.st.st
              have kc : Keeps (fun _ => False) w wc := by rw [← hX]; exact (((((kb.setCell (.inr (by simp; omega)) _).setCell (.inr (by simp; omega)) _).setCell (.inr (by simp; omega)) _).setCell (.inr (by simp; omega)) _).setCell (.inr (by simp; omega)) _).setCell (.inr (by simp; omega)) _
              clear hX pb qb kb qb_c0 qb_c1 qb_c2 qb_c3 qb_c4 qb_c5 qb_f0 qb_f1 qb_f2 qb_f3 qb_f4 qb_f5
              refine (Write_any B t ht (aa - 1) (zb % 256) (by omega) (by omega) wc pc).mono ?_
              rintro e wx ⟨rfl, px, kw⟩
              rw [if_pos hr]
              have qx := qc.keeps kw (by omega)
              have kx := kc.trans kw (fun _ _ h => by omega)
              have hx := ht.write (aa - 1) (zb % 256) (by omega) (by omega)
              clear pc qc kc kw
              generalize t.write (aa - 1) (zb % 256) = tx at *
              go_wp2_with (fail)

              go_meet
              exact ⟨rfl, ⟨tx, hx, px, qx, kx⟩⟩
            · have hra : aa - 1 < 0 ∨ 4 ≤ aa - 1 := by omega
              rcases hra with hra | hra
              · go_wp2_with (fail)
                refine (Write_any B t ht (aa - 1) (zb % 256) (by omega) (by omega) _ pa).mono ?_
                rintro e wx ⟨rfl, px, kw⟩
                rw [if_neg hr]
                have qx := qa.keeps kw (by omega)
                have kx := ka.trans kw (fun _ _ h => by omega)
                have htw : t.write (aa - 1) (zb % 256) = t := by unfold Tm.write; rw [if_neg (by omega), if_neg (by omega), if_neg (by omega), if_neg (by omega)]
                rw [htw] at px
                have hx := ht
                clear pa qa ka kw
                generalize t = tx at *
                go_wp2_with (fail)

                go_meet
                exact ⟨rfl, ⟨tx, hx, px, qx, kx⟩⟩
              · go_wp2_with (fail)
                refine (Write_any B t ht (aa - 1) (zb % 256) (by omega) (by omega) _ pa).mono ?_
                rintro e wx ⟨rfl, px, kw⟩
                rw [if_neg hr]
                have qx := qa.keeps kw (by omega)
                have kx := ka.trans kw (fun _ _ h => by omega)
                have htw : t.write (aa - 1) (zb % 256) = t := by unfold Tm.write; rw [if_neg (by omega), if_neg (by omega), if_neg (by omega), if_neg (by omega)]
                rw [htw] at px
                have hx := ht
                clear pa qa ka kw
                generalize t = tx at *
                go_wp2_with (fail)

                go_meet
                exact ⟨rfl, ⟨tx, hx, px, qx, kx⟩⟩
        · skip
          rcases (by omega : aa = 0 ∨ aa = 5 ∨ aa = 1 ∨ aa = 2 ∨ aa = 3 ∨ aa = 4) with rfl | rfl | rfl | rfl | rfl | rfl
          · skip
            have hr : ¬ ((0 : Int) ≤ -1 ∧ (-1 : Int) < 4) := by decide
            go_wp2_with (fail)
            refine (Read_any B t ht (-1) _ pa).mono ?_
            rintro e wx ⟨rfl, belx⟩
            rw [if_neg hr, if_neg hr]
            have px := pa.later belx
            have qx := qa.later belx
            have kx := ka.trans (Keeps.of_below belx (S := fun _ => False)) (fun _ _ h => h)
            have hx := ht
            clear pa qa ka belx qa_c0 qa_c1 qa_c2 qa_c3 qa_c4 qa_c5
            go_wp2_with (fail)
            generalize t = tx at *

            go_meet
            exact ⟨rfl, ⟨tx, hx, px, qx, kx⟩⟩
          · skip
            have hr : ¬ ((0 : Int) ≤ 4 ∧ (4 : Int) < 4) := by decide
            go_wp2_with (fail)
            refine (Read_any B t ht (4) _ pa).mono ?_
            rintro e wx ⟨rfl, belx⟩
            rw [if_neg hr, if_neg hr]
            have px := pa.later belx
            have qx := qa.later belx
            have kx := ka.trans (Keeps.of_below belx (S := fun _ => False)) (fun _ _ h => h)
            have hx := ht
            clear pa qa ka belx qa_c0 qa_c1 qa_c2 qa_c3 qa_c4 qa_c5
            go_wp2_with (fail)
            generalize t = tx at *

            go_meet
            exact ⟨rfl, ⟨tx, hx, px, qx, kx⟩⟩
          · skip
            have hr : (0 : Int) ≤ 0 ∧ (0 : Int) < 4 := by decide
            go_wp2_with (fail)
            refine (Read_any B t ht 0 _ pa).mono ?_
            rintro e wb ⟨rfl, belb⟩
            rw [if_pos hr, if_pos hr]
            have pb := pa.later belb
            have qb := qa.later belb
            have kb := ka.trans (Keeps.of_below belb (S := fun _ => False)) (fun _ _ h => h)
            clear pa qa ka belb qa_c0 qa_c1 qa_c2 qa_c3 qa_c4 qa_c5
            have qb_c0 := qb.cell 0; have qb_c1 := qb.cell 1; have qb_c2 := qb.cell 2; have qb_c3 := qb.cell 3; have qb_c4 := qb.cell 4; have qb_c5 := qb.cell 5; simp at qb_c0 qb_c1 qb_c2 qb_c3 qb_c4 qb_c5
            go_wp2_with (fail)
            refine (madTime_0 t ht _).mono ?_
            rintro e wx ⟨rfl, belx⟩
            have px := pb.later belx
            have qx := qb.later belx
            have kx := kb.trans (Keeps.of_below belx (S := fun _ => False)) (fun _ _ h => h)
            have hx := ht
            clear pb qb kb belx qb_c0 qb_c1 qb_c2 qb_c3 qb_c4 qb_c5
            go_wp2_with (fail)
            generalize t = tx at *

            go_meet
            exact ⟨rfl, ⟨tx, hx, px, qx, kx⟩⟩
          · skip
            have hr : (0 : Int) ≤ 1 ∧ (1 : Int) < 4 := by decide
            go_wp2_with (fail)
            refine (Read_any B t ht 1 _ pa).mono ?_
            rintro e wb ⟨rfl, belb⟩
            rw [if_pos hr, if_pos hr]
            have pb := pa.later belb
            have qb := qa.later belb
            have kb := ka.trans (Keeps.of_below belb (S := fun _ => False)) (fun _ _ h => h)
            clear pa qa ka belb qa_c0 qa_c1 qa_c2 qa_c3 qa_c4 qa_c5
            have qb_c0 := qb.cell 0; have qb_c1 := qb.cell 1; have qb_c2 := qb.cell 2; have qb_c3 := qb.cell 3; have qb_c4 := qb.cell 4; have qb_c5 := qb.cell 5; simp at qb_c0 qb_c1 qb_c2 qb_c3 qb_c4 qb_c5
            go_wp2_with (fail)
            refine (madTime_1 t ht _).mono ?_
            rintro e wx ⟨rfl, belx⟩
            have px := pb.later belx
            have qx := qb.later belx
            have kx := kb.trans (Keeps.of_below belx (S := fun _ => False)) (fun _ _ h => h)
            have hx := ht
            clear pb qb kb belx qb_c0 qb_c1 qb_c2 qb_c3 qb_c4 qb_c5
            go_wp2_with (fail)
            generalize t = tx at *

            go_meet
            exact ⟨rfl, ⟨tx, hx, px, qx, kx⟩⟩
          · skip
            have hr : (0 : Int) ≤ 2 ∧ (2 : Int) < 4 := by decide
            go_wp2_with (fail)
            refine (Read_any B t ht 2 _ pa).mono ?_
            rintro e wb ⟨rfl, belb⟩
            rw [if_pos hr, if_pos hr]
            have pb := pa.later belb
            have qb := qa.later belb
            have kb := ka.trans (Keeps.of_below belb (S := fun _ => False)) (fun _ _ h => h)
            clear pa qa ka belb qa_c0 qa_c1 qa_c2 qa_c3 qa_c4 qa_c5
            have qb_c0 := qb.cell 0; have qb_c1 := qb.cell 1; have qb_c2 := qb.cell 2; have qb_c3 := qb.cell 3; have qb_c4 := qb.cell 4; have qb_c5 := qb.cell 5; simp at qb_c0 qb_c1 qb_c2 qb_c3 qb_c4 qb_c5
            go_wp2_with (fail)
            refine (madTime_2 t ht _).mono ?_
            rintro e wx ⟨rfl, belx⟩
            have px := pb.later belx
            have qx := qb.later belx
            have kx := kb.trans (Keeps.of_below belx (S := fun _ => False)) (fun _ _ h => h)
            have hx := ht
            clear pb qb kb belx qb_c0 qb_c1 qb_c2 qb_c3 qb_c4 qb_c5
            go_wp2_with (fail)
            generalize t = tx at *

            go_meet
            exact ⟨rfl, ⟨tx, hx, px, qx, kx⟩⟩
          · skip
            have hr : (0 : Int) ≤ 3 ∧ (3 : Int) < 4 := by decide
            go_wp2_with (fail)
            refine (Read_any B t ht 3 _ pa).mono ?_
            rintro e wb ⟨rfl, belb⟩
            rw [if_pos hr, if_pos hr]
            have pb := pa.later belb
            have qb := qa.later belb
            have kb := ka.trans (Keeps.of_below belb (S := fun _ => False)) (fun _ _ h => h)
            clear pa qa ka belb qa_c0 qa_c1 qa_c2 qa_c3 qa_c4 qa_c5
            have qb_c0 := qb.cell 0; have qb_c1 := qb.cell 1; have qb_c2 := qb.cell 2; have qb_c3 := qb.cell 3; have qb_c4 := qb.cell 4; have qb_c5 := qb.cell 5; simp at qb_c0 qb_c1 qb_c2 qb_c3 qb_c4 qb_c5
            go_wp2_with (fail)
            refine (madTime_3 t ht _).mono ?_
            rintro e wx ⟨rfl, belx⟩
            have px := pb.later belx
            have qx := qb.later belx
            have kx := kb.trans (Keeps.of_below belx (S := fun _ => False)) (fun _ _ h => h)
            have hx := ht
            clear pb qb kb belx qb_c0 qb_c1 qb_c2 qb_c3 qb_c4 qb_c5
            go_wp2_with (fail)
            generalize t = tx at *

            go_meet
            exact ⟨rfl, ⟨tx, hx, px, qx, kx⟩⟩
        · skip
          obtain ⟨k4, rfl⟩ : ∃ k : Nat, b4 = (k : Int) := ⟨b4.toNat, by omega⟩
          go_wp2_with (fail)
          refine (madOf_any zb 40 _ (by decide) r2 (by decide)).mono ?_
          rintro e w' ⟨rfl, rfl⟩
          rw [hg4]
          go_wp2_with (fail)
          go_loopw [12] (fun v wl => ∃ (j : Nat) (t2 : Tm), v = .int .i64 j ∧ j ≤ 40 ∧ t2.Ok ∧ TmB wl B t2 ∧ TmB wl (B + 1) t2 ∧ Keeps (fun _ => False) w wl) (fun v _ => (intV v).toNat)
          case atStart => exact ⟨k4, t, rfl, by omega, ht, pa, qa, ka⟩
          case round =>
            obtain ⟨j, t2, rfl, hj, hx, px, qx, kx⟩ := hrel
            clear pa qa ka ht qa_c0 qa_c1 qa_c2 qa_c3 qa_c4 qa_c5
            generalize wr = wx at *
            rcases Nat.eq_zero_or_pos j with hj0 | hj0
            · subst hj0
              go_wp2_with (fail)
              generalize t2 = tx at *
              go_meet
              exact ⟨rfl, ⟨tx, hx, px, qx, kx⟩⟩
            · have hj1 : (0 : Int) < j := by omega
              go_wp2_with (fail)
              refine (Tick_any B t2 hx wx px).mono ?_
              rintro e we ⟨rfl, pe, ke⟩
              have qe := qx.keeps ke (by omega)
              have kke := kx.trans ke (fun _ _ h => by omega)
              clear px qx kx ke
              have qe_c0 := qe.cell 0; have qe_c1 := qe.cell 1; have qe_c2 := qe.cell 2; have qe_c3 := qe.cell 3; have qe_c4 := qe.cell 4; have qe_c5 := qe.cell 5; simp at qe_c0 qe_c1 qe_c2 qe_c3 qe_c4 qe_c5
              go_wp2_with (fail)
              have hmt := madTimer_any 1 (by omega) t2 hx we
              rw [show ((1 : Nat) : Int) = 1 from rfl] at hmt
              refine hmt.mono ?_
              rintro e wf ⟨rfl, belf⟩
              have pf := pe.later belf
              have qf := qe.later belf
              have kf := kke.trans (Keeps.of_below belf (S := fun _ => False)) (fun _ _ h => h)
              have hy := hx.tick
              have htk : Tm.ticks 1 t2 = t2.tick := rfl
              rw [htk]
              clear hmt pe qe kke belf htk qe_c0 qe_c1 qe_c2 qe_c3 qe_c4 qe_c5
              generalize t2.tick = ty at *
              have qf_c0 := qf.cell 0; have qf_c1 := qf.cell 1; have qf_c2 := qf.cell 2; have qf_c3 := qf.cell 3; have qf_c4 := qf.cell 4; have qf_c5 := qf.cell 5; have qf_f0 := qf.frozen 0; have qf_f1 := qf.frozen 1; have qf_f2 := qf.frozen 2; have qf_f3 := qf.frozen 3; have qf_f4 := qf.frozen 4; have qf_f5 := qf.frozen 5; simp at qf_c0 qf_c1 qf_c2 qf_c3 qf_c4 qf_c5
              go_wp2_with (fail)
              generalize hZ : World.setCell (World.setCell _ _ _) _ _ = wz
              have pz : TmB wz B ty := by rw [← hZ]; exact pf.fr.fr.fr.fr.fr.fr
              have qz : TmB wz (B + 1) ty := by rw [← hZ]; exact qf.st.st.st.st.st.st
              have kz : Keeps (fun _ => False) w wz := by
                rw [← hZ]
                have hin : ∀ q : Nat, B ≤ q → ((fun _ => False : Nat → Prop) q ∨ w.heap.size ≤ q) := fun q hq => .inr (by omega)
                exact (((((kf.setCell (hin _ (by simp)) _).setCell (hin _ (by simp)) _).setCell (hin _ (by simp)) _).setCell (hin _ (by simp)) _).setCell (hin _ (by simp)) _).setCell (hin _ (by simp)) _
              exact ⟨⟨j - 1, ty, by simp; omega, by omega, hy, pz, qz, kz⟩, by simp only [intV]; omega⟩
        · skip
          obtain ⟨k3, rfl⟩ : ∃ k : Nat, b3 = (k : Int) := ⟨b3.toNat, by omega⟩
          have pa_c0 := pa.cell 0; have pa_c1 := pa.cell 1; have pa_c2 := pa.cell 2; have pa_c3 := pa.cell 3; have pa_c4 := pa.cell 4; have pa_c5 := pa.cell 5; simp at pa_c0 pa_c1 pa_c2 pa_c3 pa_c4 pa_c5
          go_wp2_with (fail)
          refine (madOf_any zb 3000 _ (by decide) r2 (by decide)).mono ?_
          rintro e w' ⟨rfl, rfl⟩
          rw [hg3]
          go_wp2_with (fail)
          refine (After_any k3 (by omega) t ht _).mono ?_
          rintro e wb ⟨rfl, belb⟩
          have pb := pa.later belb
          have qb := qa.later belb
          have kb := ka.trans (Keeps.of_below belb (S := fun _ => False)) (fun _ _ h => h)
          have hbs := belb.size
          clear pa qa ka belb qa_c0 qa_c1 qa_c2 qa_c3 qa_c4 qa_c5 pa_c0 pa_c1 pa_c2 pa_c3 pa_c4 pa_c5
          have qb_c0 := qb.cell 0; have qb_c1 := qb.cell 1; have qb_c2 := qb.cell 2; have qb_c3 := qb.cell 3; have qb_c4 := qb.cell 4; have qb_c5 := qb.cell 5; simp at qb_c0 qb_c1 qb_c2 qb_c3 qb_c4 qb_c5
          have dq0 := fun o => cell_alloc qb_c0 o
          have dq1 := fun o => cell_alloc qb_c1 o
          have dq2 := fun o => cell_alloc qb_c2 o
          have dq3 := fun o => cell_alloc qb_c3 o
          have dq4 := fun o => cell_alloc qb_c4 o
          have dq5 := fun o => cell_alloc qb_c5 o
          go_wp2_with (fail)
          have yb := Blk.new wb 25 (Tm.cells (Tm.ticks k3 t))
          have pc := pb.alloc (.cells (Tm.cells (Tm.ticks k3 t)) 25)
          have qc := qb.alloc (.cells (Tm.cells (Tm.ticks k3 t)) 25)
          have kc := kb.alloc (.cells (Tm.cells (Tm.ticks k3 t)) 25)
          generalize hX : World.alloc _ _ = wc at *
          have hYB := qb.lt
          clear hX dq0 dq1 dq2 dq3 dq4 dq5 qb_c0 qb_c1 qb_c2 qb_c3 qb_c4 qb_c5 pb qb kb
          generalize hY : wb.heap.size = Y at *
          refine (madTimer_any k3 (by omega) t ht _).mono ?_
          rintro e wd ⟨rfl, beld⟩
          have pd := pc.later beld
          have qd := qc.later beld
          have yd := yb.later beld
          have kd := kc.trans (Keeps.of_below beld (S := fun _ => False)) (fun _ _ h => h)
          have hx := ht.ticks k3
          clear pc qc yb kc beld
          generalize Tm.ticks k3 t = tx at *
          have qd_c0 := qd.cell 0; have qd_c1 := qd.cell 1; have qd_c2 := qd.cell 2; have qd_c3 := qd.cell 3; have qd_c4 := qd.cell 4; have qd_c5 := qd.cell 5; have qd_f0 := qd.frozen 0; have qd_f1 := qd.frozen 1; have qd_f2 := qd.frozen 2; have qd_f3 := qd.frozen 3; have qd_f4 := qd.frozen 4; have qd_f5 := qd.frozen 5; simp at qd_c0 qd_c1 qd_c2 qd_c3 qd_c4 qd_c5
          have pd_c0 := pd.cell 0; have pd_c1 := pd.cell 1; have pd_c2 := pd.cell 2; have pd_c3 := pd.cell 3; have pd_c4 := pd.cell 4; have pd_c5 := pd.cell 5; have pd_f0 := pd.frozen 0; have pd_f1 := pd.frozen 1; have pd_f2 := pd.frozen 2; have pd_f3 := pd.frozen 3; have pd_f4 := pd.frozen 4; have pd_f5 := pd.frozen 5; simp at pd_c0 pd_c1 pd_c2 pd_c3 pd_c4 pd_c5
          have yd_c0 := yd.cell 0; have yd_c1 := yd.cell 1; have yd_c2 := yd.cell 2; have yd_c3 := yd.cell 3; have yd_c4 := yd.cell 4; have yd_c5 := yd.cell 5; simp at yd_c0 yd_c1 yd_c2 yd_c3 yd_c4 yd_c5
          go_wp2_with (fail)
          generalize hZ : World.setCell (World.setCell _ _ _) _ _ = wx
          have px : TmB wx B tx := by rw [← hZ]; exact pd.fr.fr.fr.fr.fr.fr.st.st.st.st.st.st
          have qx : TmB wx (B + 1) tx := by rw [← hZ]; exact qd.st.st.st.st.st.st.fr.fr.fr.fr.fr.fr
          have kx : Keeps (fun _ => False) w wx := by
            rw [← hZ]
            have hin : ∀ q : Nat, B ≤ q → ((fun _ => False : Nat → Prop) q ∨ w.heap.size ≤ q) := fun q hq => .inr (by omega)
            exact (((((((((((kd.setCell (hin _ (by simp)) _).setCell (hin _ (by simp)) _).setCell (hin _ (by simp)) _).setCell (hin _ (by simp)) _).setCell (hin _ (by simp)) _).setCell (hin _ (by simp)) _).setCell (hin _ (by simp)) _).setCell (hin _ (by simp)) _).setCell (hin _ (by simp)) _).setCell (hin _ (by simp)) _).setCell (hin _ (by simp)) _).setCell (hin _ (by simp)) _
          clear hZ pd qd yd kd qd_c0 qd_c1 qd_c2 qd_c3 qd_c4 qd_c5 qd_f0 qd_f1 qd_f2 qd_f3 qd_f4 qd_f5 pd_c0 pd_c1 pd_c2 pd_c3 pd_c4 pd_c5 pd_f0 pd_f1 pd_f2 pd_f3 pd_f4 pd_f5 yd_c0 yd_c1 yd_c2 yd_c3 yd_c4 yd_c5

          go_meet
          exact ⟨rfl, ⟨tx, hx, px, qx, kx⟩⟩
      case rest =>
        obtain ⟨rfl, ⟨tx, hx, px, qx, kx⟩⟩ := hcut
        go_wp2_with (fail)
        obtain ⟨xl, xc, xr, xa, xk, xg⟩ := tx
        have px_c0 := px.cell 0; have px_c1 := px.cell 1; have px_c2 := px.cell 2; have px_c3 := px.cell 3; have px_c4 := px.cell 4; have px_c5 := px.cell 5; simp at px_c0 px_c1 px_c2 px_c3 px_c4 px_c5
        have qx_c0 := qx.cell 0; have qx_c1 := qx.cell 1; have qx_c2 := qx.cell 2; have qx_c3 := qx.cell 3; have qx_c4 := qx.cell 4; have qx_c5 := qx.cell 5; simp at qx_c0 qx_c1 qx_c2 qx_c3 qx_c4 qx_c5
        have hneq : ∀ W : World, (binOp .neq 25 (.agg (Tm.cells ⟨xl, xc, xr, xa, xk, xg⟩)) (.agg (Tm.cells ⟨xl, xc, xr, xa, xk, xg⟩))).run Tryd.prog W = .ok (.bool false) W := fun W => by go_simp
        have hk2 : i + 1 ≤ n := hl1
        have hk3 : i + 1 ≤ 60 := hl2
        cases xg
        all_goals
          go_quiet ((go_at_call 17; exact quiet_same (IRQ_any B _ _ (px.drewN _))))
          go_wp2_with (fail)
          exact ⟨⟨i + 1, _, by simp, hk2, hk3, hx, px.drewN _, qx.drewN _, kx.drewN _⟩, by simp only [intV]; omega⟩
      -- END branches
    · go_wp2_with (fail)
      all_goals
        first
        | omega
        | (go_ret; exact ⟨rfl, kr.below (Nat.le_refl _) (fun _ _ h => h)⟩)
end Go.Proofs.YtbjhkgmojmggjaaDoor
