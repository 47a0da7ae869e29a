import Derived.Test.YtdjpocnijfhcgaaWirA
import Derived.Test.YtdjpocnijfhcgaaSlkR
set_option linter.unusedVariables false
set_option linter.unusedSimpArgs false
namespace Go.Proofs.Ytdjpocnijfhcgaa
open Slk
theorem rwir_new {g : Nat} {l : List HProp} : Ent (blk g 55 [.slice none 0 0, .slice none 0 0] :: l) (rwir 0 g [] [] :: l) := by
  refine Ent.trans ?_ (Ent.exS (L := rwirL 0 g [] []) (l := l) ((none, 0, []), (none, 0, [])))
  exact Ent.cons ((rowsB_nil (t := 5)).trans ((Ent.nil_row 26 1).trans ((rowsB_nil (t := 5)).trans (Ent.nil_row 26 1))))
theorem WirePlays_walk (W : World) (v0 : Value) (l : List Step) (h0 : Old none' W (Rep.rep l [v0])) :
    Calls Try.prog 9 #[v0] W fun e w' => e = .returned (.bool true) ∧ Own none' W w' [] := by
  obtain ⟨A, cap, rfl, hc1, hc2, hel⟩ := h0.openX (by decide)
  refine hc_enter (vs := [.slice A l.length cap]) Try.func9 rfl _ Try.ntmps9 rfl (Own.start none' W) ?_
  simp only [argSlots, Nat.zero_add]
  refine hc_seq <|
    hc_region <|
    hl_val (ov_assign rfl) rfl rfl rfl <|
    hl_nil <|
    hx_then_normal <|
    hc_seq <| ?_
  refine hc_seq <|
    hc_region <|
    hl_val (ov_move rfl) rfl rfl rfl <| ?_
  refine hl_call (σ := { b : Bool // b = true → fairP l }) Try.call24 rfl rfl (fun w1 H1 => Own.callx0 H1 fun D' hold hin H2 => wfair_spec D' w1 _ l (hold _ h0)) ?_
  rintro ⟨bv, hbv⟩
  try rw [List.nil_append]
  cases bv
  · skip
    refine hl_val (ov_not rfl) rfl rfl rfl <|
      hl_nil <|
      hx_then_normal <|
      hc_cond_true rfl <|
      hc_seq <|
      hc_region <| ?_
    refine hl_c Try.call23 rfl rfl (fun w1 H1 => Own.calln H1 fun D' hold hin H2 => wwakes_spec D' w1) ?_
    refine hl_val (ov_assign rfl) rfl rfl rfl <|
      hl_nil <|
      hx_then_normal <|
      hc_ret <|
      hx_then_ret <| ?_
    exact results_1 (.inr rfl) rfl rfl fun w' H' => ⟨rfl, H'.ent (Ent.nil _)⟩
  · skip
    have hfair := hbv rfl
    refine hl_val (ov_not rfl) rfl rfl rfl <|
      hl_nil <|
      hx_then_normal <|
      hc_cond_false rfl <|
      hc_skip <|
      hx_then_normal <| ?_
    refine hc_seq <|
      hc_region <|
      hl_val (ov_buildSN rfl rfl) rfl rfl rfl <| ?_
    refine hl_new (on_boxN rfl rfl) rfl rfl rfl fun b20 =>  ?_
    refine hl_val (ov_buildSN rfl rfl) rfl rfl rfl <| ?_
    refine hl_new (on_boxN rfl rfl) rfl rfl rfl fun b22 =>  ?_
    refine hl_val (ov_assign rfl) rfl rfl rfl <|
      hl_val (ov_assign rfl) rfl rfl rfl <|
      hl_nil <|
      hx_then_normal <|
      hc_seq <|
      hc_seq <| ?_
    refine hc_region <|
      hl_val (ov_assign rfl) rfl rfl rfl <|
      hl_nil <|
      hx_then_normal <|
      hc_block <| ?_
    refine hc_loopK1 (σ := Nat × LL × LL) [0, 3, 4] rfl 5 (fun s => .int .i64 s.1) (fun s => [wir 0 b20 s.2.1 s.2.2, rwir 0 b22 s.2.1 s.2.2]) (fun s => s.1 ≤ l.length ∧ okW s.2) (fun s => l.length - s.1) ((0, [], [])) (⟨Nat.zero_le _, by simp [okW]⟩) rfl ((Ent.perm (List.Perm.swap _ _ _)).trans (wir_new.trans (Ent.cons rwir_new))) ?_
    rintro ⟨i, p⟩ hj_ K1 hK1
    dsimp only at hj_ ⊢
    obtain ⟨hi, hok⟩ := hj_
    refine hc_seq <|
      hc_seq <|
      hc_region <|
      hl_val (ov_move rfl) rfl rfl rfl <|
      hl_val (ov_move rfl) rfl rfl rfl <|
      hl_val (by first | exact ov_len rfl | exact ov_lenS rfl) rfl rfl rfl <| ?_
    refine hl_val (ov_lss rfl rfl) rfl rfl rfl <|
      hl_nil <|
      hx_then_normal <| ?_
    refine hc_cond rfl (fun hlt => ?_) (fun hlt => ?_)
    · have hlt : i < l.length := by omega
      obtain ⟨hA, cs, hx, hcs⟩ := hel i hlt
      obtain ⟨u, rfl, hw1, hw2, hu⟩ := step_open hx
      rw [show Rep.sz Step = 3 from rfl] at hcs
      have hfi := hfair.2 i hlt
      obtain ⟨B, capB, rfl, hb1, hb2, heb⟩ := hu.openE rfl
      generalize l[i] = x at *
      obtain ⟨kind, way, fs⟩ := x
      dsimp only at *
      have hfs : ∀ y ∈ fs, y.length ≤ 1000000 := fun y hy => by
        obtain ⟨j, hj, rfl⟩ := List.getElem_of_mem hy
        have := hfi.2 j hj
        omega
      refine hc_skip <|
        hx_then_normal <|
        hc_seq <|
        hc_block <|
        hc_seq <|
        hc_region <| ?_
      refine hl_val (ov_move rfl) rfl rfl rfl <|
        hl_val (ov_move rfl) rfl rfl rfl <|
        hl_val (ov_idxS rfl (by assumption) rfl _ rfl (by omega)) rfl rfl rfl <| ?_
      refine hl_val (ov_loadG (cs := [.int .i64 kind, .int .i64 way, .slice B fs.length capB]) rfl rfl (fun w H m v hv => hcs m v hv _ w H)) rfl rfl rfl ?_
      refine hl_new (on_alloc) rfl rfl rfl fun b6 => 
        hl_u0 (on_storeGN rfl rfl rfl rfl rfl rfl) rfl rfl <|
        hl_nil <|
        hx_then_normal <|
        hc_seq <|
        hc_seq <| ?_
      refine hc_region <|
        hl_val (ov_fieldA rfl) rfl rfl rfl <|
        hl_val (ov_load rfl (CellIs.blk rfl)) rfl rfl rfl <|
        hl_nil <|
        hx_then_normal <|
        hc_block <| ?_
      refine hc_seq <|
        hc_region <|
        hl_val (ov_eql rfl rfl) rfl rfl rfl <|
        hl_val (ov_assign rfl) rfl rfl rfl <|
        hl_nil <|
        hx_then_normal <| ?_
      refine hc_cutK0 (σ := LL × LL) [0, 3, 4, 5] rfl  (fun q => [pureP (okW q), wir 0 b20 q.1 q.2, rwir 0 b22 q.1 q.2]) (fun K2 hK2 => ?_) (fun q => ?_)
      · refine hc_cond rfl (fun hk => ?_) (fun hk => ?_)
        · refine hc_seq <|
            hc_region <|
            hl_val (ov_assign rfl) rfl rfl rfl <|
            hl_nil <|
            hx_then_normal <|
            hc_seq <| ?_
          refine hc_seq <|
            hc_region <|
            hl_val (ov_assign rfl) rfl rfl rfl <|
            hl_nil <|
            hx_then_normal <|
            hc_block <| ?_
          refine hc_loopK2 (σ := Nat × Option Addr × Nat × List Value) [0, 3, 4, 5, 6] rfl 8 (fun s => .int .i64 s.1) 7 (fun s => .slice s.2.1 s.1 s.2.2.1) (fun s => [row s.2.1 26 1 s.1 s.2.2.1 s.2.2.2, rowsB 5 (fs.take s.1) s.2.2.2, blk b6 49 [.int .i64 kind, .int .i64 way, .slice B fs.length capB], wir 0 b20 p.1 p.2, rwir 0 b22 p.1 p.2]) (fun s => s.1 ≤ fs.length) (fun s => fs.length - s.1) ((0, none, 0, [])) (Nat.zero_le _) rfl rfl (fun h hh => Ent.nil_row _ _ h (rowsB_nil h hh)) ?_
          rintro ⟨k, I, capI, ds⟩ hk2 K3 hK3
          dsimp only at hk2 ⊢
          refine hc_seq <|
            hc_seq <|
            hc_region <|
            hl_val (ov_move rfl) rfl rfl rfl <|
            hl_val (ov_fieldA rfl) rfl rfl rfl <|
            hl_val (ov_load rfl (CellIs.blk rfl)) rfl rfl rfl <| ?_
          refine hl_val (by first | exact ov_len rfl | exact ov_lenS rfl) rfl rfl rfl <| ?_
          refine hl_val (ov_lss rfl rfl) rfl rfl rfl <|
            hl_nil <|
            hx_then_normal <| ?_
          refine hc_cond rfl (fun hlt2 => ?_) (fun hlt2 => ?_)
          · have hlt2 : k < fs.length := by omega
            obtain ⟨hB, u2, hu2, hcl⟩ := heb k hlt2
            obtain ⟨U, capU, rfl, _, _, HU⟩ := hu2.openB
            have hsn := List.take_succ_eq_append_getElem hlt2
            have hlx := hfs _ (List.getElem_mem hlt2)
            have hfl := hfi.1
            generalize fs[k]'hlt2 = xs at *
            refine hc_skip <|
              hx_then_normal <|
              hc_seq <|
              hc_block <|
              hc_region <|
              hl_val (ov_move rfl) rfl rfl rfl <| ?_
            refine hl_new (on_buildSliceN rfl rfl rfl) rfl rfl rfl fun b45 => 
              hl_val (ov_fieldA rfl) rfl rfl rfl <|
              hl_val (ov_load rfl (CellIs.blk rfl)) rfl rfl rfl <|
              hl_val (ov_move rfl) rfl rfl rfl <|
              hl_val (ov_idxS rfl (by assumption) rfl _ rfl (by omega)) rfl rfl rfl <|
              hl_val (by first | exact ov_load rfl (by assumption) | exact ov_load rfl (hcl _) | exact ov_load rfl (hcl2 _) | exact ov_load rfl (hcl3 _) | exact ov_load rfl (CellIs.blk rfl)) rfl rfl rfl <| ?_
            refine HL.ent (Ent.blk_row (b := b45) 1 0 rfl (by decide)) ?_
            refine hl_new (on_appendR (news := xs.map u8v) rfl rfl (SrcIs.old HU) (by simp) (u8_one xs) (by decide) (by omega)) rfl rfl rfl ?_
            rintro ⟨C, capC⟩
            dsimp only
            simp only [Nat.zero_add, List.nil_append]
            refine hl_new (on_buildSliceN rfl rfl rfl) rfl rfl rfl fun b52 =>  ?_
            refine hl_new (on_appendR (news := [.slice C xs.length capC]) rfl rfl SrcIs.blk rfl (by simp [Value.oneCell']) (by decide) (by omega)) rfl rfl rfl ?_
            rintro ⟨I2, capI2⟩
            dsimp only
            refine hl_val (ov_assign rfl) rfl rfl rfl <|
              hl_nil <|
              hx_block_normal <|
              hx_then_normal <|
              hc_region <|
              hl_val (ov_move rfl) rfl rfl rfl <| ?_
            refine hl_val (ov_add rfl rfl (by first | exact wrap_i64 (by omega) | rfl)) rfl rfl rfl <| ?_
            refine hl_val (ov_assign rfl) rfl rfl rfl <|
              hl_nil <| ?_
            exact hx_next hK3 ((k + 1, I2, capI2, ds ++ [.slice C xs.length capC])) (hlt2) (by dsimp only; omega) (by repeat (first | exact Slots.sub_nil _ | refine Slots.sub_cons rfl ?_)) (Ent.trans (b := [rowsB 5 (fs.take k) ds, row C 5 1 xs.length capC (xs.map u8v), row I2 26 1 (k + 1) capI2 (ds ++ [.slice C xs.length capC]), blk b6 49 [.int .i64 kind, .int .i64 way, .slice B fs.length capB], wir 0 b20 p.1 p.2, rwir 0 b22 p.1 p.2]) (by first | assumption | exact Ent.refl _ | exact Ent.nil _ | exact Ent.row_any (Ent.refl _) | (repeat (first | exact Ent.refl _ | exact Ent.nil _ | refine Ent.pick ?_))) (by dsimp only; rw [hsn]; exact rowsB_snoc.trans (Ent.perm (List.Perm.swap _ _ _))))
          · have : k = fs.length := by omega
            subst this
            rw [List.take_length]
            clear hlt2
            refine hc_exit <|
              hx_then_exit <|
              hx_then_exit <|
              hx_block_out <|
              hx_then_normal <|
              hc_seq <| ?_
            refine hc_seq <| ?_
            refine hc_any [blk b6 49 [.int .i64 kind, .int .i64 way, .slice B fs.length capB]] mixed 12 rfl ?_
            refine ha_take 0 rfl (ov_move rfl) rfl rfl rfl (by kernel_rfl) (by kernel_rfl) (by kernel_rfl) (by first | assumption | exact Ent.refl _ | exact Ent.nil _ | (repeat (first | exact Ent.refl _ | exact Ent.nil _ | refine Ent.pick ?_))) <| ?_
            refine ha_take 1 rfl (ov_fieldA rfl) rfl rfl rfl (by kernel_rfl) (by kernel_rfl) (by kernel_rfl) (by first | assumption | exact Ent.refl _ | exact Ent.nil _ | (repeat (first | exact Ent.refl _ | exact Ent.nil _ | refine Ent.pick ?_))) <| ?_
            refine ha_take 2 rfl (ov_load rfl (CellIs.blk rfl)) rfl rfl rfl (by kernel_rfl) (by kernel_rfl) (by kernel_rfl) (by first | assumption | exact Ent.refl _ | exact Ent.nil _ | (repeat (first | exact Ent.refl _ | exact Ent.nil _ | refine Ent.pick ?_))) <| ?_
            refine ha_take 3 rfl (ov_move rfl) rfl rfl rfl (by kernel_rfl) (by kernel_rfl) (by kernel_rfl) (by first | assumption | exact Ent.refl _ | exact Ent.nil _ | (repeat (first | exact Ent.refl _ | exact Ent.nil _ | refine Ent.pick ?_))) <| ?_
            refine ha_take 5 rfl (ov_move rfl) rfl rfl rfl (by kernel_rfl) (by kernel_rfl) (by kernel_rfl) (by first | assumption | exact Ent.refl _ | exact Ent.nil _ | (repeat (first | exact Ent.refl _ | exact Ent.nil _ | refine Ent.pick ?_))) <| ?_
            refine ha_take 6 rfl (ov_fieldA rfl) rfl rfl rfl (by kernel_rfl) (by kernel_rfl) (by kernel_rfl) (by first | assumption | exact Ent.refl _ | exact Ent.nil _ | (repeat (first | exact Ent.refl _ | exact Ent.nil _ | refine Ent.pick ?_))) <| ?_
            refine ha_take 7 rfl (ov_load rfl (CellIs.blk rfl)) rfl rfl rfl (by kernel_rfl) (by kernel_rfl) (by kernel_rfl) (by first | assumption | exact Ent.refl _ | exact Ent.nil _ | (repeat (first | exact Ent.refl _ | exact Ent.nil _ | refine Ent.pick ?_))) <| ?_
            refine ha_take 8 rfl (ov_fieldA rfl) rfl rfl rfl (by kernel_rfl) (by kernel_rfl) (by kernel_rfl) (by first | assumption | exact Ent.refl _ | exact Ent.nil _ | (repeat (first | exact Ent.refl _ | exact Ent.nil _ | refine Ent.pick ?_))) <| ?_
            refine ha_take 9 rfl (ov_load rfl (CellIs.blk rfl)) rfl rfl rfl (by kernel_rfl) (by kernel_rfl) (by kernel_rfl) (by first | assumption | exact Ent.refl _ | exact Ent.nil _ | (repeat (first | exact Ent.refl _ | exact Ent.nil _ | refine Ent.pick ?_))) <| ?_
            refine ha_one 4 (by kernel_rfl) <| ?_
            refine ho_c rfl Try.call19 rfl rfl rfl (fun w1 H1 => Own.callp (wir 0 b20 p.1 p.2) H1 fun D' hold hin H2 => Put_all D' w1 b20 way p _ fs hok hfs H2 (hin _ fun h hs ho => rep_row (A := I) hs fs rfl (stars_rowsB (t := 5) (xs := fs) (cs := ds) hs))) (by first | assumption | exact Ent.refl _ | exact Ent.nil _ | (repeat (first | exact Ent.refl _ | exact Ent.nil _ | refine Ent.pick ?_))) ?_
            refine ha_one 10 (by kernel_rfl) <| ?_
            refine ho_c rfl Try.call26 rfl rfl rfl (fun w1 H1 => Own.callp (rwir 0 b22 p.1 p.2) H1 fun D' hold hin H2 => RPut_all D' w1 b22 way p _ fs hok hfs H2 (hold _ hu)) (by first | assumption | exact Ent.refl _ | exact Ent.nil _ | (repeat (first | exact Ent.refl _ | exact Ent.nil _ | refine Ent.pick ?_))) ?_
            refine ha_take 11 rfl (ov_neq rfl rfl) rfl rfl rfl (by kernel_rfl) (by kernel_rfl) (by kernel_rfl) (by first | assumption | exact Ent.refl _ | exact Ent.nil _ | (repeat (first | exact Ent.refl _ | exact Ent.nil _ | refine Ent.pick ?_))) <| ?_
            refine ha_done (by kernel_rfl) <|
              hx_then_normal <| ?_
            refine hc_cond_F rfl (fun h => h rfl) ?_
            have hokP : okW (putL way fs p) := okW_put hok hfs
            generalize putL way fs p = R at *
            refine HC.fact (fun w H => Own.factR I H) (fun hf => ?_)
            obtain ⟨hds, _, _, hIA⟩ := hf
            have hf100 := hfi.1
            refine hc_skip <|
              hx_then_normal <|
              hc_seq <|
              hc_region <|
              hl_val (ov_assign rfl) rfl rfl rfl <|
              hl_nil <| ?_
            refine hx_then_normal <|
              hc_block <| ?_
            refine hc_loopK1 (σ := Nat × LL) [0, 3, 4, 5, 7] rfl 9 (fun s => .int .i64 s.1) (fun s => [rowsB 5 s.2 ds, row I 26 1 fs.length capI ds, wir 0 b20 R.1 R.2, rwir 0 b22 R.1 R.2]) (fun s => s.1 ≤ fs.length ∧ s.2.length = fs.length) (fun s => fs.length - s.1) ((0, fs)) (⟨Nat.zero_le _, rfl⟩) rfl (by first | assumption | exact Ent.refl _ | exact Ent.nil _ | (repeat (first | exact Ent.refl _ | exact Ent.nil _ | refine Ent.pick ?_))) ?_
            rintro ⟨k, ys⟩ hj_ K4 hK4
            dsimp only at hj_ ⊢
            obtain ⟨hk3, hyl⟩ := hj_
            refine hc_seq <|
              hc_seq <|
              hc_region <|
              hl_val (ov_move rfl) rfl rfl rfl <|
              hl_val (ov_move rfl) rfl rfl rfl <|
              hl_val (by first | exact ov_len rfl | exact ov_lenS rfl) rfl rfl rfl <| ?_
            refine hl_val (ov_lss rfl rfl) rfl rfl rfl <|
              hl_nil <|
              hx_then_normal <| ?_
            refine hc_cond rfl (fun hlt3 => ?_) (fun hlt3 => ?_)
            · have hlt3 : k < fs.length := by omega
              have hI : isA I := hIA (by rintro rfl; simp at hds; omega)
              obtain ⟨ya, y, yb, rfl, hya⟩ := split_at ys k (by omega)
              obtain ⟨da, d, db, rfl, hda⟩ := split_at ds k (by omega)
              refine HC.ent (l' := [rowB 5 y d, rowsB 5 ya da, rowsB 5 yb db, row I 26 1 fs.length capI (da ++ d :: db), wir 0 b20 R.1 R.2, rwir 0 b22 R.1 R.2]) (rowsB_mid (by omega)) ?_
              refine HC.rowB ?_
              rintro U capU rfl
              refine HC.fact (fun w H => Own.factR U H) (fun hf => ?_)
              obtain ⟨_, hu1, hu2, hUA⟩ := hf
              refine hc_skip <|
                hx_then_normal <|
                hc_seq <|
                hc_block <|
                hc_seq <|
                hc_region <| ?_
              refine hl_val (ov_assign rfl) rfl rfl rfl <|
                hl_nil <|
                hx_then_normal <|
                hc_block <| ?_
              refine hc_loopK1 (σ := Nat × List UInt8) [0, 3, 4, 5, 7, 9] rfl 10 (fun z => .int .i64 z.1) (fun z => [row U 5 1 y.length capU (z.2.map u8v), rowsB 5 ya da, rowsB 5 yb db, row I 26 1 fs.length capI (da ++ .slice U y.length capU :: db), wir 0 b20 R.1 R.2, rwir 0 b22 R.1 R.2]) (fun z => z.1 ≤ y.length ∧ z.2.length = y.length) (fun z => y.length - z.1) ((0, y)) (⟨Nat.zero_le _, rfl⟩) rfl (by first | assumption | exact Ent.refl _ | exact Ent.nil _ | (repeat (first | exact Ent.refl _ | exact Ent.nil _ | refine Ent.pick ?_))) ?_
              rintro ⟨j, z⟩ hj_ K5 hK5
              dsimp only at hj_ ⊢
              obtain ⟨hj3, hzl⟩ := hj_
              refine hc_seq <|
                hc_seq <|
                hc_region <|
                hl_val (ov_move rfl) rfl rfl rfl <|
                hl_val (ov_move rfl) rfl rfl rfl <|
                hl_val (ov_move rfl) rfl rfl rfl <| ?_
              refine hl_val (ov_idxS rfl (by assumption) rfl _ rfl (by omega)) rfl rfl rfl <| ?_
              refine hl_val (ov_load rfl (CellIs.row (A := I) hI (i := k * 1) (v := .slice U y.length capU) (by simp [← hda]))) rfl rfl rfl ?_
              refine hl_val (by first | exact ov_len rfl | exact ov_lenS rfl) rfl rfl rfl <| ?_
              refine hl_val (ov_lss rfl rfl) rfl rfl rfl <|
                hl_nil <|
                hx_then_normal <| ?_
              refine hc_cond rfl (fun hlt4 => ?_) (fun hlt4 => ?_)
              · have hlt4 : j < y.length := by omega
                have hU : isA U := hUA (by intro h; simp at h; subst h; simp at hlt4)
                have hzj : (z.map u8v)[j * 1]? = some (u8v (z[j]'(by omega))) := by simp [List.getElem?_eq_getElem (show j < z.length by omega)]
                refine hc_skip <|
                  hx_then_normal <|
                  hc_seq <|
                  hc_block <|
                  hc_region <|
                  hl_val (ov_move rfl) rfl rfl rfl <| ?_
                refine hl_val (ov_move rfl) rfl rfl rfl <|
                  hl_val (ov_idxS rfl (by assumption) rfl _ rfl (by omega)) rfl rfl rfl <| ?_
                refine hl_val (ov_load rfl (CellIs.row (A := I) hI (i := k * 1) (v := .slice U y.length capU) (by simp [← hda]))) rfl rfl rfl ?_
                refine hl_val (ov_move rfl) rfl rfl rfl <|
                  hl_val (ov_idxS rfl (by assumption) rfl _ rfl (by omega)) rfl rfl rfl <| ?_
                refine hl_val (ov_load rfl (CellIs.row (A := U) hU hzj)) rfl rfl rfl ?_
                refine hl_val (ov_xor_u8 (b := 255) rfl rfl) rfl rfl rfl ?_
                refine hl_val (ov_idxS rfl (by assumption) rfl _ rfl (by omega)) rfl rfl rfl <| ?_
                refine hl_u0 (on_storeR (A := U) (o := j * 1) rfl rfl (by simp; omega) rfl) rfl rfl ?_
                refine hl_nil <|
                  hx_block_normal <|
                  hx_then_normal <|
                  hc_region <|
                  hl_val (ov_move rfl) rfl rfl rfl <|
                  hl_val (ov_add rfl rfl (by first | exact wrap_i64 (by omega) | rfl)) rfl rfl rfl <| ?_
                refine hl_val (ov_assign rfl) rfl rfl rfl <|
                  hl_nil <| ?_
                exact hx_next hK5 ((j + 1, z.set j (z[j]'(by omega) ^^^ 255))) (⟨hlt4, by simp [hzl]⟩) (by dsimp only; omega) (by repeat (first | exact Slots.sub_nil _ | refine Slots.sub_cons rfl ?_)) (by dsimp only; rw [← map_set_u8, show j * 1 = j by omega]; exact Ent.refl _)
              · refine hc_exit <|
                  hx_then_exit <|
                  hx_then_exit <|
                  hx_block_out <|
                  hx_block_normal <|
                  hx_then_normal <| ?_
                refine hc_region <|
                  hl_val (ov_move rfl) rfl rfl rfl <|
                  hl_val (ov_add rfl rfl (by first | exact wrap_i64 (by omega) | rfl)) rfl rfl rfl <| ?_
                refine hl_val (ov_assign rfl) rfl rfl rfl <|
                  hl_nil <| ?_
                exact hx_next hK4 ((k + 1, ya ++ z :: yb)) (⟨hlt3, by simp at hyl ⊢; omega⟩) (by dsimp only; omega) (by repeat (first | exact Slots.sub_nil _ | refine Slots.sub_cons rfl ?_)) (by dsimp only; exact Ent.trans (b := [rowB 5 z (.slice U y.length capU), rowsB 5 ya da, rowsB 5 yb db, row I 26 1 fs.length capI (da ++ .slice U y.length capU :: db), wir 0 b20 R.1 R.2, rwir 0 b22 R.1 R.2]) (Ent.head (by rw [← hzl]; exact rowB_mk)) rowsB_mid')
            · refine hc_exit <|
                hx_then_exit <|
                hx_then_exit <|
                hx_block_out <| ?_
              exact hx_cut hK2 (R) (by repeat (first | exact Slots.sub_nil _ | refine Slots.sub_cons rfl ?_)) (Ent.pure_cons hokP (by first | assumption | exact Ent.refl _ | exact Ent.nil _ | exact Ent.row_any (Ent.refl _) | (repeat (first | exact Ent.refl _ | exact Ent.nil _ | refine Ent.pick ?_))))
        · refine hc_seq <|
            hc_region <|
            hl_val (ov_eql rfl rfl) rfl rfl rfl <|
            hl_val (ov_assign rfl) rfl rfl rfl <|
            hl_nil <|
            hx_then_normal <| ?_
          refine hc_cond rfl (fun hk1 => ?_) (fun hk1 => ?_)
          · refine hc_seq <|
              hc_region <|
              hl_val (ov_move rfl) rfl rfl rfl <|
              hl_val (ov_fieldA rfl) rfl rfl rfl <|
              hl_val (ov_load rfl (CellIs.blk rfl)) rfl rfl rfl <| ?_
            refine hl_call (σ := Value) Try.call21 rfl rfl (fun w1 H1 => Own.callpx (wir 0 b20 p.1 p.2) H1 fun D' hold hin H2 => Take_all D' w1 b20 way p H2) ?_
            intro c0
            refine hl_val (ov_move rfl) rfl rfl rfl <|
              hl_val (ov_extract rfl rfl) rfl rfl rfl <|
              hl_val (ov_extract rfl rfl) rfl rfl rfl <|
              hl_val (ov_assign rfl) rfl rfl rfl <|
              hl_val (ov_assign rfl) rfl rfl rfl <|
              hl_nil <| ?_
            refine hx_then_normal <|
              hc_seq <|
              hc_region <|
              hl_val (ov_move rfl) rfl rfl rfl <|
              hl_val (ov_fieldA rfl) rfl rfl rfl <|
              hl_val (ov_load rfl (CellIs.blk rfl)) rfl rfl rfl <| ?_
            refine hl_call (σ := Value) Try.call27 rfl rfl (fun w1 H1 => Own.callpx (rwir 0 b22 p.1 p.2) H1 fun D' hold hin H2 => RTake_all D' w1 b22 way p hok H2) ?_
            intro c1
            refine hl_val (ov_move rfl) rfl rfl rfl <|
              hl_val (ov_extract rfl rfl) rfl rfl rfl <|
              hl_val (ov_extract rfl rfl) rfl rfl rfl <|
              hl_val (ov_assign rfl) rfl rfl rfl <|
              hl_val (ov_assign rfl) rfl rfl rfl <|
              hl_nil <| ?_
            refine hx_then_normal <|
              hc_seq <|
              hc_region <|
              hl_val (ov_move rfl) rfl rfl rfl <|
              hl_val (ov_move rfl) rfl rfl rfl <|
              hl_val (ov_neqB rfl rfl) rfl rfl rfl <| ?_
            refine hl_val (ov_move rfl) rfl rfl rfl <| ?_
            refine hl_partF (t := 109) rfl (fun h => h rfl) ?_
            refine hl_on rfl rfl <| hl_val (ov_move rfl) rfl rfl rfl <|
              hl_on rfl rfl <| hl_val (ov_move rfl) rfl rfl rfl <| ?_
            refine hl_on rfl rfl <| hl_c Try.call25 rfl rfl (fun w1 H1 => Own.calln H1 fun D' hold hin H2 => Bytes_spec D' w1 c0 c1 _ _ (hin _ fun h hs ho => stars_rep (x := takeX way p) hs) (hin _ fun h hs ho => stars_rep (x := takeX way p) hs)) ?_
            refine hl_on rfl rfl <| hl_val (by first | exact ov_notd rfl | exact ov_not rfl) rfl rfl rfl <| ?_
            refine hl_val (ov_pickF rfl rfl) rfl rfl rfl <|
              hl_nil <|
              hx_then_normal <| ?_
            refine hc_cond_F rfl (fun h => h rfl) ?_
            refine hc_skip <| ?_
            exact hx_cut hK2 (takeL way p) (by repeat (first | exact Slots.sub_nil _ | refine Slots.sub_cons rfl ?_)) (Ent.pure_cons (okW_take hok) (by first | assumption | exact Ent.refl _ | exact Ent.nil _ | exact Ent.row_any (Ent.refl _) | (repeat (first | exact Ent.refl _ | exact Ent.nil _ | refine Ent.pick ?_))))
          · refine hc_seq <|
              hc_region <|
              hl_val (ov_eql rfl rfl) rfl rfl rfl <|
              hl_val (ov_assign rfl) rfl rfl rfl <|
              hl_nil <|
              hx_then_normal <| ?_
            refine hc_cond rfl (fun hk2 => ?_) (fun hk2 => ?_)
            · refine hc_seq <|
                hc_region <|
                hl_val (ov_move rfl) rfl rfl rfl <| ?_
              refine hl_c Try.call28 rfl rfl (fun w1 H1 => Own.callp (wir 0 b20 p.1 p.2) H1 fun D' hold hin H2 => Clear_spec D' w1 b20 p.1 p.2 H2) ?_
              refine hl_nil <|
                hx_then_normal <|
                hc_region <| ?_
              refine HL.ent (Ent.pick (A := rwir 0 b22 p.1 p.2) (Ent.refl _)) ?_
              refine HL.exs ?_
              rintro ⟨⟨A0, cap0, cs0⟩, A1, cap1, cs1⟩
              refine HL.ent (l' := [blk b22 55 [.slice A0 p.1.length cap0, .slice A1 p.2.length cap1], wir 0 b20 [] []]) (Ent.trans (b := [blk b22 55 [.slice A0 p.1.length cap0, .slice A1 p.2.length cap1], row A0 26 1 p.1.length cap0 cs0, rowsB 5 p.1 cs0, row A1 26 1 p.2.length cap1 cs1, rowsB 5 p.2 cs1, wir 0 b20 [] [], blk b6 49 [.int .i64 kind, .int .i64 way, .slice B fs.length capB]]) (fun _ h => h) (by first | assumption | exact Ent.refl _ | exact Ent.nil _ | exact Ent.row_any (Ent.refl _) | (repeat (first | exact Ent.refl _ | exact Ent.nil _ | refine Ent.pick ?_)))) ?_
              refine hl_val (ov_move rfl) rfl rfl rfl <|
                hl_val (ov_buildAN rfl rfl) rfl rfl rfl <| ?_
              refine hl_val (ov_nil rfl) rfl rfl rfl <|
                hl_val (ov_fieldA rfl) rfl rfl rfl <|
                hl_u0 (on_storeGN rfl rfl rfl rfl rfl rfl) rfl rfl <|
                hl_nil <| ?_
              exact hx_cut hK2 (([], [])) (by repeat (first | exact Slots.sub_nil _ | refine Slots.sub_cons rfl ?_)) (Ent.pure_cons (by simp [okW]) (rwir_new.trans (by first | assumption | exact Ent.refl _ | exact Ent.nil _ | exact Ent.row_any (Ent.refl _) | (repeat (first | exact Ent.refl _ | exact Ent.nil _ | refine Ent.pick ?_)))))
            · refine hc_skip <| ?_
              exact hx_cut hK2 (p) (by repeat (first | exact Slots.sub_nil _ | refine Slots.sub_cons rfl ?_)) (Ent.pure_cons hok (by first | assumption | exact Ent.refl _ | exact Ent.nil _ | exact Ent.row_any (Ent.refl _) | (repeat (first | exact Ent.refl _ | exact Ent.nil _ | refine Ent.pick ?_))))
      · refine HX.pure fun hokq => ?_
        refine hx_block_normal <|
          hx_then_normal <|
          hc_seq <| ?_
        refine HC.ent (Ent.pick (A := rwir 0 b22 q.1 q.2) (Ent.refl _)) ?_
        refine HC.exs ?_
        rintro ⟨⟨A0, cap0, cs0⟩, A1, cap1, cs1⟩
        refine HC.ent (l' := [wir 0 b20 q.1 q.2, blk b22 55 [.slice A0 q.1.length cap0, .slice A1 q.2.length cap1], row A0 26 1 q.1.length cap0 cs0, rowsB 5 q.1 cs0, row A1 26 1 q.2.length cap1 cs1, rowsB 5 q.2 cs1]) (fun _ h => stars_perm (List.perm_append_comm (l₁ := [blk b22 55 [.slice A0 q.1.length cap0, .slice A1 q.2.length cap1], row A0 26 1 q.1.length cap0 cs0, rowsB 5 q.1 cs0, row A1 26 1 q.2.length cap1 cs1, rowsB 5 q.2 cs1]) (l₂ := [wir 0 b20 q.1 q.2])) h) ?_
        have hq1 := hokq.1
        have hq2 := hokq.2.1
        refine hc_any [wir 0 b20 q.1 q.2, blk b22 55 [.slice A0 q.1.length cap0, .slice A1 q.2.length cap1], row A0 26 1 q.1.length cap0 cs0, rowsB 5 q.1 cs0, row A1 26 1 q.2.length cap1 cs1, rowsB 5 q.2 cs1] mixed 44 rfl ?_
        refine ha_take 0 rfl (ov_move rfl) rfl rfl rfl (by kernel_rfl) (by kernel_rfl) (by kernel_rfl) (by first | assumption | exact Ent.refl _ | exact Ent.nil _ | (repeat (first | exact Ent.refl _ | exact Ent.nil _ | refine Ent.pick ?_))) <| ?_
        refine ha_take 2 rfl (ov_move rfl) rfl rfl rfl (by kernel_rfl) (by kernel_rfl) (by kernel_rfl) (by first | assumption | exact Ent.refl _ | exact Ent.nil _ | (repeat (first | exact Ent.refl _ | exact Ent.nil _ | refine Ent.pick ?_))) <| ?_
        refine ha_take 3 rfl (ov_nil rfl) rfl rfl rfl (by kernel_rfl) (by kernel_rfl) (by kernel_rfl) (by first | assumption | exact Ent.refl _ | exact Ent.nil _ | (repeat (first | exact Ent.refl _ | exact Ent.nil _ | refine Ent.pick ?_))) <| ?_
        refine ha_take 4 rfl (ov_fieldA rfl) rfl rfl rfl (by kernel_rfl) (by kernel_rfl) (by kernel_rfl) (by first | assumption | exact Ent.refl _ | exact Ent.nil _ | (repeat (first | exact Ent.refl _ | exact Ent.nil _ | refine Ent.pick ?_))) <| ?_
        refine ha_take 5 rfl (ov_idxPc rfl rfl rfl rfl rfl) rfl rfl rfl (by kernel_rfl) (by kernel_rfl) (by kernel_rfl) (by first | assumption | exact Ent.refl _ | exact Ent.nil _ | (repeat (first | exact Ent.refl _ | exact Ent.nil _ | refine Ent.pick ?_))) <| ?_
        refine ha_take 6 rfl (ov_load rfl (CellIs.blk rfl)) rfl rfl rfl (by kernel_rfl) (by kernel_rfl) (by kernel_rfl) (by first | assumption | exact Ent.refl _ | exact Ent.nil _ | (repeat (first | exact Ent.refl _ | exact Ent.nil _ | refine Ent.pick ?_))) <| ?_
        refine ha_one 1 (by kernel_rfl) <| ?_
        refine ho_call (σ := Value) rfl Try.call22 rfl rfl rfl (fun w1 H1 => Own.callpx (wir 0 b20 q.1 q.2) H1 fun D' hold hin H2 => All_0 D' w1 b20 q hokq H2) (fun _ => (by first | assumption | exact Ent.refl _ | exact Ent.nil _ | (repeat (first | exact Ent.refl _ | exact Ent.nil _ | refine Ent.pick ?_)))) ?_
        intro c0
        refine ha_one 7 (by kernel_rfl) <| ?_
        refine ho_c rfl Try.call17 rfl rfl rfl (fun w1 H1 => Own.calln H1 fun D' hold hin H2 => Lists_spec D' w1 c0 _ q.1 q.1 (hin _ fun h hs ho => stars_rep hs) (hin _ fun h hs ho => rep_row (A := A0) hs q.1 rfl (stars_rowsB (t := 5) (xs := q.1) (cs := cs0) hs))) (by first | assumption | exact Ent.refl _ | exact Ent.nil _ | (repeat (first | exact Ent.refl _ | exact Ent.nil _ | refine Ent.pick ?_))) ?_
        refine ha_take 8 rfl (by first | exact ov_notd rfl | exact ov_not rfl) rfl rfl rfl (by kernel_rfl) (by kernel_rfl) (by kernel_rfl) (by first | assumption | exact Ent.refl _ | exact Ent.nil _ | (repeat (first | exact Ent.refl _ | exact Ent.nil _ | refine Ent.pick ?_))) <| ?_
        refine ha_take 9 rfl (ov_move rfl) rfl rfl rfl (by kernel_rfl) (by kernel_rfl) (by kernel_rfl) (by first | assumption | exact Ent.refl _ | exact Ent.nil _ | (repeat (first | exact Ent.refl _ | exact Ent.nil _ | refine Ent.pick ?_))) <| ?_
        refine ha_partF (t := 132) rfl (fun h => h rfl) ?_
        refine ha_take 10 rfl (ov_move rfl) rfl rfl rfl (by kernel_rfl) (by kernel_rfl) (by kernel_rfl) (by first | assumption | exact Ent.refl _ | exact Ent.nil _ | (repeat (first | exact Ent.refl _ | exact Ent.nil _ | refine Ent.pick ?_))) <| ?_
        refine ha_take 12 rfl (ov_move rfl) rfl rfl rfl (by kernel_rfl) (by kernel_rfl) (by kernel_rfl) (by first | assumption | exact Ent.refl _ | exact Ent.nil _ | (repeat (first | exact Ent.refl _ | exact Ent.nil _ | refine Ent.pick ?_))) <| ?_
        refine ha_take 13 rfl (ov_nil rfl) rfl rfl rfl (by kernel_rfl) (by kernel_rfl) (by kernel_rfl) (by first | assumption | exact Ent.refl _ | exact Ent.nil _ | (repeat (first | exact Ent.refl _ | exact Ent.nil _ | refine Ent.pick ?_))) <| ?_
        refine ha_take 14 rfl (ov_fieldA rfl) rfl rfl rfl (by kernel_rfl) (by kernel_rfl) (by kernel_rfl) (by first | assumption | exact Ent.refl _ | exact Ent.nil _ | (repeat (first | exact Ent.refl _ | exact Ent.nil _ | refine Ent.pick ?_))) <| ?_
        refine ha_take 15 rfl (ov_idxPc rfl rfl rfl rfl rfl) rfl rfl rfl (by kernel_rfl) (by kernel_rfl) (by kernel_rfl) (by first | assumption | exact Ent.refl _ | exact Ent.nil _ | (repeat (first | exact Ent.refl _ | exact Ent.nil _ | refine Ent.pick ?_))) <| ?_
        refine ha_take 16 rfl (ov_load rfl (CellIs.blk rfl)) rfl rfl rfl (by kernel_rfl) (by kernel_rfl) (by kernel_rfl) (by first | assumption | exact Ent.refl _ | exact Ent.nil _ | (repeat (first | exact Ent.refl _ | exact Ent.nil _ | refine Ent.pick ?_))) <| ?_
        refine ha_one 11 (by kernel_rfl) <| ?_
        refine ho_call (σ := Value) rfl Try.call22 rfl rfl rfl (fun w1 H1 => Own.callpx (wir 0 b20 q.1 q.2) H1 fun D' hold hin H2 => All_1 D' w1 b20 q hokq H2) (fun _ => (by first | assumption | exact Ent.refl _ | exact Ent.nil _ | (repeat (first | exact Ent.refl _ | exact Ent.nil _ | refine Ent.pick ?_)))) ?_
        intro c1
        refine ha_one 17 (by kernel_rfl) <| ?_
        refine ho_c rfl Try.call17 rfl rfl rfl (fun w1 H1 => Own.calln H1 fun D' hold hin H2 => Lists_spec D' w1 c1 _ q.2 q.2 (hin _ fun h hs ho => stars_rep hs) (hin _ fun h hs ho => rep_row (A := A1) hs q.2 rfl (stars_rowsB (t := 5) (xs := q.2) (cs := cs1) hs))) (by first | assumption | exact Ent.refl _ | exact Ent.nil _ | (repeat (first | exact Ent.refl _ | exact Ent.nil _ | refine Ent.pick ?_))) ?_
        refine ha_take 18 rfl (by first | exact ov_notd rfl | exact ov_not rfl) rfl rfl rfl (by kernel_rfl) (by kernel_rfl) (by kernel_rfl) (by first | assumption | exact Ent.refl _ | exact Ent.nil _ | (repeat (first | exact Ent.refl _ | exact Ent.nil _ | refine Ent.pick ?_))) <| ?_
        refine ha_take 19 rfl (ov_pickF rfl rfl) rfl rfl rfl (by kernel_rfl) (by kernel_rfl) (by kernel_rfl) (by first | assumption | exact Ent.refl _ | exact Ent.nil _ | (repeat (first | exact Ent.refl _ | exact Ent.nil _ | refine Ent.pick ?_))) <| ?_
        refine ha_take 20 rfl (ov_move rfl) rfl rfl rfl (by kernel_rfl) (by kernel_rfl) (by kernel_rfl) (by first | assumption | exact Ent.refl _ | exact Ent.nil _ | (repeat (first | exact Ent.refl _ | exact Ent.nil _ | refine Ent.pick ?_))) <| ?_
        refine ha_partF (t := 143) rfl (fun h => h rfl) ?_
        refine ha_take 21 rfl (ov_move rfl) rfl rfl rfl (by kernel_rfl) (by kernel_rfl) (by kernel_rfl) (by first | assumption | exact Ent.refl _ | exact Ent.nil _ | (repeat (first | exact Ent.refl _ | exact Ent.nil _ | refine Ent.pick ?_))) <| ?_
        refine ha_one 22 (by kernel_rfl) <| ?_
        refine ho_c rfl Try.call22 rfl rfl rfl (fun w1 H1 => Own.calln H1 fun D' hold hin H2 => All_out D' w1 _ 2 (.inr (.inr (by decide)))) (by first | assumption | exact Ent.refl _ | exact Ent.nil _ | (repeat (first | exact Ent.refl _ | exact Ent.nil _ | refine Ent.pick ?_))) ?_
        refine ha_take 23 rfl (by first | exact ov_len rfl | exact ov_lenS rfl) rfl rfl rfl (by kernel_rfl) (by kernel_rfl) (by kernel_rfl) (by first | assumption | exact Ent.refl _ | exact Ent.nil _ | (repeat (first | exact Ent.refl _ | exact Ent.nil _ | refine Ent.pick ?_))) <| ?_
        refine ha_take 24 rfl (ov_neq rfl rfl) rfl rfl rfl (by kernel_rfl) (by kernel_rfl) (by kernel_rfl) (by first | assumption | exact Ent.refl _ | exact Ent.nil _ | (repeat (first | exact Ent.refl _ | exact Ent.nil _ | refine Ent.pick ?_))) <| ?_
        refine ha_take 25 rfl (ov_pickF rfl rfl) rfl rfl rfl (by kernel_rfl) (by kernel_rfl) (by kernel_rfl) (by first | assumption | exact Ent.refl _ | exact Ent.nil _ | (repeat (first | exact Ent.refl _ | exact Ent.nil _ | refine Ent.pick ?_))) <| ?_
        refine ha_take 26 rfl (ov_move rfl) rfl rfl rfl (by kernel_rfl) (by kernel_rfl) (by kernel_rfl) (by first | assumption | exact Ent.refl _ | exact Ent.nil _ | (repeat (first | exact Ent.refl _ | exact Ent.nil _ | refine Ent.pick ?_))) <| ?_
        refine ha_partF (t := 149) rfl (by simp) ?_
        refine ha_take 27 rfl (ov_move rfl) rfl rfl rfl (by kernel_rfl) (by kernel_rfl) (by kernel_rfl) (by first | assumption | exact Ent.refl _ | exact Ent.nil _ | (repeat (first | exact Ent.refl _ | exact Ent.nil _ | refine Ent.pick ?_))) <| ?_
        refine ha_take 29 rfl (ov_move rfl) rfl rfl rfl (by kernel_rfl) (by kernel_rfl) (by kernel_rfl) (by first | assumption | exact Ent.refl _ | exact Ent.nil _ | (repeat (first | exact Ent.refl _ | exact Ent.nil _ | refine Ent.pick ?_))) <| ?_
        refine ha_take 30 rfl (ov_nil rfl) rfl rfl rfl (by kernel_rfl) (by kernel_rfl) (by kernel_rfl) (by first | assumption | exact Ent.refl _ | exact Ent.nil _ | (repeat (first | exact Ent.refl _ | exact Ent.nil _ | refine Ent.pick ?_))) <| ?_
        refine ha_take 31 rfl (ov_fieldA rfl) rfl rfl rfl (by kernel_rfl) (by kernel_rfl) (by kernel_rfl) (by first | assumption | exact Ent.refl _ | exact Ent.nil _ | (repeat (first | exact Ent.refl _ | exact Ent.nil _ | refine Ent.pick ?_))) <| ?_
        refine ha_take 32 rfl (ov_idxPc rfl rfl rfl rfl rfl) rfl rfl rfl (by kernel_rfl) (by kernel_rfl) (by kernel_rfl) (by first | assumption | exact Ent.refl _ | exact Ent.nil _ | (repeat (first | exact Ent.refl _ | exact Ent.nil _ | refine Ent.pick ?_))) <| ?_
        refine ha_take 33 rfl (ov_load rfl (CellIs.blk rfl)) rfl rfl rfl (by kernel_rfl) (by kernel_rfl) (by kernel_rfl) (by first | assumption | exact Ent.refl _ | exact Ent.nil _ | (repeat (first | exact Ent.refl _ | exact Ent.nil _ | refine Ent.pick ?_))) <| ?_
        refine ha_take 34 rfl (by first | exact ov_len rfl | exact ov_lenS rfl) rfl rfl rfl (by kernel_rfl) (by kernel_rfl) (by kernel_rfl) (by first | assumption | exact Ent.refl _ | exact Ent.nil _ | (repeat (first | exact Ent.refl _ | exact Ent.nil _ | refine Ent.pick ?_))) <| ?_
        refine ha_take 35 rfl (ov_move rfl) rfl rfl rfl (by kernel_rfl) (by kernel_rfl) (by kernel_rfl) (by first | assumption | exact Ent.refl _ | exact Ent.nil _ | (repeat (first | exact Ent.refl _ | exact Ent.nil _ | refine Ent.pick ?_))) <| ?_
        refine ha_take 36 rfl (ov_nil rfl) rfl rfl rfl (by kernel_rfl) (by kernel_rfl) (by kernel_rfl) (by first | assumption | exact Ent.refl _ | exact Ent.nil _ | (repeat (first | exact Ent.refl _ | exact Ent.nil _ | refine Ent.pick ?_))) <| ?_
        refine ha_take 37 rfl (ov_fieldA rfl) rfl rfl rfl (by kernel_rfl) (by kernel_rfl) (by kernel_rfl) (by first | assumption | exact Ent.refl _ | exact Ent.nil _ | (repeat (first | exact Ent.refl _ | exact Ent.nil _ | refine Ent.pick ?_))) <| ?_
        refine ha_take 38 rfl (ov_idxPc rfl rfl rfl rfl rfl) rfl rfl rfl (by kernel_rfl) (by kernel_rfl) (by kernel_rfl) (by first | assumption | exact Ent.refl _ | exact Ent.nil _ | (repeat (first | exact Ent.refl _ | exact Ent.nil _ | refine Ent.pick ?_))) <| ?_
        refine ha_take 39 rfl (ov_load rfl (CellIs.blk rfl)) rfl rfl rfl (by kernel_rfl) (by kernel_rfl) (by kernel_rfl) (by first | assumption | exact Ent.refl _ | exact Ent.nil _ | (repeat (first | exact Ent.refl _ | exact Ent.nil _ | refine Ent.pick ?_))) <| ?_
        refine ha_take 40 rfl (by first | exact ov_len rfl | exact ov_lenS rfl) rfl rfl rfl (by kernel_rfl) (by kernel_rfl) (by kernel_rfl) (by first | assumption | exact Ent.refl _ | exact Ent.nil _ | (repeat (first | exact Ent.refl _ | exact Ent.nil _ | refine Ent.pick ?_))) <| ?_
        refine ha_take 41 rfl (ov_add rfl rfl (by first | exact wrap_i64 (by omega) | rfl)) rfl rfl rfl (by kernel_rfl) (by kernel_rfl) (by kernel_rfl) (by first | assumption | exact Ent.refl _ | exact Ent.nil _ | (repeat (first | exact Ent.refl _ | exact Ent.nil _ | refine Ent.pick ?_))) <| ?_
        refine ha_one 28 (by kernel_rfl) <| ?_
        refine ho_c rfl Try.call20 rfl rfl rfl (fun w1 H1 => Own.callp (wir 0 b20 q.1 q.2) H1 fun D' hold hin H2 => Len_spec D' w1 b20 q.1 q.2 (by omega) (by omega) H2) (by first | assumption | exact Ent.refl _ | exact Ent.nil _ | (repeat (first | exact Ent.refl _ | exact Ent.nil _ | refine Ent.pick ?_))) ?_
        refine ha_take 42 rfl (ov_neq rfl rfl) rfl rfl rfl (by kernel_rfl) (by kernel_rfl) (by kernel_rfl) (by first | assumption | exact Ent.refl _ | exact Ent.nil _ | (repeat (first | exact Ent.refl _ | exact Ent.nil _ | refine Ent.pick ?_))) <| ?_
        refine ha_take 43 rfl (ov_pickF rfl rfl) rfl rfl rfl (by kernel_rfl) (by kernel_rfl) (by kernel_rfl) (by first | assumption | exact Ent.refl _ | exact Ent.nil _ | (repeat (first | exact Ent.refl _ | exact Ent.nil _ | refine Ent.pick ?_))) <| ?_
        refine ha_done (by kernel_rfl) <|
          hx_then_normal <| ?_
        refine hc_cond_F rfl (by simp) ?_
        refine hc_skip <|
          hx_block_normal <|
          hx_then_normal <|
          hc_region <|
          hl_val (ov_move rfl) rfl rfl rfl <|
          hl_val (ov_add rfl rfl (by first | exact wrap_i64 (by omega) | rfl)) rfl rfl rfl <| ?_
        refine hl_val (ov_assign rfl) rfl rfl rfl <|
          hl_nil <| ?_
        exact hx_next hK1 ((i + 1, q)) (⟨hlt, hokq⟩) (by dsimp only; omega) (by repeat (first | exact Slots.sub_nil _ | refine Slots.sub_cons rfl ?_)) (Ent.trans (b := [wir 0 b20 q.1 q.2, blk b22 55 [.slice A0 q.1.length cap0, .slice A1 q.2.length cap1], row A0 26 1 q.1.length cap0 cs0, rowsB 5 q.1 cs0, row A1 26 1 q.2.length cap1 cs1, rowsB 5 q.2 cs1]) (by first | assumption | exact Ent.refl _ | exact Ent.nil _ | exact Ent.row_any (Ent.refl _) | (repeat (first | exact Ent.refl _ | exact Ent.nil _ | refine Ent.pick ?_))) (Ent.cons (Ent.exS (L := rwirL 0 b22 q.1 q.2) (l := []) ((A0, cap0, cs0), A1, cap1, cs1))))
    · refine hc_exit <|
        hx_then_exit <|
        hx_then_exit <|
        hx_block_out <|
        hx_then_normal <|
        hc_seq <| ?_
      refine hc_region <| ?_
      refine hl_c Try.call23 rfl rfl (fun w1 H1 => Own.calln H1 fun D' hold hin H2 => wwakes_spec D' w1) ?_
      refine hl_val (ov_assign rfl) rfl rfl rfl <|
        hl_nil <|
        hx_then_normal <|
        hc_ret <| ?_
      exact results_1 (.inr rfl) rfl rfl fun w' H' => ⟨rfl, H'.ent (Ent.nil _)⟩
end Go.Proofs.Ytdjpocnijfhcgaa
