import Derived.Test.YtjlolpmmpafjeaaGreatW11
set_option linter.unusedVariables false
set_option linter.unusedSimpArgs false
namespace Go.Proofs.YtjlolpmmpafjeaaGreat
open Slk
theorem rdV_cells' (s : RS) : vlanV (rdV s).1 = [.int .i64 (getN s 2), .int .u8 (getN (getS s 2) 1), .int .u8 (getN (getS (getS s 2) 1) 1)] := by
  rw [rdV_cells, Nat.mod_eq_of_lt (show getN (getS s 2) 1 < 256 from getN_lt _ 1), Nat.mod_eq_of_lt (show getN (getS (getS s 2) 1) 1 < 256 from getN_lt _ 1)]
theorem snocF {α : Type} (V : α → List Value) (f : RS → α × RS) (i : Nat) (s : RS) : (rdL f i s).1.flatMap V ++ V (f (rdL f i s).2).1 = (rdL f (i + 1) s).1.flatMap V := by
  show _ = ((rdL f i s).1 ++ [(f (rdL f i s).2).1]).flatMap V
  rw [List.flatMap_append, List.flatMap_singleton]
theorem rconfig_spec (D : Nat → Prop) (w : World) (g t : Nat) (s : RS) (H : Own D w w [blk g t [s.v, .bool s.bad]]) (HA : Old D w (Rep.rep s.rem [s.v])) :
    Calls Tryz.prog 75 #[.pointer (some ⟨g, 0, none⟩)] w fun e w' => ∃ q : Three, e = .returned (.agg (cfgA (rdC true s).1 q).toArray) ∧
      Own D w w' [row q.1.1 83 3 (rdC true s).1.2.2.2.1.length q.1.2 ((rdC true s).1.2.2.2.1.flatMap portV), row q.2.1.1 147 3 (rdC true s).1.2.2.2.2.1.length q.2.1.2 ((rdC true s).1.2.2.2.2.1.flatMap vlanV), row q.2.2.1 149 3 (rdC true s).1.2.2.2.2.2.length q.2.2.2 ((rdC true s).1.2.2.2.2.2.flatMap statV), blk g t [(rdC true s).2.v, .bool (rdC true s).2.bad]] := by
  have hrd : rdC true s = (((getN s 2 : Int), (getN (getS s 2) 1 : Int), (getN (getS (getS s 2) 1) 1 : Int), (rdL (rdP true) (getN (getS (getS (getS s 2) 1) 1) 1) (getS (getS (getS (getS s 2) 1) 1) 1)).1, (rdL rdV (getN (rdL (rdP true) (getN (getS (getS (getS s 2) 1) 1) 1) (getS (getS (getS (getS s 2) 1) 1) 1)).2 1) (getS (rdL (rdP true) (getN (getS (getS (getS s 2) 1) 1) 1) (getS (getS (getS (getS s 2) 1) 1) 1)).2 1)).1, (rdL rdS (getN (rdL rdV (getN (rdL (rdP true) (getN (getS (getS (getS s 2) 1) 1) 1) (getS (getS (getS (getS s 2) 1) 1) 1)).2 1) (getS (rdL (rdP true) (getN (getS (getS (getS s 2) 1) 1) 1) (getS (getS (getS (getS s 2) 1) 1) 1)).2 1)).2 1) (getS (rdL rdV (getN (rdL (rdP true) (getN (getS (getS (getS s 2) 1) 1) 1) (getS (getS (getS (getS s 2) 1) 1) 1)).2 1) (getS (rdL (rdP true) (getN (getS (getS (getS s 2) 1) 1) 1) (getS (getS (getS (getS s 2) 1) 1) 1)).2 1)).2 1)).1), (rdL rdS (getN (rdL rdV (getN (rdL (rdP true) (getN (getS (getS (getS s 2) 1) 1) 1) (getS (getS (getS (getS s 2) 1) 1) 1)).2 1) (getS (rdL (rdP true) (getN (getS (getS (getS s 2) 1) 1) 1) (getS (getS (getS (getS s 2) 1) 1) 1)).2 1)).2 1) (getS (rdL rdV (getN (rdL (rdP true) (getN (getS (getS (getS s 2) 1) 1) 1) (getS (getS (getS (getS s 2) 1) 1) 1)).2 1) (getS (rdL (rdP true) (getN (getS (getS (getS s 2) 1) 1) 1) (getS (getS (getS (getS s 2) 1) 1) 1)).2 1)).2 1)).2) := rfl
  rw [hrd]
  clear hrd
  have HA1 := old_get 2 HA
  have HA2 := old_get 1 HA1
  have HA3 := old_get 1 HA2
  have HA4 := old_get 1 HA3
  have hn : getN (getS (getS (getS s 2) 1) 1) 1 < 256 := getN_lt _ 1
  generalize hs1 : getS s 2 = s1 at *
  generalize hs2 : getS s1 1 = s2 at *
  generalize hs3 : getS s2 1 = s3 at *
  generalize hs4 : getS s3 1 = s4 at *
  generalize hc1 : getN s 2 = c1 at *
  generalize hc2 : getN s1 1 = c2 at *
  generalize hc3 : getN s2 1 = c3 at *
  generalize hnn : getN s3 1 = n at *
  have HA5 := old_rdL (old_rdP true) n HA4
  have hPl : (rdL (rdP true) n s4).1.length = n := rdL_len _ _
  generalize hPL : rdL (rdP true) n s4 = PL at *
  have hn5 : getN PL.2 1 < 256 := getN_lt _ 1
  have HA6 := old_get 1 HA5
  generalize hs5 : getS PL.2 1 = s5 at *
  generalize hnv : getN PL.2 1 = nv at *
  have HA7 := old_rdL old_rdV nv HA6
  have hVl : (rdL rdV nv s5).1.length = nv := rdL_len _ _
  generalize hVL : rdL rdV nv s5 = VL at *
  have hn6 : getN VL.2 1 < 256 := getN_lt _ 1
  have HA8 := old_get 1 HA7
  generalize hs6 : getS VL.2 1 = s6 at *
  generalize hns : getN VL.2 1 = ns at *
  have hSl : (rdL rdS ns s6).1.length = ns := rdL_len _ _
  generalize hSL : rdL rdS ns s6 = SL at *
  dsimp only [cfgA]
  rw [hPl, hVl, hSl]
  refine hc_enter (vs := [.pointer (some ⟨g, 0, none⟩)]) Tryz.func75 rfl _ Tryz.ntmps75 rfl H ?_
  simp only [argSlots, Nat.zero_add]
  refine zg <| hl_new (on_alloc) rfl rfl rfl fun b2 =>
    zn <| hc_seq <| ?_
  refine hc_cutK1 (σ := Nat) [0, 2] rfl 3 (fun q => .pointer (some ⟨q, 0, none⟩)) (fun q => [blk q 49 [.int .i64 c1, .int .i64 c2, .int .i64 c3, .slice none 0 0, .slice none 0 0, .slice none 0 0], blk b2 49 [.int .i64 0, .int .i64 0, .int .i64 0, .slice none 0 0, .slice none 0 0, .slice none 0 0], blk g t [s3.v, .bool s3.bad]]) (fun K1 hK1 => ?_) (fun q => ?_)
  · refine hc_any [] mixed 15 rfl ?_
    refine ha_v 0 rfl (ov_move rfl) rfl <| ?_
    refine ha_v 1 rfl (ov_nil rfl) rfl <| ?_
    refine ha_v 2 rfl (ov_fieldA rfl) rfl <| ?_
    refine ha_v 4 rfl (ov_move rfl) rfl <| ?_
    refine ha_v 5 rfl (ov_nil rfl) rfl <| ?_
    refine ha_v 6 rfl (ov_fieldA rfl) rfl <| ?_
    refine ha_v 8 rfl (ov_move rfl) rfl <| ?_
    refine ha_v 9 rfl (ov_nil rfl) rfl <| ?_
    refine ha_v 10 rfl (ov_fieldA rfl) rfl <| ?_
    refine ha_two 3 13 (by kernel_rfl) ?_ ?_
    · skip
      refine ho_k rfl Tryz.call113 rfl (fun w1 H1 => Own.callp (blk g t [s.v, .bool s.bad]) H1 fun D' hold hin H2 => int_spec D' w1 g t 2 s (by decide) H2 (hold _ HA)) ?_
      rw [hs1, hc1]
      refine ha_two 7 13 (by kernel_rfl) ?_ ?_
      · skip
        refine ho_k rfl Tryz.call113 rfl (fun w1 H1 => Own.callp (blk g t [s1.v, .bool s1.bad]) H1 fun D' hold hin H2 => int_spec D' w1 g t 1 s1 (by decide) H2 (hold _ HA1)) ?_
        rw [hs2, hc2]
        refine ha_two 11 13 (by kernel_rfl) ?_ ?_
        · skip
          refine ho_k rfl Tryz.call113 rfl (fun w1 H1 => Own.callp (blk g t [s2.v, .bool s2.bad]) H1 fun D' hold hin H2 => int_spec D' w1 g t 1 s2 (by decide) H2 (hold _ HA2)) ?_
          rw [hs3, hc3]
          refine ha_v 12 rfl (ov_buildSN rfl rfl) rfl <| ?_
          refine ha_one 13 (by kernel_rfl) <| ?_
          refine ho_n rfl (on_alloc) rfl fun b3 =>  ?_
          refine ha_one 14 (by kernel_rfl) <| ho_w0 rfl (on_storeGN rfl rfl rfl rfl rfl rfl) rfl <| ?_
          refine ha_done (by kernel_rfl) <| ?_
          refine hx_cut hK1 (b3) za9 za6
        skip
        refine ho_n rfl (on_alloc) rfl fun b3 =>  ?_
        refine ha_one 11 (by kernel_rfl) <| ?_
        refine ho_k rfl Tryz.call113 rfl (fun w1 H1 => Own.callp (blk g t [s2.v, .bool s2.bad]) H1 fun D' hold hin H2 => int_spec D' w1 g t 1 s2 (by decide) H2 (hold _ HA2)) ?_
        rw [hs3, hc3]
        refine ha_v 12 rfl (ov_buildSN rfl rfl) rfl <| ?_
        refine ha_one 14 (by kernel_rfl) <| ?_
        refine ho_w0 rfl (on_storeGN rfl rfl rfl rfl rfl rfl) rfl <| ?_
        refine ha_done (by kernel_rfl) <| ?_
        refine hx_cut hK1 (b3) za9 za6
      skip
      refine ho_n rfl (on_alloc) rfl fun b3 =>  ?_
      refine ha_one 7 (by kernel_rfl) <| ?_
      refine ho_k rfl Tryz.call113 rfl (fun w1 H1 => Own.callp (blk g t [s1.v, .bool s1.bad]) H1 fun D' hold hin H2 => int_spec D' w1 g t 1 s1 (by decide) H2 (hold _ HA1)) ?_
      rw [hs2, hc2]
      refine ha_one 11 (by kernel_rfl) <| ?_
      refine ho_k rfl Tryz.call113 rfl (fun w1 H1 => Own.callp (blk g t [s2.v, .bool s2.bad]) H1 fun D' hold hin H2 => int_spec D' w1 g t 1 s2 (by decide) H2 (hold _ HA2)) ?_
      rw [hs3, hc3]
      refine ha_v 12 rfl (ov_buildSN rfl rfl) rfl <| ?_
      refine ha_one 14 (by kernel_rfl) <| ?_
      refine ho_w0 rfl (on_storeGN rfl rfl rfl rfl rfl rfl) rfl <| ?_
      refine ha_done (by kernel_rfl) <| ?_
      refine hx_cut hK1 (b3) za9 za6
    skip
    refine ho_n rfl (on_alloc) rfl fun b3 =>  ?_
    refine ha_one 3 (by kernel_rfl) <| ?_
    refine ho_k rfl Tryz.call113 rfl (fun w1 H1 => Own.callp (blk g t [s.v, .bool s.bad]) H1 fun D' hold hin H2 => int_spec D' w1 g t 2 s (by decide) H2 (hold _ HA)) ?_
    rw [hs1, hc1]
    refine ha_one 7 (by kernel_rfl) <| ?_
    refine ho_k rfl Tryz.call113 rfl (fun w1 H1 => Own.callp (blk g t [s1.v, .bool s1.bad]) H1 fun D' hold hin H2 => int_spec D' w1 g t 1 s1 (by decide) H2 (hold _ HA1)) ?_
    rw [hs2, hc2]
    refine ha_one 11 (by kernel_rfl) <| ?_
    refine ho_k rfl Tryz.call113 rfl (fun w1 H1 => Own.callp (blk g t [s2.v, .bool s2.bad]) H1 fun D' hold hin H2 => int_spec D' w1 g t 1 s2 (by decide) H2 (hold _ HA2)) ?_
    rw [hs3, hc3]
    refine ha_v 12 rfl (ov_buildSN rfl rfl) rfl <| ?_
    refine ha_one 14 (by kernel_rfl) <| ?_
    refine ho_w0 rfl (on_storeGN rfl rfl rfl rfl rfl rfl) rfl <| ?_
    refine ha_done (by kernel_rfl) <| ?_
    refine hx_cut hK1 (b3) za9 za6
  refine hx_then_normal <| hc_seq <| zg <| hl_v (ov_move rfl) rfl <| hl_v (ov_nil rfl) rfl <| ?_
  refine hl_v (ov_fieldA rfl) rfl <| ?_
  refine hl_c Tryz.call113 rfl rfl (fun w1 H1 => Own.callp (blk g t [s3.v, .bool s3.bad]) H1 fun D' hold hin H2 => int_spec D' w1 g t 1 s3 (by decide) H2 (hold _ HA3)) ?_
  rw [hs4, hnn]
  refine hl_v (ov_move rfl) rfl <| zn <| hc_block <| ?_
  refine hc_loopK1 (σ := Nat × Option Addr × Nat) [0, 2, 3, 21] rfl 22 (fun u => .int .i64 (u.1 : Int)) (fun u => [row u.2.1 83 3 u.1 u.2.2 ((rdL (rdP true) u.1 s4).1.flatMap portV), blk g t [(rdL (rdP true) u.1 s4).2.v, .bool (rdL (rdP true) u.1 s4).2.bad], blk q 49 [.int .i64 c1, .int .i64 c2, .int .i64 c3, .slice u.2.1 u.1 u.2.2, .slice none 0 0, .slice none 0 0], blk b2 49 [.int .i64 0, .int .i64 0, .int .i64 0, .slice none 0 0, .slice none 0 0, .slice none 0 0]]) (fun u => u.1 ≤ n) (fun u => n - u.1) ((0, none, 0)) (Nat.zero_le _) rfl (Ent.nil_row 83 3) ?_
  rintro ⟨i, A, c⟩ hi K2 hK2
  dsimp only at hi ⊢
  have HAi := old_rdL (old_rdP true) i HA4
  refine zg <| hl_v (ov_lss rfl rfl) rfl <| zn <| hc_seq <| ?_
  refine hc_cond rfl (fun h => ?_) (fun h => ?_)
  · have hlt : i < n := by omega
    have hme : n - (i + 1) < n - i := by omega
    have hce := rdP_cells true (rdL (rdP true) i s4).2
    have hl7 := snocF portV (rdP true) i s4
    have hs7 : (rdL (rdP true) (i + 1) s4).2 = getS (getS (mkB true (getS (rdL (rdP true) i s4).2 1) (getN (rdL (rdP true) i s4).2 1)) 4) 2 := rfl
    generalize (rdL (rdP true) i s4).2 = r0 at *
    have K0 := HAi
    have KA := old_get 1 K0
    have KB := old_mkB true (getN r0 1) KA
    have KC := old_get 4 KB
    have hnb : getN (mkB true (getS r0 1) (getN r0 1)) 4 < 4294967296 := getN_lt _ 4
    refine zk <| hc_seq <| hc_block <| zg <| ?_
    refine hl_v (ov_move rfl) rfl <| hl_v (ov_nil rfl) rfl <| hl_v (ov_fieldA rfl) rfl <| ?_
    refine hl_c Tryz.call113 rfl rfl (fun w1 H1 => Own.callp (blk g t [r0.v, .bool r0.bad]) H1 fun D' hold hin H2 => int_spec D' w1 g t 1 r0 (by decide) H2 (hold _ K0)) ?_
    generalize hsA : getS r0 1 = sA at *
    generalize hnA : getN r0 1 = nA at *
    have hsBv : (mkB true sA nA).v = sA.v := rfl
    have hsBb : (mkB true sA nA).bad = (sA.bad || decide (1 < (nA : Int))) := rfl
    generalize hsB : mkB true sA nA = sB at *
    generalize hsC : getS sB 4 = sC at *
    refine hl_v (ov_assign rfl) rfl <| zn <| zg <| hl_v (ov_move rfl) rfl <| ?_
    refine hl_v (ov_move rfl) rfl <| hl_v (ov_nil rfl) rfl <| hl_v (ov_fieldA rfl) rfl <| hl_v (ov_fieldA rfl) rfl <| hl_v (ov_load rfl (CellIs.blk rfl)) rfl <| hl_v (ov_move rfl) rfl <| ?_
    refine hl_partb (t := 34) rfl (fun hb => ?_) (fun hb => ?_)
    · rw [hb, Bool.true_or] at hsBb
      refine hl_off rfl rfl rfl rfl rfl rfl <| hl_off rfl rfl rfl rfl rfl rfl <| hl_v (ov_pickT rfl rfl) rfl <| hl_v (ov_nil rfl) rfl <| hl_v (ov_fieldA rfl) rfl <| hl_v (ov_fieldA rfl) rfl <| ?_
      refine hl_u0 (on_storeE [sB.v, .bool sB.bad] rfl rfl (by simp) rfl (by rw [hsBv, hsBb]; rfl)) rfl rfl ?_
      refine zn <| ?_
      refine hc_any [] mixed 18 rfl ?_
      refine ha_v 0 rfl (ov_fieldA rfl) rfl <| ?_
      refine ha_v 2 rfl (ov_move rfl) rfl <| ?_
      refine ha_v 3 rfl (ov_eql rfl rfl) rfl <| ?_
      refine ha_v 4 rfl (ov_move rfl) rfl <| ?_
      refine ha_v 5 rfl (ov_nil rfl) rfl <| ?_
      refine ha_v 6 rfl (ov_fieldA rfl) rfl <| ?_
      refine ha_v 9 rfl (ov_move rfl) rfl <| ?_
      refine ha_v 10 rfl (ov_nil rfl) rfl <| ?_
      refine ha_v 11 rfl (ov_fieldA rfl) rfl <| ?_
      refine ha_two 1 7 (by kernel_rfl) ?_ ?_
      · skip
        refine ho_v rfl (ov_load rfl (CellIs.blk rfl)) rfl <| ?_
        refine ha_one 7 (by kernel_rfl) <| ?_
        refine ho_k rfl Tryz.call114 rfl (fun w1 H1 => Own.callp (blk g t [sB.v, .bool sB.bad]) H1 fun D' hold hin H2 => get_spec D' w1 g t 4 sB (by decide) H2 (hold _ KB)) ?_
        rw [hsC]
        refine ha_v 8 rfl (ov_conv rfl za20) rfl <| ?_
        refine ha_one 12 (by kernel_rfl) <| ?_
        refine ho_k rfl Tryz.call113 rfl (fun w1 H1 => Own.callp (blk g t [sC.v, .bool sC.bad]) H1 fun D' hold hin H2 => int_spec D' w1 g t 2 sC (by decide) H2 (hold _ KC)) ?_
        refine ha_v 13 rfl (ov_buildSN rfl rfl) rfl <| ?_
        refine ha_one 14 (by kernel_rfl) <| ?_
        refine ho_n rfl (on_buildSliceN rfl rfl rfl) rfl fun b55 =>  ?_
        refine ha_one 15 (by kernel_rfl) <| ?_
        rw [← hce]
        refine ho_n rfl (on_appendR (A := A) (news := portV (rdP true r0).1) rfl rfl (SrcIs.blk (b := b55)) rfl za33 (by decide) (by omega)) rfl (fun q2 => ?_)
        rw [hl7]
        refine ha_v 16 rfl (ov_fieldA rfl) rfl <| ?_
        refine ha_one 17 (by kernel_rfl) <| ?_
        refine ho_w0 rfl (on_storeE [.int .i64 c1, .int .i64 c2, .int .i64 c3, .slice q2.1 (i + 1) q2.2, .slice none 0 0, .slice none 0 0] rfl rfl (by simp) rfl rfl) rfl ?_
        refine ha_done (by kernel_rfl) <| hx_block_normal <| hx_then_normal <| hc_region <| hl_v (ov_add rfl rfl za18) rfl <| ?_
        refine hl_v (ov_move rfl) rfl <| hl_nil <| ?_
        rw [← hs7]
        refine hx_next hK2 ((i + 1, q2)) (hlt) (hme) za9 za6
      skip
      refine ho_k rfl Tryz.call114 rfl (fun w1 H1 => Own.callp (blk g t [sB.v, .bool sB.bad]) H1 fun D' hold hin H2 => get_spec D' w1 g t 4 sB (by decide) H2 (hold _ KB)) ?_
      rw [hsC]
      refine ha_v 8 rfl (ov_conv rfl za20) rfl <| ?_
      refine ha_two 1 12 (by kernel_rfl) ?_ ?_
      · skip
        refine ho_v rfl (ov_load rfl (CellIs.blk rfl)) rfl <| ?_
        refine ha_one 12 (by kernel_rfl) <| ?_
        refine ho_k rfl Tryz.call113 rfl (fun w1 H1 => Own.callp (blk g t [sC.v, .bool sC.bad]) H1 fun D' hold hin H2 => int_spec D' w1 g t 2 sC (by decide) H2 (hold _ KC)) ?_
        refine ha_v 13 rfl (ov_buildSN rfl rfl) rfl <| ?_
        refine ha_one 14 (by kernel_rfl) <| ?_
        refine ho_n rfl (on_buildSliceN rfl rfl rfl) rfl fun b55 =>  ?_
        refine ha_one 15 (by kernel_rfl) <| ?_
        rw [← hce]
        refine ho_n rfl (on_appendR (A := A) (news := portV (rdP true r0).1) rfl rfl (SrcIs.blk (b := b55)) rfl za33 (by decide) (by omega)) rfl (fun q2 => ?_)
        rw [hl7]
        refine ha_v 16 rfl (ov_fieldA rfl) rfl <| ?_
        refine ha_one 17 (by kernel_rfl) <| ?_
        refine ho_w0 rfl (on_storeE [.int .i64 c1, .int .i64 c2, .int .i64 c3, .slice q2.1 (i + 1) q2.2, .slice none 0 0, .slice none 0 0] rfl rfl (by simp) rfl rfl) rfl ?_
        refine ha_done (by kernel_rfl) <| hx_block_normal <| hx_then_normal <| hc_region <| hl_v (ov_add rfl rfl za18) rfl <| ?_
        refine hl_v (ov_move rfl) rfl <| hl_nil <| ?_
        rw [← hs7]
        refine hx_next hK2 ((i + 1, q2)) (hlt) (hme) za9 za6
      skip
      refine ho_k rfl Tryz.call113 rfl (fun w1 H1 => Own.callp (blk g t [sC.v, .bool sC.bad]) H1 fun D' hold hin H2 => int_spec D' w1 g t 2 sC (by decide) H2 (hold _ KC)) ?_
      refine ha_v 13 rfl (ov_buildSN rfl rfl) rfl <| ?_
      refine ha_two 1 14 (by kernel_rfl) ?_ ?_
      · skip
        refine ho_v rfl (ov_load rfl (CellIs.blk rfl)) rfl <| ?_
        refine ha_one 14 (by kernel_rfl) <| ho_n rfl (on_buildSliceN rfl rfl rfl) rfl fun b55 =>  ?_
        refine ha_one 15 (by kernel_rfl) <| ?_
        rw [← hce]
        refine ho_n rfl (on_appendR (A := A) (news := portV (rdP true r0).1) rfl rfl (SrcIs.blk (b := b55)) rfl za33 (by decide) (by omega)) rfl (fun q2 => ?_)
        rw [hl7]
        refine ha_v 16 rfl (ov_fieldA rfl) rfl <| ?_
        refine ha_one 17 (by kernel_rfl) <| ?_
        refine ho_w0 rfl (on_storeE [.int .i64 c1, .int .i64 c2, .int .i64 c3, .slice q2.1 (i + 1) q2.2, .slice none 0 0, .slice none 0 0] rfl rfl (by simp) rfl rfl) rfl ?_
        refine ha_done (by kernel_rfl) <| hx_block_normal <| hx_then_normal <| hc_region <| hl_v (ov_add rfl rfl za18) rfl <| ?_
        refine hl_v (ov_move rfl) rfl <| hl_nil <| ?_
        rw [← hs7]
        refine hx_next hK2 ((i + 1, q2)) (hlt) (hme) za9 za6
      skip
      refine ho_n rfl (on_buildSliceN rfl rfl rfl) rfl fun b55 =>  ?_
      refine ha_one 1 (by kernel_rfl) <| ho_v rfl (ov_load rfl (CellIs.blk rfl)) rfl <| ?_
      refine ha_one 15 (by kernel_rfl) <| ?_
      rw [← hce]
      refine ho_n rfl (on_appendR (A := A) (news := portV (rdP true r0).1) rfl rfl (SrcIs.blk (b := b55)) rfl za33 (by decide) (by omega)) rfl (fun q2 => ?_)
      rw [hl7]
      refine ha_v 16 rfl (ov_fieldA rfl) rfl <| ?_
      refine ha_one 17 (by kernel_rfl) <| ?_
      refine ho_w0 rfl (on_storeE [.int .i64 c1, .int .i64 c2, .int .i64 c3, .slice q2.1 (i + 1) q2.2, .slice none 0 0, .slice none 0 0] rfl rfl (by simp) rfl rfl) rfl ?_
      refine ha_done (by kernel_rfl) <| hx_block_normal <| hx_then_normal <| hc_region <| hl_v (ov_add rfl rfl za18) rfl <| ?_
      refine hl_v (ov_move rfl) rfl <| hl_nil <| ?_
      rw [← hs7]
      refine hx_next hK2 ((i + 1, q2)) (hlt) (hme) za9 za6
    rw [hb, Bool.false_or] at hsBb
    refine hl_on rfl rfl <| hl_v (ov_move rfl) rfl <| hl_on rfl rfl <| hl_v (ov_gtr rfl rfl) rfl <| hl_v (ov_pickF rfl rfl) rfl <| hl_v (ov_nil rfl) rfl <| hl_v (ov_fieldA rfl) rfl <| hl_v (ov_fieldA rfl) rfl <| ?_
    refine hl_u0 (on_storeE [sB.v, .bool sB.bad] rfl rfl (by simp) rfl (by rw [hsBv, hsBb]; rfl)) rfl rfl ?_
    refine zn <| ?_
    refine hc_any [] mixed 18 rfl ?_
    refine ha_v 0 rfl (ov_fieldA rfl) rfl <| ?_
    refine ha_v 2 rfl (ov_move rfl) rfl <| ?_
    refine ha_v 3 rfl (ov_eql rfl rfl) rfl <| ?_
    refine ha_v 4 rfl (ov_move rfl) rfl <| ?_
    refine ha_v 5 rfl (ov_nil rfl) rfl <| ?_
    refine ha_v 6 rfl (ov_fieldA rfl) rfl <| ?_
    refine ha_v 9 rfl (ov_move rfl) rfl <| ?_
    refine ha_v 10 rfl (ov_nil rfl) rfl <| ?_
    refine ha_v 11 rfl (ov_fieldA rfl) rfl <| ?_
    refine ha_two 1 7 (by kernel_rfl) ?_ ?_
    · skip
      refine ho_v rfl (ov_load rfl (CellIs.blk rfl)) rfl <| ?_
      refine ha_one 7 (by kernel_rfl) <| ?_
      refine ho_k rfl Tryz.call114 rfl (fun w1 H1 => Own.callp (blk g t [sB.v, .bool sB.bad]) H1 fun D' hold hin H2 => get_spec D' w1 g t 4 sB (by decide) H2 (hold _ KB)) ?_
      rw [hsC]
      refine ha_v 8 rfl (ov_conv rfl za20) rfl <| ?_
      refine ha_one 12 (by kernel_rfl) <| ?_
      refine ho_k rfl Tryz.call113 rfl (fun w1 H1 => Own.callp (blk g t [sC.v, .bool sC.bad]) H1 fun D' hold hin H2 => int_spec D' w1 g t 2 sC (by decide) H2 (hold _ KC)) ?_
      refine ha_v 13 rfl (ov_buildSN rfl rfl) rfl <| ?_
      refine ha_one 14 (by kernel_rfl) <| ?_
      refine ho_n rfl (on_buildSliceN rfl rfl rfl) rfl fun b55 =>  ?_
      refine ha_one 15 (by kernel_rfl) <| ?_
      rw [← hce]
      refine ho_n rfl (on_appendR (A := A) (news := portV (rdP true r0).1) rfl rfl (SrcIs.blk (b := b55)) rfl za33 (by decide) (by omega)) rfl (fun q2 => ?_)
      rw [hl7]
      refine ha_v 16 rfl (ov_fieldA rfl) rfl <| ?_
      refine ha_one 17 (by kernel_rfl) <| ?_
      refine ho_w0 rfl (on_storeE [.int .i64 c1, .int .i64 c2, .int .i64 c3, .slice q2.1 (i + 1) q2.2, .slice none 0 0, .slice none 0 0] rfl rfl (by simp) rfl rfl) rfl ?_
      refine ha_done (by kernel_rfl) <| hx_block_normal <| hx_then_normal <| hc_region <| hl_v (ov_add rfl rfl za18) rfl <| ?_
      refine hl_v (ov_move rfl) rfl <| hl_nil <| ?_
      rw [← hs7]
      refine hx_next hK2 ((i + 1, q2)) (hlt) (hme) za9 za6
    skip
    refine ho_k rfl Tryz.call114 rfl (fun w1 H1 => Own.callp (blk g t [sB.v, .bool sB.bad]) H1 fun D' hold hin H2 => get_spec D' w1 g t 4 sB (by decide) H2 (hold _ KB)) ?_
    rw [hsC]
    refine ha_v 8 rfl (ov_conv rfl za20) rfl <| ?_
    refine ha_two 1 12 (by kernel_rfl) ?_ ?_
    · skip
      refine ho_v rfl (ov_load rfl (CellIs.blk rfl)) rfl <| ?_
      refine ha_one 12 (by kernel_rfl) <| ?_
      refine ho_k rfl Tryz.call113 rfl (fun w1 H1 => Own.callp (blk g t [sC.v, .bool sC.bad]) H1 fun D' hold hin H2 => int_spec D' w1 g t 2 sC (by decide) H2 (hold _ KC)) ?_
      refine ha_v 13 rfl (ov_buildSN rfl rfl) rfl <| ?_
      refine ha_one 14 (by kernel_rfl) <| ?_
      refine ho_n rfl (on_buildSliceN rfl rfl rfl) rfl fun b55 =>  ?_
      refine ha_one 15 (by kernel_rfl) <| ?_
      rw [← hce]
      refine ho_n rfl (on_appendR (A := A) (news := portV (rdP true r0).1) rfl rfl (SrcIs.blk (b := b55)) rfl za33 (by decide) (by omega)) rfl (fun q2 => ?_)
      rw [hl7]
      refine ha_v 16 rfl (ov_fieldA rfl) rfl <| ?_
      refine ha_one 17 (by kernel_rfl) <| ?_
      refine ho_w0 rfl (on_storeE [.int .i64 c1, .int .i64 c2, .int .i64 c3, .slice q2.1 (i + 1) q2.2, .slice none 0 0, .slice none 0 0] rfl rfl (by simp) rfl rfl) rfl ?_
      refine ha_done (by kernel_rfl) <| hx_block_normal <| hx_then_normal <| hc_region <| hl_v (ov_add rfl rfl za18) rfl <| ?_
      refine hl_v (ov_move rfl) rfl <| hl_nil <| ?_
      rw [← hs7]
      refine hx_next hK2 ((i + 1, q2)) (hlt) (hme) za9 za6
    skip
    refine ho_k rfl Tryz.call113 rfl (fun w1 H1 => Own.callp (blk g t [sC.v, .bool sC.bad]) H1 fun D' hold hin H2 => int_spec D' w1 g t 2 sC (by decide) H2 (hold _ KC)) ?_
    refine ha_v 13 rfl (ov_buildSN rfl rfl) rfl <| ?_
    refine ha_two 1 14 (by kernel_rfl) ?_ ?_
    · skip
      refine ho_v rfl (ov_load rfl (CellIs.blk rfl)) rfl <| ?_
      refine ha_one 14 (by kernel_rfl) <| ho_n rfl (on_buildSliceN rfl rfl rfl) rfl fun b55 =>  ?_
      refine ha_one 15 (by kernel_rfl) <| ?_
      rw [← hce]
      refine ho_n rfl (on_appendR (A := A) (news := portV (rdP true r0).1) rfl rfl (SrcIs.blk (b := b55)) rfl za33 (by decide) (by omega)) rfl (fun q2 => ?_)
      rw [hl7]
      refine ha_v 16 rfl (ov_fieldA rfl) rfl <| ?_
      refine ha_one 17 (by kernel_rfl) <| ?_
      refine ho_w0 rfl (on_storeE [.int .i64 c1, .int .i64 c2, .int .i64 c3, .slice q2.1 (i + 1) q2.2, .slice none 0 0, .slice none 0 0] rfl rfl (by simp) rfl rfl) rfl ?_
      refine ha_done (by kernel_rfl) <| hx_block_normal <| hx_then_normal <| hc_region <| hl_v (ov_add rfl rfl za18) rfl <| ?_
      refine hl_v (ov_move rfl) rfl <| hl_nil <| ?_
      rw [← hs7]
      refine hx_next hK2 ((i + 1, q2)) (hlt) (hme) za9 za6
    skip
    refine ho_n rfl (on_buildSliceN rfl rfl rfl) rfl fun b55 =>  ?_
    refine ha_one 1 (by kernel_rfl) <| ho_v rfl (ov_load rfl (CellIs.blk rfl)) rfl <| ?_
    refine ha_one 15 (by kernel_rfl) <| ?_
    rw [← hce]
    refine ho_n rfl (on_appendR (A := A) (news := portV (rdP true r0).1) rfl rfl (SrcIs.blk (b := b55)) rfl za33 (by decide) (by omega)) rfl (fun q2 => ?_)
    rw [hl7]
    refine ha_v 16 rfl (ov_fieldA rfl) rfl <| ?_
    refine ha_one 17 (by kernel_rfl) <| ?_
    refine ho_w0 rfl (on_storeE [.int .i64 c1, .int .i64 c2, .int .i64 c3, .slice q2.1 (i + 1) q2.2, .slice none 0 0, .slice none 0 0] rfl rfl (by simp) rfl rfl) rfl ?_
    refine ha_done (by kernel_rfl) <| hx_block_normal <| hx_then_normal <| hc_region <| hl_v (ov_add rfl rfl za18) rfl <| ?_
    refine hl_v (ov_move rfl) rfl <| hl_nil <| ?_
    rw [← hs7]
    refine hx_next hK2 ((i + 1, q2)) (hlt) (hme) za9 za6
  have hin : i = n := by omega
  subst hin
  rw [hPL]
  refine hc_exit <| hx_then_exit <| hx_then_exit <| hx_block_out <| hx_then_normal <| hc_seq <| ?_
  refine zg <| hl_v (ov_move rfl) rfl <| hl_v (ov_nil rfl) rfl <| hl_v (ov_fieldA rfl) rfl <| ?_
  refine hl_c Tryz.call113 rfl rfl (fun w1 H1 => Own.callp (blk g t [PL.2.v, .bool PL.2.bad]) H1 fun D' hold hin H2 => int_spec D' w1 g t 1 PL.2 (by decide) H2 (hold _ HA5)) ?_
  rw [hs5, hnv]
  refine hl_v (ov_move rfl) rfl <| zn <| hc_block <| ?_
  refine hc_loopK1 (σ := Nat × Option Addr × Nat) [0, 2, 3, 62] rfl 63 (fun u => .int .i64 (u.1 : Int)) (fun u => [row u.2.1 147 3 u.1 u.2.2 ((rdL rdV u.1 s5).1.flatMap vlanV), blk g t [(rdL rdV u.1 s5).2.v, .bool (rdL rdV u.1 s5).2.bad], row A 83 3 i c (PL.1.flatMap portV), blk q 49 [.int .i64 c1, .int .i64 c2, .int .i64 c3, .slice A i c, .slice u.2.1 u.1 u.2.2, .slice none 0 0], blk b2 49 [.int .i64 0, .int .i64 0, .int .i64 0, .slice none 0 0, .slice none 0 0, .slice none 0 0]]) (fun u => u.1 ≤ nv) (fun u => nv - u.1) ((0, none, 0)) (Nat.zero_le _) rfl (Ent.nil_row 147 3) ?_
  rintro ⟨j, B, d⟩ hj K3 hK3
  dsimp only at hj ⊢
  have HAj := old_rdL old_rdV j HA6
  refine zg <| hl_v (ov_lss rfl rfl) rfl <| zn <| hc_seq <| ?_
  refine hc_cond rfl (fun h2 => ?_) (fun h2 => ?_)
  · have hlt : j < nv := by omega
    have hme : nv - (j + 1) < nv - j := by omega
    have hce := rdV_cells' (rdL rdV j s5).2
    have hl7 := snocF vlanV rdV j s5
    have hs7 : (rdL rdV (j + 1) s5).2 = getS (getS (getS (rdL rdV j s5).2 2) 1) 1 := rfl
    generalize (rdL rdV j s5).2 = r0 at *
    have K0 := HAj
    have KA := old_get 2 K0
    have KB := old_get 1 KA
    have hb1 : getN (getS r0 2) 1 < 256 := getN_lt _ 1
    have hb2 : getN (getS (getS r0 2) 1) 1 < 256 := getN_lt _ 1
    generalize hsA : getS r0 2 = sA at *
    generalize hsB : getS sA 1 = sB at *
    refine zk <| hc_seq <| hc_block <| ?_
    refine hc_any [] mixed 21 rfl ?_
    refine ha_v 0 rfl (ov_fieldA rfl) rfl <| ?_
    refine ha_v 2 rfl (ov_move rfl) rfl <| ?_
    refine ha_v 3 rfl (ov_nil rfl) rfl <| ?_
    refine ha_v 4 rfl (ov_fieldA rfl) rfl <| ?_
    refine ha_v 6 rfl (ov_move rfl) rfl <| ?_
    refine ha_v 7 rfl (ov_nil rfl) rfl <| ?_
    refine ha_v 8 rfl (ov_fieldA rfl) rfl <| ?_
    refine ha_v 11 rfl (ov_move rfl) rfl <| ?_
    refine ha_v 12 rfl (ov_nil rfl) rfl <| ?_
    refine ha_v 13 rfl (ov_fieldA rfl) rfl <| ?_
    refine ha_two 1 5 (by kernel_rfl) ?_ ?_
    · skip
      refine ho_v rfl (ov_load rfl (CellIs.blk rfl)) rfl <| ?_
      refine ha_one 5 (by kernel_rfl) <| ?_
      refine ho_k rfl Tryz.call113 rfl (fun w1 H1 => Own.callp (blk g t [r0.v, .bool r0.bad]) H1 fun D' hold hin H2 => int_spec D' w1 g t 2 r0 (by decide) H2 (hold _ K0)) ?_
      rw [hsA]
      refine ha_one 9 (by kernel_rfl) <| ?_
      refine ho_k rfl Tryz.call114 rfl (fun w1 H1 => Own.callp (blk g t [sA.v, .bool sA.bad]) H1 fun D' hold hin H2 => get_spec D' w1 g t 1 sA (by decide) H2 (hold _ KA)) ?_
      rw [hsB]
      refine ha_v 10 rfl (ov_conv rfl za21) rfl <| ?_
      refine ha_one 14 (by kernel_rfl) <| ?_
      refine ho_k rfl Tryz.call114 rfl (fun w1 H1 => Own.callp (blk g t [sB.v, .bool sB.bad]) H1 fun D' hold hin H2 => get_spec D' w1 g t 1 sB (by decide) H2 (hold _ KB)) ?_
      refine ha_v 15 rfl (ov_conv rfl za21) rfl <| ?_
      refine ha_v 16 rfl (ov_buildSN rfl rfl) rfl <| ?_
      refine ha_one 17 (by kernel_rfl) <| ?_
      refine ho_n rfl (on_buildSliceN rfl rfl rfl) rfl fun b82 =>  ?_
      refine ha_one 18 (by kernel_rfl) <| ?_
      rw [← hce]
      refine ho_n rfl (on_appendR (A := B) (news := vlanV (rdV r0).1) rfl rfl (SrcIs.blk (b := b82)) rfl za31 (by decide) (by omega)) rfl (fun q2 => ?_)
      rw [hl7]
      refine ha_v 19 rfl (ov_fieldA rfl) rfl <| ?_
      refine ha_one 20 (by kernel_rfl) <| ?_
      refine ho_w0 rfl (on_storeE [.int .i64 c1, .int .i64 c2, .int .i64 c3, .slice A i c, .slice q2.1 (j + 1) q2.2, .slice none 0 0] rfl rfl (by simp) rfl rfl) rfl ?_
      refine ha_done (by kernel_rfl) <| hx_block_normal <| hx_then_normal <| hc_region <| hl_v (ov_add rfl rfl za18) rfl <| ?_
      refine hl_v (ov_move rfl) rfl <| hl_nil <| ?_
      rw [← hs7]
      refine hx_next hK3 ((j + 1, q2)) (hlt) (hme) za9 za6
    skip
    refine ho_k rfl Tryz.call113 rfl (fun w1 H1 => Own.callp (blk g t [r0.v, .bool r0.bad]) H1 fun D' hold hin H2 => int_spec D' w1 g t 2 r0 (by decide) H2 (hold _ K0)) ?_
    rw [hsA]
    refine ha_two 1 9 (by kernel_rfl) ?_ ?_
    · skip
      refine ho_v rfl (ov_load rfl (CellIs.blk rfl)) rfl <| ?_
      refine ha_one 9 (by kernel_rfl) <| ?_
      refine ho_k rfl Tryz.call114 rfl (fun w1 H1 => Own.callp (blk g t [sA.v, .bool sA.bad]) H1 fun D' hold hin H2 => get_spec D' w1 g t 1 sA (by decide) H2 (hold _ KA)) ?_
      rw [hsB]
      refine ha_v 10 rfl (ov_conv rfl za21) rfl <| ?_
      refine ha_one 14 (by kernel_rfl) <| ?_
      refine ho_k rfl Tryz.call114 rfl (fun w1 H1 => Own.callp (blk g t [sB.v, .bool sB.bad]) H1 fun D' hold hin H2 => get_spec D' w1 g t 1 sB (by decide) H2 (hold _ KB)) ?_
      refine ha_v 15 rfl (ov_conv rfl za21) rfl <| ?_
      refine ha_v 16 rfl (ov_buildSN rfl rfl) rfl <| ?_
      refine ha_one 17 (by kernel_rfl) <| ?_
      refine ho_n rfl (on_buildSliceN rfl rfl rfl) rfl fun b82 =>  ?_
      refine ha_one 18 (by kernel_rfl) <| ?_
      rw [← hce]
      refine ho_n rfl (on_appendR (A := B) (news := vlanV (rdV r0).1) rfl rfl (SrcIs.blk (b := b82)) rfl za31 (by decide) (by omega)) rfl (fun q2 => ?_)
      rw [hl7]
      refine ha_v 19 rfl (ov_fieldA rfl) rfl <| ?_
      refine ha_one 20 (by kernel_rfl) <| ?_
      refine ho_w0 rfl (on_storeE [.int .i64 c1, .int .i64 c2, .int .i64 c3, .slice A i c, .slice q2.1 (j + 1) q2.2, .slice none 0 0] rfl rfl (by simp) rfl rfl) rfl ?_
      refine ha_done (by kernel_rfl) <| hx_block_normal <| hx_then_normal <| hc_region <| hl_v (ov_add rfl rfl za18) rfl <| ?_
      refine hl_v (ov_move rfl) rfl <| hl_nil <| ?_
      rw [← hs7]
      refine hx_next hK3 ((j + 1, q2)) (hlt) (hme) za9 za6
    skip
    refine ho_k rfl Tryz.call114 rfl (fun w1 H1 => Own.callp (blk g t [sA.v, .bool sA.bad]) H1 fun D' hold hin H2 => get_spec D' w1 g t 1 sA (by decide) H2 (hold _ KA)) ?_
    rw [hsB]
    refine ha_v 10 rfl (ov_conv rfl za21) rfl <| ?_
    refine ha_two 1 14 (by kernel_rfl) ?_ ?_
    · skip
      refine ho_v rfl (ov_load rfl (CellIs.blk rfl)) rfl <| ?_
      refine ha_one 14 (by kernel_rfl) <| ?_
      refine ho_k rfl Tryz.call114 rfl (fun w1 H1 => Own.callp (blk g t [sB.v, .bool sB.bad]) H1 fun D' hold hin H2 => get_spec D' w1 g t 1 sB (by decide) H2 (hold _ KB)) ?_
      refine ha_v 15 rfl (ov_conv rfl za21) rfl <| ?_
      refine ha_v 16 rfl (ov_buildSN rfl rfl) rfl <| ?_
      refine ha_one 17 (by kernel_rfl) <| ?_
      refine ho_n rfl (on_buildSliceN rfl rfl rfl) rfl fun b82 =>  ?_
      refine ha_one 18 (by kernel_rfl) <| ?_
      rw [← hce]
      refine ho_n rfl (on_appendR (A := B) (news := vlanV (rdV r0).1) rfl rfl (SrcIs.blk (b := b82)) rfl za31 (by decide) (by omega)) rfl (fun q2 => ?_)
      rw [hl7]
      refine ha_v 19 rfl (ov_fieldA rfl) rfl <| ?_
      refine ha_one 20 (by kernel_rfl) <| ?_
      refine ho_w0 rfl (on_storeE [.int .i64 c1, .int .i64 c2, .int .i64 c3, .slice A i c, .slice q2.1 (j + 1) q2.2, .slice none 0 0] rfl rfl (by simp) rfl rfl) rfl ?_
      refine ha_done (by kernel_rfl) <| hx_block_normal <| hx_then_normal <| hc_region <| hl_v (ov_add rfl rfl za18) rfl <| ?_
      refine hl_v (ov_move rfl) rfl <| hl_nil <| ?_
      rw [← hs7]
      refine hx_next hK3 ((j + 1, q2)) (hlt) (hme) za9 za6
    skip
    refine ho_k rfl Tryz.call114 rfl (fun w1 H1 => Own.callp (blk g t [sB.v, .bool sB.bad]) H1 fun D' hold hin H2 => get_spec D' w1 g t 1 sB (by decide) H2 (hold _ KB)) ?_
    refine ha_v 15 rfl (ov_conv rfl za21) rfl <| ?_
    refine ha_v 16 rfl (ov_buildSN rfl rfl) rfl <| ?_
    refine ha_two 1 17 (by kernel_rfl) ?_ ?_
    · skip
      refine ho_v rfl (ov_load rfl (CellIs.blk rfl)) rfl <| ?_
      refine ha_one 17 (by kernel_rfl) <| ho_n rfl (on_buildSliceN rfl rfl rfl) rfl fun b82 =>  ?_
      refine ha_one 18 (by kernel_rfl) <| ?_
      rw [← hce]
      refine ho_n rfl (on_appendR (A := B) (news := vlanV (rdV r0).1) rfl rfl (SrcIs.blk (b := b82)) rfl za31 (by decide) (by omega)) rfl (fun q2 => ?_)
      rw [hl7]
      refine ha_v 19 rfl (ov_fieldA rfl) rfl <| ?_
      refine ha_one 20 (by kernel_rfl) <| ?_
      refine ho_w0 rfl (on_storeE [.int .i64 c1, .int .i64 c2, .int .i64 c3, .slice A i c, .slice q2.1 (j + 1) q2.2, .slice none 0 0] rfl rfl (by simp) rfl rfl) rfl ?_
      refine ha_done (by kernel_rfl) <| hx_block_normal <| hx_then_normal <| hc_region <| hl_v (ov_add rfl rfl za18) rfl <| ?_
      refine hl_v (ov_move rfl) rfl <| hl_nil <| ?_
      rw [← hs7]
      refine hx_next hK3 ((j + 1, q2)) (hlt) (hme) za9 za6
    skip
    refine ho_n rfl (on_buildSliceN rfl rfl rfl) rfl fun b82 =>  ?_
    refine ha_one 1 (by kernel_rfl) <| ho_v rfl (ov_load rfl (CellIs.blk rfl)) rfl <| ?_
    refine ha_one 18 (by kernel_rfl) <| ?_
    rw [← hce]
    refine ho_n rfl (on_appendR (A := B) (news := vlanV (rdV r0).1) rfl rfl (SrcIs.blk (b := b82)) rfl za31 (by decide) (by omega)) rfl (fun q2 => ?_)
    rw [hl7]
    refine ha_v 19 rfl (ov_fieldA rfl) rfl <| ?_
    refine ha_one 20 (by kernel_rfl) <| ?_
    refine ho_w0 rfl (on_storeE [.int .i64 c1, .int .i64 c2, .int .i64 c3, .slice A i c, .slice q2.1 (j + 1) q2.2, .slice none 0 0] rfl rfl (by simp) rfl rfl) rfl ?_
    refine ha_done (by kernel_rfl) <| hx_block_normal <| hx_then_normal <| hc_region <| hl_v (ov_add rfl rfl za18) rfl <| ?_
    refine hl_v (ov_move rfl) rfl <| hl_nil <| ?_
    rw [← hs7]
    refine hx_next hK3 ((j + 1, q2)) (hlt) (hme) za9 za6
  have hjn : j = nv := by omega
  subst hjn
  rw [hVL]
  refine hc_exit <| hx_then_exit <| hx_then_exit <| hx_block_out <| hx_then_normal <| hc_seq <| ?_
  refine zg <| hl_v (ov_move rfl) rfl <| hl_v (ov_nil rfl) rfl <| hl_v (ov_fieldA rfl) rfl <| ?_
  refine hl_c Tryz.call113 rfl rfl (fun w1 H1 => Own.callp (blk g t [VL.2.v, .bool VL.2.bad]) H1 fun D' hold hin H2 => int_spec D' w1 g t 1 VL.2 (by decide) H2 (hold _ HA7)) ?_
  rw [hs6, hns]
  refine hl_v (ov_move rfl) rfl <| zn <| hc_block <| ?_
  refine hc_loopK1 (σ := Nat × Option Addr × Nat) [0, 2, 3, 89] rfl 90 (fun u => .int .i64 (u.1 : Int)) (fun u => [row u.2.1 149 3 u.1 u.2.2 ((rdL rdS u.1 s6).1.flatMap statV), blk g t [(rdL rdS u.1 s6).2.v, .bool (rdL rdS u.1 s6).2.bad], row B 147 3 j d (VL.1.flatMap vlanV), row A 83 3 i c (PL.1.flatMap portV), blk q 49 [.int .i64 c1, .int .i64 c2, .int .i64 c3, .slice A i c, .slice B j d, .slice u.2.1 u.1 u.2.2], blk b2 49 [.int .i64 0, .int .i64 0, .int .i64 0, .slice none 0 0, .slice none 0 0, .slice none 0 0]]) (fun u => u.1 ≤ ns) (fun u => ns - u.1) ((0, none, 0)) (Nat.zero_le _) rfl (Ent.nil_row 149 3) ?_
  rintro ⟨k, C, e⟩ hk K4 hK4
  dsimp only at hk ⊢
  have HAk := old_rdL old_rdS k HA8
  refine zg <| hl_v (ov_lss rfl rfl) rfl <| zn <| hc_seq <| ?_
  refine hc_cond rfl (fun h3 => ?_) (fun h3 => ?_)
  · have hlt : k < ns := by omega
    have hme : ns - (k + 1) < ns - k := by omega
    have hce := rdS_cells (rdL rdS k s6).2
    have hl7 := snocF statV rdS k s6
    have hs7 : (rdL rdS (k + 1) s6).2 = getS (getS (getS (rdL rdS k s6).2 6) 2) 1 := rfl
    generalize (rdL rdS k s6).2 = r0 at *
    have K0 := HAk
    have KA := old_get 6 K0
    have KB := old_get 2 KA
    generalize hsA : getS r0 6 = sA at *
    generalize hsB : getS sA 2 = sB at *
    refine zk <| hc_seq <| hc_block <| ?_
    refine hc_any [] mixed 19 rfl ?_
    refine ha_v 0 rfl (ov_fieldA rfl) rfl <| ?_
    refine ha_v 2 rfl (ov_move rfl) rfl <| ?_
    refine ha_v 3 rfl (ov_nil rfl) rfl <| ?_
    refine ha_v 4 rfl (ov_fieldA rfl) rfl <| ?_
    refine ha_v 6 rfl (ov_move rfl) rfl <| ?_
    refine ha_v 7 rfl (ov_nil rfl) rfl <| ?_
    refine ha_v 8 rfl (ov_fieldA rfl) rfl <| ?_
    refine ha_v 10 rfl (ov_move rfl) rfl <| ?_
    refine ha_v 11 rfl (ov_nil rfl) rfl <| ?_
    refine ha_v 12 rfl (ov_fieldA rfl) rfl <| ?_
    refine ha_two 1 5 (by kernel_rfl) ?_ ?_
    · skip
      refine ho_v rfl (ov_load rfl (CellIs.blk rfl)) rfl <| ?_
      refine ha_one 5 (by kernel_rfl) <| ?_
      refine ho_k rfl Tryz.call114 rfl (fun w1 H1 => Own.callp (blk g t [r0.v, .bool r0.bad]) H1 fun D' hold hin H2 => get_spec D' w1 g t 6 r0 (by decide) H2 (hold _ K0)) ?_
      rw [hsA]
      refine ha_one 9 (by kernel_rfl) <| ?_
      refine ho_k rfl Tryz.call113 rfl (fun w1 H1 => Own.callp (blk g t [sA.v, .bool sA.bad]) H1 fun D' hold hin H2 => int_spec D' w1 g t 2 sA (by decide) H2 (hold _ KA)) ?_
      rw [hsB]
      refine ha_one 13 (by kernel_rfl) <| ?_
      refine ho_k rfl Tryz.call113 rfl (fun w1 H1 => Own.callp (blk g t [sB.v, .bool sB.bad]) H1 fun D' hold hin H2 => int_spec D' w1 g t 1 sB (by decide) H2 (hold _ KB)) ?_
      refine ha_v 14 rfl (ov_buildSN rfl rfl) rfl <| ?_
      refine ha_one 15 (by kernel_rfl) <| ?_
      refine ho_n rfl (on_buildSliceN rfl rfl rfl) rfl fun b107 =>  ?_
      refine ha_one 16 (by kernel_rfl) <| ?_
      rw [← hce]
      refine ho_n rfl (on_appendR (A := C) (news := statV (rdS r0).1) rfl rfl (SrcIs.blk (b := b107)) rfl za33 (by decide) (by omega)) rfl (fun q2 => ?_)
      rw [hl7]
      refine ha_v 17 rfl (ov_fieldA rfl) rfl <| ?_
      refine ha_one 18 (by kernel_rfl) <| ?_
      refine ho_w0 rfl (on_storeE [.int .i64 c1, .int .i64 c2, .int .i64 c3, .slice A i c, .slice B j d, .slice q2.1 (k + 1) q2.2] rfl rfl (by simp) rfl rfl) rfl ?_
      refine ha_done (by kernel_rfl) <| hx_block_normal <| hx_then_normal <| hc_region <| hl_v (ov_add rfl rfl za18) rfl <| ?_
      refine hl_v (ov_move rfl) rfl <| hl_nil <| ?_
      rw [← hs7]
      refine hx_next hK4 ((k + 1, q2)) (hlt) (hme) za9 za6
    skip
    refine ho_k rfl Tryz.call114 rfl (fun w1 H1 => Own.callp (blk g t [r0.v, .bool r0.bad]) H1 fun D' hold hin H2 => get_spec D' w1 g t 6 r0 (by decide) H2 (hold _ K0)) ?_
    rw [hsA]
    refine ha_two 1 9 (by kernel_rfl) ?_ ?_
    · skip
      refine ho_v rfl (ov_load rfl (CellIs.blk rfl)) rfl <| ?_
      refine ha_one 9 (by kernel_rfl) <| ?_
      refine ho_k rfl Tryz.call113 rfl (fun w1 H1 => Own.callp (blk g t [sA.v, .bool sA.bad]) H1 fun D' hold hin H2 => int_spec D' w1 g t 2 sA (by decide) H2 (hold _ KA)) ?_
      rw [hsB]
      refine ha_one 13 (by kernel_rfl) <| ?_
      refine ho_k rfl Tryz.call113 rfl (fun w1 H1 => Own.callp (blk g t [sB.v, .bool sB.bad]) H1 fun D' hold hin H2 => int_spec D' w1 g t 1 sB (by decide) H2 (hold _ KB)) ?_
      refine ha_v 14 rfl (ov_buildSN rfl rfl) rfl <| ?_
      refine ha_one 15 (by kernel_rfl) <| ?_
      refine ho_n rfl (on_buildSliceN rfl rfl rfl) rfl fun b107 =>  ?_
      refine ha_one 16 (by kernel_rfl) <| ?_
      rw [← hce]
      refine ho_n rfl (on_appendR (A := C) (news := statV (rdS r0).1) rfl rfl (SrcIs.blk (b := b107)) rfl za33 (by decide) (by omega)) rfl (fun q2 => ?_)
      rw [hl7]
      refine ha_v 17 rfl (ov_fieldA rfl) rfl <| ?_
      refine ha_one 18 (by kernel_rfl) <| ?_
      refine ho_w0 rfl (on_storeE [.int .i64 c1, .int .i64 c2, .int .i64 c3, .slice A i c, .slice B j d, .slice q2.1 (k + 1) q2.2] rfl rfl (by simp) rfl rfl) rfl ?_
      refine ha_done (by kernel_rfl) <| hx_block_normal <| hx_then_normal <| hc_region <| hl_v (ov_add rfl rfl za18) rfl <| ?_
      refine hl_v (ov_move rfl) rfl <| hl_nil <| ?_
      rw [← hs7]
      refine hx_next hK4 ((k + 1, q2)) (hlt) (hme) za9 za6
    skip
    refine ho_k rfl Tryz.call113 rfl (fun w1 H1 => Own.callp (blk g t [sA.v, .bool sA.bad]) H1 fun D' hold hin H2 => int_spec D' w1 g t 2 sA (by decide) H2 (hold _ KA)) ?_
    rw [hsB]
    refine ha_two 1 13 (by kernel_rfl) ?_ ?_
    · skip
      refine ho_v rfl (ov_load rfl (CellIs.blk rfl)) rfl <| ?_
      refine ha_one 13 (by kernel_rfl) <| ?_
      refine ho_k rfl Tryz.call113 rfl (fun w1 H1 => Own.callp (blk g t [sB.v, .bool sB.bad]) H1 fun D' hold hin H2 => int_spec D' w1 g t 1 sB (by decide) H2 (hold _ KB)) ?_
      refine ha_v 14 rfl (ov_buildSN rfl rfl) rfl <| ?_
      refine ha_one 15 (by kernel_rfl) <| ?_
      refine ho_n rfl (on_buildSliceN rfl rfl rfl) rfl fun b107 =>  ?_
      refine ha_one 16 (by kernel_rfl) <| ?_
      rw [← hce]
      refine ho_n rfl (on_appendR (A := C) (news := statV (rdS r0).1) rfl rfl (SrcIs.blk (b := b107)) rfl za33 (by decide) (by omega)) rfl (fun q2 => ?_)
      rw [hl7]
      refine ha_v 17 rfl (ov_fieldA rfl) rfl <| ?_
      refine ha_one 18 (by kernel_rfl) <| ?_
      refine ho_w0 rfl (on_storeE [.int .i64 c1, .int .i64 c2, .int .i64 c3, .slice A i c, .slice B j d, .slice q2.1 (k + 1) q2.2] rfl rfl (by simp) rfl rfl) rfl ?_
      refine ha_done (by kernel_rfl) <| hx_block_normal <| hx_then_normal <| hc_region <| hl_v (ov_add rfl rfl za18) rfl <| ?_
      refine hl_v (ov_move rfl) rfl <| hl_nil <| ?_
      rw [← hs7]
      refine hx_next hK4 ((k + 1, q2)) (hlt) (hme) za9 za6
    skip
    refine ho_k rfl Tryz.call113 rfl (fun w1 H1 => Own.callp (blk g t [sB.v, .bool sB.bad]) H1 fun D' hold hin H2 => int_spec D' w1 g t 1 sB (by decide) H2 (hold _ KB)) ?_
    refine ha_v 14 rfl (ov_buildSN rfl rfl) rfl <| ?_
    refine ha_two 1 15 (by kernel_rfl) ?_ ?_
    · skip
      refine ho_v rfl (ov_load rfl (CellIs.blk rfl)) rfl <| ?_
      refine ha_one 15 (by kernel_rfl) <| ho_n rfl (on_buildSliceN rfl rfl rfl) rfl fun b107 =>  ?_
      refine ha_one 16 (by kernel_rfl) <| ?_
      rw [← hce]
      refine ho_n rfl (on_appendR (A := C) (news := statV (rdS r0).1) rfl rfl (SrcIs.blk (b := b107)) rfl za33 (by decide) (by omega)) rfl (fun q2 => ?_)
      rw [hl7]
      refine ha_v 17 rfl (ov_fieldA rfl) rfl <| ?_
      refine ha_one 18 (by kernel_rfl) <| ?_
      refine ho_w0 rfl (on_storeE [.int .i64 c1, .int .i64 c2, .int .i64 c3, .slice A i c, .slice B j d, .slice q2.1 (k + 1) q2.2] rfl rfl (by simp) rfl rfl) rfl ?_
      refine ha_done (by kernel_rfl) <| hx_block_normal <| hx_then_normal <| hc_region <| hl_v (ov_add rfl rfl za18) rfl <| ?_
      refine hl_v (ov_move rfl) rfl <| hl_nil <| ?_
      rw [← hs7]
      refine hx_next hK4 ((k + 1, q2)) (hlt) (hme) za9 za6
    skip
    refine ho_n rfl (on_buildSliceN rfl rfl rfl) rfl fun b107 =>  ?_
    refine ha_one 1 (by kernel_rfl) <| ho_v rfl (ov_load rfl (CellIs.blk rfl)) rfl <| ?_
    refine ha_one 16 (by kernel_rfl) <| ?_
    rw [← hce]
    refine ho_n rfl (on_appendR (A := C) (news := statV (rdS r0).1) rfl rfl (SrcIs.blk (b := b107)) rfl za33 (by decide) (by omega)) rfl (fun q2 => ?_)
    rw [hl7]
    refine ha_v 17 rfl (ov_fieldA rfl) rfl <| ?_
    refine ha_one 18 (by kernel_rfl) <| ?_
    refine ho_w0 rfl (on_storeE [.int .i64 c1, .int .i64 c2, .int .i64 c3, .slice A i c, .slice B j d, .slice q2.1 (k + 1) q2.2] rfl rfl (by simp) rfl rfl) rfl ?_
    refine ha_done (by kernel_rfl) <| hx_block_normal <| hx_then_normal <| hc_region <| hl_v (ov_add rfl rfl za18) rfl <| ?_
    refine hl_v (ov_move rfl) rfl <| hl_nil <| ?_
    rw [← hs7]
    refine hx_next hK4 ((k + 1, q2)) (hlt) (hme) za9 za6
  have hkn : k = ns := by omega
  subst hkn
  rw [hSL]
  refine hc_exit <| hx_then_exit <| hx_then_exit <| hx_block_out <| hx_then_normal <| hc_seq <| ?_
  refine hc_region <| hl_v za10 rfl <| ?_
  refine hl_u0 (on_storeGN rfl rfl rfl rfl rfl rfl) rfl rfl <| zn <| hc_ret <| ?_
  exact results_c (.inr rfl) rfl rfl (by simp) fun w' H' => ⟨((A, c), (B, d), (C, e)), rfl, H'.ent za4⟩
end Go.Proofs.YtjlolpmmpafjeaaGreat
