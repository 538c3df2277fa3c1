/- A part of a proof: contracts and plain facts that it stands on. -/
import Derived.Test.YtpakphgeichopaaDoorCE
import Derived.Test.YtpakphgeichopaaDoorRows
import Derived.Test.YtpakphgeichopaaDoorCards
import Derived.Test.YtpakphgeichopaaDoorTie
import Derived.SevenTiedAt
import Derived.Lib.SmallJoins
set_option linter.unusedVariables false
set_option linter.unusedSimpArgs false
namespace Go.Proofs.YtpakphgeichopaaDoor
open Go.RowKit Go.SX Go.Proofs
open Go.SX renaming ia_someH → Φa, andThen_normal → Φc, forall_mem_cons' → Φd
open Nat renaming reduceEqDiff → Φb
-- LISTS2
-- LISTS3
-- LISTS4
set_option maxHeartbeats 1000000 in
set_option maxRecDepth 100000 in
theorem lists_spec {Γ : Ctx} (hP : Γ.P = Tryd.prog) {L : Hp} {gs : List Gf} {rws : List Rw} {vl : Value} {sl : Slot} (hl : RowG vl gs sl) (hok : GsOk gs) (hrw : rws = rowsG gs) (hro : RwsOk rws) (hb1 : rws.length ≤ 1099511627776) (hb2 : ∀ w ∈ rws, w.l.length ≤ 1099511627776) (hb3 : gs.length ≤ 1099511627776) :
    SCall Γ 16 #[vl] (sl :: (rws.map Rw.s ++ (gs.map Gf.s ++ L))) (fun v L' => v = .bool true ∧ L' = L) := by
  obtain ⟨LA, lc, la, rfl, hlc, hle, hlat⟩ := RowL.anyL gfV_len hl
  refine SCall.enter (n := 200) (res1 2) (hP ▸ Tryd.func16) rfl rfl (by simp) (res1_ok rfl) ?_
  refine SX.seq_k fun K1 hK1 => ?_
  refine SX.region_d [some 2] rfl (fun ops hops => ?_)
  unfold Dsts at hops
  simp (maxSteps:=1000000)(dsimp:=false)(disch:=omega) only [go_sem, Φa, hP, hops]
  refine hK1 _ _ ?_
  try clear hK1 K1
  refine SX.seq_k fun K2 hK2 => ?_
  refine SX.region_d [some 3] rfl (fun ops hops => ?_)
  unfold Dsts at hops
  simp (maxSteps:=1000000)(dsimp:=false)(disch:=omega) only [go_sem, Φa, hP, hops]
  refine hK2 _ _ ?_
  try clear hK2 K2
  refine SX.seq_k fun K3 hK3 => ?_
  refine SX.seq_k fun K4 hK4 => ?_
  refine SX.less lessI ?_
  refine SX.region_d [some 4] rfl (fun ops hops => ?_)
  unfold Dsts at hops
  simp (maxSteps:=1000000)(dsimp:=false)(disch:=omega) only [go_sem, Φa, hP, hops]
  refine hK4 _ _ ?_
  try clear hK4 K4
  refine SX.block ?_
  refine SX.live [0, 3, 4] (fun T1 hT1 => ?_)
  simp only [Φd, forall_mem_nil', go_sem, Φa, hP] at hT1
  obtain ⟨h1_0, h1_3, h1_4⟩ := hT1
  refine SX.loop_k (fun (ss : (Nat) × (Value) × (Slot)) T L' => (fun (i : Nat) (vr : Value) (sr : Slot) => T 3 = vr ∧ T 4 = .int .i64 (i : Int) ∧ T 0 = T1 0 ∧ L' = sl :: sr :: (rws.map Rw.s ++ (gs.map Gf.s ++ L)) ∧ (i ≤ gs.length ∧ RowR vr (rowsG (gs.take i)) sr)) (ss.1) (ss.2.1) (ss.2.2)) (fun (ss : (Nat) × (Value) × (Slot)) => (fun (i : Nat) (vr : Value) (sr : Slot) => gs.length - i) (ss.1) (ss.2.1) (ss.2.2)) (0, .slice none 0 0, none) ?_ ?_
  · try dsimp only
    refine ⟨?_, ?_, ?_, ?_, ?_⟩
    · first | exact h1_3 | (rw [h1_3]; rfl) | (rw [h1_3]; simp; done)
    · first | exact h1_4 | (rw [h1_4]; rfl) | (rw [h1_4]; simp; done)
    · rfl
    · rfl
    · exact ⟨Nat.zero_le _, RowL.nil _ _ _⟩
  · intro ss T2 L2 hI K5 hK5
    obtain ⟨i, vr, sr⟩ := ss
    try dsimp only at hI hK5
    simp only [h1_0] at hI hK5
    obtain ⟨h2_3, h2_4, h2_0, hL2, ⟨hi, hrow⟩⟩ := hI
    replace hL2 := hL2.symm
    subst hL2
    clear h1_0 h1_3 h1_4 T1
    refine SX.seq_k fun K6 hK6 => ?_
    refine SX.seq_k fun K7 hK7 => ?_
    refine SX.region_d [some 21, some 22, some 23, some 24] rfl (fun ops hops => ?_)
    unfold Dsts at hops
    simp (maxSteps:=1000000)(dsimp:=false)(disch:=omega) only [go_sem, Φa, hP, h2_3, h2_4, h2_0, hops]
    repeat' ((first | refine And.intro (by omega) ?_ | fail); try (with_reducible refine stI ?_); try simp (maxSteps:=1000000)(dsimp:=false)(disch:=omega) only [go_sem, Φa, hP, h2_3, h2_4, h2_0, hops])
    refine hK7 _ _ ?_
    try clear hK7 K7
    refine SX.cond_k fun X8 Y8 hX8 hY8 => ?_
    simp (maxSteps:=1000000)(dsimp:=false)(disch:=omega) only [go_sem, Φa, hP, h2_3, h2_4, h2_0, condVC]
    refine ⟨fun hc24 => hX8 ?_, fun hc24 => hY8 ?_⟩
    · clear hX8 hY8 X8 Y8
      refine SX.skip ?_
      try simp only [Φc, andThen_ret, andThen_exit, inBlk_normal, inBlk_ret, inBlk_exit, Φb, if_true, if_false, ↓reduceIte]
      refine hK6 _ _ ?_
      try clear hK6 K6
      refine SX.seq_k fun K9 hK9 => ?_
      refine SX.block ?_
      have hil : i < gs.length := by omega
      have hgi := hok i hil
      have hra := rowsG_at_le hil
      rw [← hrw] at hra
      have hmem : (gs.getD i default).s ∈ sl :: sr :: (rws.map Rw.s ++ (gs.map Gf.s ++ L)) := List.mem_cons_of_mem _ (List.mem_cons_of_mem _ (List.mem_append_right _ (List.mem_append_left _ (List.mem_map_of_mem (getD_mem hil)))))
      obtain ⟨q, hq⟩ := List.mem_iff_getElem?.1 hmem
      refine SX.region_d [some 27, some 28, some 29, some 30, some 31, some 32, some 33, some 3] rfl (fun ops hops => ?_)
      unfold Dsts at hops
      simp (maxSteps:=1000000)(dsimp:=false)(disch:=omega) only [go_sem, Φa, hP, h2_3, h2_4, h2_0, hops, ia_at hle]
      refine ⟨_, hlat _ _ 0 rfl i hil 1 _ (by decide) rfl, ?_⟩
      try with_reducible refine stI ?_
      try simp (maxSteps:=1000000)(dsimp:=false)(disch:=omega) only [go_sem, Φa, hP, h2_3, h2_4, h2_0, hops, ia_at hle]
      refine YAppend.row (z := [.slice none 0 0]) (m := (gs.getD i default).rs.length) (ys := (gs.getD i default).rs.flatMap rwV) (i := 1) (hP ▸ T.elS_39) (hP ▸ T.zr_50) rfl rfl hrow (SrcV.row (i := q) (by rw [hP, T.elS_39]; rfl) hgi hq (oneB_rws (rwsOk_at (hrw ▸ hro) hil))) (flat_len rwV_len _) (by omega) (by decide) ?_
      intro v' s' hr'
      try with_reducible refine stI ?_
      try simp (maxSteps:=1000000)(dsimp:=false)(disch:=omega) only [go_sem, Φa, hP, h2_3, h2_4, h2_0, hops, ia_at hle]
      refine hK9 _ _ ?_
      try clear hK9 K9
      refine SX.live [0, 3, 4] (fun T3 hT3 => ?_)
      simp only [Φd, forall_mem_nil', go_sem, Φa, hP, h2_3, h2_4, h2_0] at hT3
      obtain ⟨h3_0, h3_3, h3_4⟩ := hT3
      clear h2_3 h2_4 h2_0 T2
      refine SX.region_d [some 25, some 26, some 4] rfl (fun ops hops => ?_)
      unfold Dsts at hops
      simp (maxSteps:=1000000)(dsimp:=false)(disch:=omega) only [go_sem, Φa, hP, h3_0, h3_3, h3_4, hops]
      repeat' ((first | refine And.intro (by omega) ?_ | fail); try (with_reducible refine stI ?_); try simp (maxSteps:=1000000)(dsimp:=false)(disch:=omega) only [go_sem, Φa, hP, h3_0, h3_3, h3_4, hops])
      refine hK5 (i + 1, v', s') _ (sl :: s' :: (rws.map Rw.s ++ (gs.map Gf.s ++ L))) _ (by exact Less.refl _) ?_ ?_
      · try dsimp only
        refine ⟨?_, ?_, ?_, ?_, ?_⟩
        · simp (maxSteps:=1000000)(dsimp:=false)(disch:=omega) only [go_sem, Φa, hP, h3_0, h3_3, h3_4]
          first | done | rfl | skip
        · simp (maxSteps:=1000000)(dsimp:=false)(disch:=omega) only [go_sem, Φa, hP, h3_0, h3_3, h3_4]
          first | done | rfl | skip
        · simp (maxSteps:=1000000)(dsimp:=false)(disch:=omega) only [go_sem, Φa, hP, h3_0, h3_3, h3_4]
        · rfl
        · refine ⟨by omega, ?_⟩
          show Row 50 1 v' (rowsG (gs.take (i + 1))).length ((rowsG (gs.take (i + 1))).flatMap rwV) s'
          rw [rowsG_take hil, List.length_append, List.flatMap_append]
          exact hr'
      · (try dsimp only); omega
    · clear hX8 hY8 X8 Y8
      refine SX.exit ?_
      try simp only [Φc, andThen_ret, andThen_exit, inBlk_normal, inBlk_ret, inBlk_exit, Φb, if_true, if_false, ↓reduceIte]
      refine hK3 _ _ ?_
      try clear hK3 K3
      refine SX.seq_k fun K10 hK10 => ?_
      refine SX.seq_k fun K11 hK11 => ?_
      obtain rfl : i = gs.length := by omega
      rw [List.take_length, ← hrw] at hrow
      obtain ⟨RA, rc, ra, rfl, hrc, hre, hrat⟩ := RowR.anyR hrow
      refine SX.region_d [some 5] rfl (fun ops hops => ?_)
      unfold Dsts at hops
      simp (maxSteps:=1000000)(dsimp:=false)(disch:=omega) only [go_sem, Φa, hP, h2_3, h2_4, h2_0, hops]
      refine hK11 _ _ ?_
      try clear hK11 K11
      refine SX.block ?_
      refine SX.live [0, 3, 5] (fun T4 hT4 => ?_)
      simp only [Φd, forall_mem_nil', go_sem, Φa, hP, h2_3, h2_4, h2_0] at hT4
      obtain ⟨h4_0, h4_3, h4_5⟩ := hT4
      clear h2_3 h2_4 h2_0 T2
      refine SX.loop_k (fun (ss : (Nat) × (List Rw)) T L' => (fun (i : Nat) (Ws : List Rw) => T 5 = .int .i64 (i : Int) ∧ T 0 = T4 0 ∧ T 3 = T4 3 ∧ L' = sl :: sr :: (Ws.map Rw.s ++ (gs.map Gf.s ++ L)) ∧ (i ≤ rws.length ∧ S2 rws Ws i)) (ss.1) (ss.2)) (fun (ss : (Nat) × (List Rw)) => (fun (i : Nat) (Ws : List Rw) => rws.length - i) (ss.1) (ss.2)) (0, rws) ?_ ?_
      · try dsimp only
        refine ⟨?_, ?_, ?_, ?_, ?_⟩
        · first | exact h4_5 | (rw [h4_5]; rfl) | (rw [h4_5]; simp; done)
        · rfl
        · rfl
        · rfl
        · exact ⟨Nat.zero_le _, S2.start hro⟩
      · intro ss T5 L5 hI K12 hK12
        obtain ⟨i, Ws⟩ := ss
        try dsimp only at hI hK12
        simp only [h4_0, h4_3] at hI hK12
        obtain ⟨h5_5, h5_0, h5_3, hL5, ⟨hi, hS⟩⟩ := hI
        replace hL5 := hL5.symm
        subst hL5
        clear h4_0 h4_3 h4_5 T4
        refine SX.seq_k fun K13 hK13 => ?_
        refine SX.seq_k fun K14 hK14 => ?_
        refine SX.region_d [some 34, some 35, some 36, some 37] rfl (fun ops hops => ?_)
        unfold Dsts at hops
        simp (maxSteps:=1000000)(dsimp:=false)(disch:=omega) only [go_sem, Φa, hP, h5_5, h5_0, h5_3, hops]
        repeat' ((first | refine And.intro (by omega) ?_ | fail); try (with_reducible refine stI ?_); try simp (maxSteps:=1000000)(dsimp:=false)(disch:=omega) only [go_sem, Φa, hP, h5_5, h5_0, h5_3, hops])
        refine hK14 _ _ ?_
        try clear hK14 K14
        refine SX.cond_k fun X15 Y15 hX15 hY15 => ?_
        simp (maxSteps:=1000000)(dsimp:=false)(disch:=omega) only [go_sem, Φa, hP, h5_5, h5_0, h5_3, condVC]
        refine ⟨fun hc37 => hX15 ?_, fun hc37 => hY15 ?_⟩
        · clear hX15 hY15 X15 Y15
          refine SX.skip ?_
          try simp only [Φc, andThen_ret, andThen_exit, inBlk_normal, inBlk_ret, inBlk_exit, Φb, if_true, if_false, ↓reduceIte]
          refine hK13 _ _ ?_
          try clear hK13 K13
          refine SX.seq_k fun K16 hK16 => ?_
          refine SX.block ?_
          refine SX.seq_k fun K17 hK17 => ?_
          have hil : i < rws.length := by omega
          obtain ⟨BA, bc, ba, hbv, hbc, hbe, _⟩ := RowI.any (hro _ (getD_mem hil))
          refine SX.region_d [some 6] rfl (fun ops hops => ?_)
          unfold Dsts at hops
          simp (maxSteps:=1000000)(dsimp:=false)(disch:=omega) only [go_sem, Φa, hP, h5_5, h5_0, h5_3, hops]
          refine hK17 _ _ ?_
          try clear hK17 K17
          refine SX.block ?_
          refine SX.live [0, 3, 5, 6] (fun T6 hT6 => ?_)
          simp only [Φd, forall_mem_nil', go_sem, Φa, hP, h5_5, h5_0, h5_3] at hT6
          obtain ⟨h6_0, h6_3, h6_5, h6_6⟩ := hT6
          clear h5_5 h5_0 h5_3 T5
          refine SX.loop_k (fun (ss : (Nat) × (List Rw)) T L' => (fun (k : Nat) (Wk : List Rw) => T 6 = .int .i64 (k : Int) ∧ T 0 = T6 0 ∧ T 3 = T6 3 ∧ T 5 = T6 5 ∧ L' = sl :: sr :: (Wk.map Rw.s ++ (gs.map Gf.s ++ L)) ∧ (k ≤ (rws.getD i default).l.length ∧ S2 rws Wk i ∧ ∀ q, q < k → (Wk.getD i default).l.getD q 0 = mrk i)) (ss.1) (ss.2)) (fun (ss : (Nat) × (List Rw)) => (fun (k : Nat) (Wk : List Rw) => (rws.getD i default).l.length - k) (ss.1) (ss.2)) (0, Ws) ?_ ?_
          · try dsimp only
            refine ⟨?_, ?_, ?_, ?_, ?_, ?_⟩
            · first | exact h6_6 | (rw [h6_6]; rfl) | (rw [h6_6]; simp; done)
            · rfl
            · rfl
            · rfl
            · rfl
            · exact ⟨Nat.zero_le _, hS, fun q hq => absurd hq (Nat.not_lt_zero _)⟩
          · intro ss T7 L7 hI K18 hK18
            obtain ⟨k, Wk⟩ := ss
            try dsimp only at hI hK18
            simp only [h6_0, h6_3, h6_5] at hI hK18
            obtain ⟨h7_6, h7_0, h7_3, h7_5, hL7, ⟨hk, hSk, hpart⟩⟩ := hI
            replace hL7 := hL7.symm
            subst hL7
            clear h6_0 h6_3 h6_5 h6_6 T6
            refine SX.seq_k fun K19 hK19 => ?_
            refine SX.seq_k fun K20 hK20 => ?_
            refine SX.region_d [some 40, some 41, some 42, some 43, some 44, some 45, some 46] rfl (fun ops hops => ?_)
            unfold Dsts at hops
            simp (maxSteps:=1000000)(dsimp:=false)(disch:=omega) only [go_sem, Φa, hP, h7_6, h7_0, h7_3, h7_5, hops, ia_at hre, hbv]
            refine ⟨_, hrat _ _ 1 rfl i hil, ?_⟩
            try with_reducible refine stI ?_
            try simp (maxSteps:=1000000)(dsimp:=false)(disch:=omega) only [go_sem, Φa, hP, h7_6, h7_0, h7_3, h7_5, hops, ia_at hre, hbv]
            refine hK20 _ _ ?_
            try clear hK20 K20
            refine SX.cond_k fun X21 Y21 hX21 hY21 => ?_
            simp (maxSteps:=1000000)(dsimp:=false)(disch:=omega) only [go_sem, Φa, hP, h7_6, h7_0, h7_3, h7_5, condVC]
            refine ⟨fun hc46 => hX21 ?_, fun hc46 => hY21 ?_⟩
            · clear hX21 hY21 X21 Y21
              refine SX.skip ?_
              try simp only [Φc, andThen_ret, andThen_exit, inBlk_normal, inBlk_ret, inBlk_exit, Φb, if_true, if_false, ↓reduceIte]
              refine hK19 _ _ ?_
              try clear hK19 K19
              refine SX.seq_k fun K22 hK22 => ?_
              refine SX.block ?_
              have hln := hSk.ln i hil
              have hlw : i < Wk.length := by rw [hSk.n]; exact hil
              obtain ⟨r, cap, junk, hv1, hs1, hcap, hjl⟩ := RowI.form2 (hSk.ok i hil) (by omega)
              have hv2 := (hSk.v i hil).symm.trans hv1
              have hgt : (sl :: sr :: (Wk.map Rw.s ++ (gs.map Gf.s ++ L)))[i + 2]? = some (some (r, .cells (SX.ints .u8 (Wk.getD i default).l ++ junk).toArray 5 (0, 0))) := (mapS_at (f := Rw.s) hlw).trans (congrArg some hs1)
              refine SX.region_d [some 49, some 50, some 51, some 52, some 53, some 54, some 55, some 56, some 57, none] rfl (fun ops hops => ?_)
              unfold Dsts at hops
              simp (maxSteps:=1000000)(dsimp:=false)(disch:=omega) only [go_sem, Φa, hP, h7_6, h7_0, h7_3, h7_5, hops, ia_at hre, hv2, mrk_tmod, mrk_wrap]
              refine ⟨_, hrat _ _ 1 rfl i hil, ?_⟩
              try with_reducible refine stI ?_
              try simp (maxSteps:=1000000)(dsimp:=false)(disch:=omega) only [go_sem, Φa, hP, h7_6, h7_0, h7_3, h7_5, hops, ia_at hre, hv2, mrk_tmod, mrk_wrap]
              refine ⟨i + 2, _, _, _, hgt, (by rw [List.length_append, SX.ints_length]; omega), .inr (by omega), ?_⟩
              try with_reducible refine stI ?_
              try simp (maxSteps:=1000000)(dsimp:=false)(disch:=omega) only [go_sem, Φa, hP, h7_6, h7_0, h7_3, h7_5, hops, ia_at hre, hv2, mrk_tmod, mrk_wrap]
              rw [ints_app_set (by omega), show ((Wk.map Rw.s ++ (gs.map Gf.s ++ L)).set i (some (r, .cells (SX.ints .u8 ((Wk.getD i default).l.set k (mrk i)) ++ junk).toArray 5 (0, 0)))) = (Wk.set i (wSet (Wk.getD i default) k (mrk i) r junk)).map Rw.s ++ (gs.map Gf.s ++ L) from mapS_set (f := Rw.s) (y := (wSet (Wk.getD i default) k (mrk i) r junk)) hlw]
              refine hK22 _ _ ?_
              try clear hK22 K22
              refine SX.live [0, 3, 5, 6] (fun T8 hT8 => ?_)
              simp only [Φd, forall_mem_nil', go_sem, Φa, hP, h7_6, h7_0, h7_3, h7_5] at hT8
              obtain ⟨h8_0, h8_3, h8_5, h8_6⟩ := hT8
              clear h7_6 h7_0 h7_3 h7_5 T7
              refine SX.region_d [some 47, some 48, some 6] rfl (fun ops hops => ?_)
              unfold Dsts at hops
              simp (maxSteps:=1000000)(dsimp:=false)(disch:=omega) only [go_sem, Φa, hP, h8_0, h8_3, h8_5, h8_6, hops]
              repeat' ((first | refine And.intro (by omega) ?_ | fail); try (with_reducible refine stI ?_); try simp (maxSteps:=1000000)(dsimp:=false)(disch:=omega) only [go_sem, Φa, hP, h8_0, h8_3, h8_5, h8_6, hops])
              refine hK18 (k + 1, Wk.set i (wSet (Wk.getD i default) k (mrk i) r junk)) _ (sl :: sr :: ((Wk.set i (wSet (Wk.getD i default) k (mrk i) r junk)).map Rw.s ++ (gs.map Gf.s ++ L))) _ (by exact Less.refl _) ?_ ?_
              · try dsimp only
                refine ⟨?_, ?_, ?_, ?_, ?_, ?_⟩
                · simp (maxSteps:=1000000)(dsimp:=false)(disch:=omega) only [go_sem, Φa, hP, h8_0, h8_3, h8_5, h8_6]
                  first | done | rfl | skip
                · simp (maxSteps:=1000000)(dsimp:=false)(disch:=omega) only [go_sem, Φa, hP, h8_0, h8_3, h8_5, h8_6]
                · simp (maxSteps:=1000000)(dsimp:=false)(disch:=omega) only [go_sem, Φa, hP, h8_0, h8_3, h8_5, h8_6]
                · simp (maxSteps:=1000000)(dsimp:=false)(disch:=omega) only [go_sem, Φa, hP, h8_0, h8_3, h8_5, h8_6]
                · rfl
                · refine ⟨by omega, hSk.put hil (w := (wSet (Wk.getD i default) k (mrk i) r junk)) (hSk.v i hil) (by show (List.set _ _ _).length = _; rw [List.length_set]; exact hln) (wSet_ok hv1 hcap hjl), fun q hq => ?_⟩
                  rw [getD_set hlw, if_pos rfl]
                  show (List.set _ _ _).getD q 0 = _
                  rw [set_getD]
                  split
                  · rfl
                  · rename_i hne
                    exact hpart q (by rcases Nat.lt_succ_iff_lt_or_eq.1 hq with h | h; exact h; exact absurd ⟨h.symm, by omega⟩ hne)
              · (try dsimp only); omega
            · clear hX21 hY21 X21 Y21
              refine SX.exit ?_
              try simp only [Φc, andThen_ret, andThen_exit, inBlk_normal, inBlk_ret, inBlk_exit, Φb, if_true, if_false, ↓reduceIte]
              refine hK16 _ _ ?_
              try clear hK16 K16
              refine SX.region_d [some 38, some 39, some 5] rfl (fun ops hops => ?_)
              unfold Dsts at hops
              simp (maxSteps:=1000000)(dsimp:=false)(disch:=omega) only [go_sem, Φa, hP, h7_6, h7_0, h7_3, h7_5, hops]
              repeat' ((first | refine And.intro (by omega) ?_ | fail); try (with_reducible refine stI ?_); try simp (maxSteps:=1000000)(dsimp:=false)(disch:=omega) only [go_sem, Φa, hP, h7_6, h7_0, h7_3, h7_5, hops])
              refine hK12 (i + 1, Wk) _ (sl :: sr :: (Wk.map Rw.s ++ (gs.map Gf.s ++ L))) _ (by exact Less.refl _) ?_ ?_
              · try dsimp only
                refine ⟨?_, ?_, ?_, ?_, ?_⟩
                · simp (maxSteps:=1000000)(dsimp:=false)(disch:=omega) only [go_sem, Φa, hP, h7_6, h7_0, h7_3, h7_5]
                  first | done | rfl | skip
                · simp (maxSteps:=1000000)(dsimp:=false)(disch:=omega) only [go_sem, Φa, hP, h7_6, h7_0, h7_3, h7_5]
                · simp (maxSteps:=1000000)(dsimp:=false)(disch:=omega) only [go_sem, Φa, hP, h7_6, h7_0, h7_3, h7_5]
                · rfl
                · exact ⟨by omega, hSk.next hil fun q hq => hpart q (by omega)⟩
              · (try dsimp only); omega
        · clear hX15 hY15 X15 Y15
          refine SX.exit ?_
          try simp only [Φc, andThen_ret, andThen_exit, inBlk_normal, inBlk_ret, inBlk_exit, Φb, if_true, if_false, ↓reduceIte]
          refine hK10 _ _ ?_
          try clear hK10 K10
          refine SX.seq_k fun K23 hK23 => ?_
          obtain rfl : i = rws.length := by omega
          have hS3 := S3.start hS
          refine SX.region_d [some 7] rfl (fun ops hops => ?_)
          unfold Dsts at hops
          simp (maxSteps:=1000000)(dsimp:=false)(disch:=omega) only [go_sem, Φa, hP, h5_5, h5_0, h5_3, hops]
          refine hK23 _ _ ?_
          try clear hK23 K23
          refine SX.seq_k fun K24 hK24 => ?_
          refine SX.seq_k fun K25 hK25 => ?_
          refine SX.less lessG3 ?_
          refine SX.region_d [some 8] rfl (fun ops hops => ?_)
          unfold Dsts at hops
          simp (maxSteps:=1000000)(dsimp:=false)(disch:=omega) only [go_sem, Φa, hP, h5_5, h5_0, h5_3, hops]
          refine hK25 _ _ ?_
          try clear hK25 K25
          refine SX.block ?_
          refine SX.live [0, 3, 7, 8] (fun T9 hT9 => ?_)
          simp only [Φd, forall_mem_nil', go_sem, Φa, hP, h5_5, h5_0, h5_3] at hT9
          obtain ⟨h9_0, h9_3, h9_7, h9_8⟩ := hT9
          clear h5_5 h5_0 h5_3 T5
          refine SX.loop_k (fun (ss : (Nat) × (List Rw) × (Value) × (Slot)) T L' => (fun (i : Nat) (Ws : List Rw) (vg : Value) (sg : Slot) => T 7 = vg ∧ T 8 = .int .i64 (i : Int) ∧ T 0 = T9 0 ∧ T 3 = T9 3 ∧ L' = sl :: sr :: sg :: (Ws.map Rw.s ++ (gs.map Gf.s ++ L)) ∧ (i ≤ rws.length ∧ S3 rws Ws i ∧ RowR vg (Ws.take i) sg)) (ss.1) (ss.2.1) (ss.2.2.1) (ss.2.2.2)) (fun (ss : (Nat) × (List Rw) × (Value) × (Slot)) => (fun (i : Nat) (Ws : List Rw) (vg : Value) (sg : Slot) => rws.length - i) (ss.1) (ss.2.1) (ss.2.2.1) (ss.2.2.2)) (0, Ws, .slice none 0 0, none) ?_ ?_
          · try dsimp only
            refine ⟨?_, ?_, ?_, ?_, ?_, ?_⟩
            · first | exact h9_7 | (rw [h9_7]; rfl) | (rw [h9_7]; simp; done)
            · first | exact h9_8 | (rw [h9_8]; rfl) | (rw [h9_8]; simp; done)
            · rfl
            · rfl
            · rfl
            · exact ⟨Nat.zero_le _, hS3, RowL.nil _ _ _⟩
          · intro ss T10 L10 hI K26 hK26
            obtain ⟨i, Ws, vg, sg⟩ := ss
            try dsimp only at hI hK26
            simp only [h9_0, h9_3] at hI hK26
            obtain ⟨h10_7, h10_8, h10_0, h10_3, hL10, ⟨hi, hS, hgrow⟩⟩ := hI
            replace hL10 := hL10.symm
            subst hL10
            clear h9_0 h9_3 h9_7 h9_8 T9
            refine SX.seq_k fun K27 hK27 => ?_
            refine SX.seq_k fun K28 hK28 => ?_
            refine SX.region_d [some 58, some 59, some 60, some 61] rfl (fun ops hops => ?_)
            unfold Dsts at hops
            simp (maxSteps:=1000000)(dsimp:=false)(disch:=omega) only [go_sem, Φa, hP, h10_7, h10_8, h10_0, h10_3, hops]
            repeat' ((first | refine And.intro (by omega) ?_ | fail); try (with_reducible refine stI ?_); try simp (maxSteps:=1000000)(dsimp:=false)(disch:=omega) only [go_sem, Φa, hP, h10_7, h10_8, h10_0, h10_3, hops])
            refine hK28 _ _ ?_
            try clear hK28 K28
            refine SX.cond_k fun X29 Y29 hX29 hY29 => ?_
            simp (maxSteps:=1000000)(dsimp:=false)(disch:=omega) only [go_sem, Φa, hP, h10_7, h10_8, h10_0, h10_3, condVC]
            refine ⟨fun hc61 => hX29 ?_, fun hc61 => hY29 ?_⟩
            · clear hX29 hY29 X29 Y29
              refine SX.skip ?_
              try simp only [Φc, andThen_ret, andThen_exit, inBlk_normal, inBlk_ret, inBlk_exit, Φb, if_true, if_false, ↓reduceIte]
              refine hK27 _ _ ?_
              try clear hK27 K27
              refine SX.seq_k fun K30 hK30 => ?_
              refine SX.block ?_
              refine SX.seq_k fun K31 hK31 => ?_
              have hil : i < rws.length := by omega
              have hlw : i < Ws.length := by rw [hS.n]; exact hil
              have hv17 := (hS.v i (Nat.le_refl _) hil).symm
              refine SX.region_d [some 64, some 65, some 66, some 67, some 9] rfl (fun ops hops => ?_)
              unfold Dsts at hops
              simp (maxSteps:=1000000)(dsimp:=false)(disch:=omega) only [go_sem, Φa, hP, h10_7, h10_8, h10_0, h10_3, hops, ia_at hre, hv17]
              refine ⟨_, hrat _ _ 1 rfl i hil, ?_⟩
              try with_reducible refine stI ?_
              try simp (maxSteps:=1000000)(dsimp:=false)(disch:=omega) only [go_sem, Φa, hP, h10_7, h10_8, h10_0, h10_3, hops, ia_at hre, hv17]
              refine hK31 _ _ ?_
              try clear hK31 K31
              refine SX.live [0, 3, 7, 8, 9] (fun T11 hT11 => ?_)
              simp only [Φd, forall_mem_nil', go_sem, Φa, hP, h10_7, h10_8, h10_0, h10_3] at hT11
              obtain ⟨h11_0, h11_3, h11_7, h11_8, h11_9⟩ := hT11
              clear h10_7 h10_8 h10_0 h10_3 T10
              refine SX.seq_k fun K32 hK32 => ?_
              refine SX.seq_k fun K33 hK33 => ?_
              refine SX.region_d [some 10] rfl (fun ops hops => ?_)
              unfold Dsts at hops
              simp (maxSteps:=1000000)(dsimp:=false)(disch:=omega) only [go_sem, Φa, hP, h11_0, h11_3, h11_7, h11_8, h11_9, hops]
              refine hK33 _ _ ?_
              try clear hK33 K33
              refine SX.block ?_
              refine SX.live [0, 3, 7, 8, 9, 10] (fun T12 hT12 => ?_)
              simp only [Φd, forall_mem_nil', go_sem, Φa, hP, h11_0, h11_3, h11_7, h11_8, h11_9] at hT12
              obtain ⟨h12_0, h12_3, h12_7, h12_8, h12_9, h12_10⟩ := hT12
              clear h11_0 h11_3 h11_7 h11_8 h11_9 T11
              refine SX.loop_k (fun (ss : (Nat) × (List Int) × (Value) × (Slot)) T L' => (fun (k : Nat) (wl : List Int) (wv : Value) (ws : Slot) => T 9 = wv ∧ T 10 = .int .i64 (k : Int) ∧ T 0 = T12 0 ∧ T 3 = T12 3 ∧ T 7 = T12 7 ∧ T 8 = T12 8 ∧ L' = sl :: sr :: sg :: ((Ws.set i (⟨wl, wv, ws⟩ : Rw)).map Rw.s ++ (gs.map Gf.s ++ L)) ∧ (k ≤ 12 ∧ RowI .u8 5 wv wl ws ∧ (∀ x ∈ wl, x = mrk i) ∧ wl.length ≤ (rws.getD i default).l.length + k)) (ss.1) (ss.2.1) (ss.2.2.1) (ss.2.2.2)) (fun (ss : (Nat) × (List Int) × (Value) × (Slot)) => (fun (k : Nat) (wl : List Int) (wv : Value) (ws : Slot) => 12 - k) (ss.1) (ss.2.1) (ss.2.2.1) (ss.2.2.2)) (0, (Ws.getD i default).l, (Ws.getD i default).v, (Ws.getD i default).s) ?_ ?_
              · try dsimp only
                refine ⟨?_, ?_, ?_, ?_, ?_, ?_, ?_, ?_⟩
                · first | exact h12_9 | (rw [h12_9]; rfl) | (rw [h12_9]; simp; done)
                · first | exact h12_10 | (rw [h12_10]; rfl) | (rw [h12_10]; simp; done)
                · rfl
                · rfl
                · rfl
                · rfl
                · rw [set_self hlw]
                · exact ⟨Nat.zero_le _, hS.ok i hil, hS.fill i hil, hS.ln0 i (Nat.le_refl _) hil⟩
              · intro ss T13 L13 hI K34 hK34
                obtain ⟨k, wl, wv, ws⟩ := ss
                try dsimp only at hI hK34
                simp only [h12_0, h12_3, h12_7, h12_8] at hI hK34
                obtain ⟨h13_9, h13_10, h13_0, h13_3, h13_7, h13_8, hL13, ⟨hk, hwr, hwf, hwl⟩⟩ := hI
                replace hL13 := hL13.symm
                subst hL13
                clear h12_0 h12_3 h12_7 h12_8 h12_9 h12_10 T12
                refine SX.seq_k fun K35 hK35 => ?_
                refine SX.seq_k fun K36 hK36 => ?_
                refine SX.region_d [some 68, some 69] rfl (fun ops hops => ?_)
                unfold Dsts at hops
                simp (maxSteps:=1000000)(dsimp:=false)(disch:=omega) only [go_sem, Φa, hP, h13_9, h13_10, h13_0, h13_3, h13_7, h13_8, hops]
                repeat' ((first | refine And.intro (by omega) ?_ | fail); try (with_reducible refine stI ?_); try simp (maxSteps:=1000000)(dsimp:=false)(disch:=omega) only [go_sem, Φa, hP, h13_9, h13_10, h13_0, h13_3, h13_7, h13_8, hops])
                refine hK36 _ _ ?_
                try clear hK36 K36
                refine SX.cond_k fun X37 Y37 hX37 hY37 => ?_
                simp (maxSteps:=1000000)(dsimp:=false)(disch:=omega) only [go_sem, Φa, hP, h13_9, h13_10, h13_0, h13_3, h13_7, h13_8, condVC]
                refine ⟨fun hc69 => hX37 ?_, fun hc69 => hY37 ?_⟩
                · clear hX37 hY37 X37 Y37
                  refine SX.skip ?_
                  try simp only [Φc, andThen_ret, andThen_exit, inBlk_normal, inBlk_ret, inBlk_exit, Φb, if_true, if_false, ↓reduceIte]
                  refine hK35 _ _ ?_
                  try clear hK35 K35
                  refine SX.seq_k fun K38 hK38 => ?_
                  refine SX.block ?_
                  have hb := hb2 _ (getD_mem hil)
                  have hgt : (sl :: sr :: sg :: ((Ws.set i (⟨wl, wv, ws⟩ : Rw)).map Rw.s ++ (gs.map Gf.s ++ L)))[i + 3]? = some ws := (mapS_at (f := Rw.s) (by rw [List.length_set]; exact hlw)).trans (by rw [getD_set hlw, if_pos rfl])
                  refine SX.region_d [some 72, some 73, some 74, some 75, some 76, some 77, some 9] rfl (fun ops hops => ?_)
                  unfold Dsts at hops
                  simp (maxSteps:=1000000)(dsimp:=false)(disch:=omega) only [go_sem, Φa, hP, h13_9, h13_10, h13_0, h13_3, h13_7, h13_8, hops, mrk_tmod, mrk_wrap]
                  intro g21
                  try with_reducible refine stI ?_
                  try simp (maxSteps:=1000000)(dsimp:=false)(disch:=omega) only [go_sem, Φa, hP, h13_9, h13_10, h13_0, h13_3, h13_7, h13_8, hops, mrk_tmod, mrk_wrap]
                  refine YAppend.int1 (i := i + 3) (hP ▸ T.elS_50) (hP ▸ T.zr_5) rfl hgt hwr (by omega) (by decide) ?_
                  intro v' s' hr'
                  try with_reducible refine stI ?_
                  try simp (maxSteps:=1000000)(dsimp:=false)(disch:=omega) only [go_sem, Φa, hP, h13_9, h13_10, h13_0, h13_3, h13_7, h13_8, hops, mrk_tmod, mrk_wrap]
                  rw [show (((Ws.set i (⟨wl, wv, ws⟩ : Rw)).map Rw.s ++ (gs.map Gf.s ++ L)).set i s') = (Ws.set i (⟨wl ++ [mrk i], v', s'⟩ : Rw)).map Rw.s ++ (gs.map Gf.s ++ L) from mapS_set2 (f := Rw.s) (y := (⟨wl ++ [mrk i], v', s'⟩ : Rw)) hlw]
                  refine hK38 _ _ ?_
                  try clear hK38 K38
                  refine SX.live [0, 3, 7, 8, 9, 10] (fun T14 hT14 => ?_)
                  simp only [Φd, forall_mem_nil', go_sem, Φa, hP, h13_9, h13_10, h13_0, h13_3, h13_7, h13_8] at hT14
                  obtain ⟨h14_0, h14_3, h14_7, h14_8, h14_9, h14_10⟩ := hT14
                  clear h13_9 h13_10 h13_0 h13_3 h13_7 h13_8 T13
                  refine SX.region_d [some 70, some 71, some 10] rfl (fun ops hops => ?_)
                  unfold Dsts at hops
                  simp (maxSteps:=1000000)(dsimp:=false)(disch:=omega) only [go_sem, Φa, hP, h14_0, h14_3, h14_7, h14_8, h14_9, h14_10, hops]
                  repeat' ((first | refine And.intro (by omega) ?_ | fail); try (with_reducible refine stI ?_); try simp (maxSteps:=1000000)(dsimp:=false)(disch:=omega) only [go_sem, Φa, hP, h14_0, h14_3, h14_7, h14_8, h14_9, h14_10, hops])
                  refine hK34 (k + 1, wl ++ [mrk i], v', s') _ (sl :: sr :: sg :: ((Ws.set i (⟨wl ++ [mrk i], v', s'⟩ : Rw)).map Rw.s ++ (gs.map Gf.s ++ L))) _ (by exact Less.drop _ _) ?_ ?_
                  · try dsimp only
                    refine ⟨?_, ?_, ?_, ?_, ?_, ?_, ?_, ?_⟩
                    · simp (maxSteps:=1000000)(dsimp:=false)(disch:=omega) only [go_sem, Φa, hP, h14_0, h14_3, h14_7, h14_8, h14_9, h14_10]
                      first | done | rfl | skip
                    · simp (maxSteps:=1000000)(dsimp:=false)(disch:=omega) only [go_sem, Φa, hP, h14_0, h14_3, h14_7, h14_8, h14_9, h14_10]
                      first | done | rfl | skip
                    · simp (maxSteps:=1000000)(dsimp:=false)(disch:=omega) only [go_sem, Φa, hP, h14_0, h14_3, h14_7, h14_8, h14_9, h14_10]
                    · simp (maxSteps:=1000000)(dsimp:=false)(disch:=omega) only [go_sem, Φa, hP, h14_0, h14_3, h14_7, h14_8, h14_9, h14_10]
                    · simp (maxSteps:=1000000)(dsimp:=false)(disch:=omega) only [go_sem, Φa, hP, h14_0, h14_3, h14_7, h14_8, h14_9, h14_10]
                    · simp (maxSteps:=1000000)(dsimp:=false)(disch:=omega) only [go_sem, Φa, hP, h14_0, h14_3, h14_7, h14_8, h14_9, h14_10]
                    · rfl
                    · refine ⟨by omega, hr', fun x hx => ?_, by show (wl ++ [mrk i]).length ≤ _; rw [List.length_append, List.length_singleton]; omega⟩
                      rcases List.mem_append.1 hx with hx | hx
                      · exact hwf x hx
                      · exact List.mem_singleton.1 hx
                  · (try dsimp only); omega
                · clear hX37 hY37 X37 Y37
                  refine SX.exit ?_
                  try simp only [Φc, andThen_ret, andThen_exit, inBlk_normal, inBlk_ret, inBlk_exit, Φb, if_true, if_false, ↓reduceIte]
                  refine hK32 _ _ ?_
                  try clear hK32 K32
                  obtain ⟨A', c', rfl, _, _⟩ := Row.form hwr
                  refine SX.region_d [some 78, some 79, some 80, some 81, some 7] rfl (fun ops hops => ?_)
                  unfold Dsts at hops
                  simp (maxSteps:=1000000)(dsimp:=false)(disch:=omega) only [go_sem, Φa, hP, h13_9, h13_10, h13_0, h13_3, h13_7, h13_8, hops]
                  intro g22
                  try with_reducible refine stI ?_
                  try simp (maxSteps:=1000000)(dsimp:=false)(disch:=omega) only [go_sem, Φa, hP, h13_9, h13_10, h13_0, h13_3, h13_7, h13_8, hops]
                  refine YAppend.rowL (L := sl :: sr :: sg :: ((Ws.set i (⟨wl, .slice A' wl.length c', ws⟩ : Rw)).map Rw.s ++ (gs.map Gf.s ++ L))) (z := [.slice none 0 0]) (f := rwV) (x := (⟨wl, .slice A' wl.length c', ws⟩ : Rw)) (i := 2) (hP ▸ T.elS_39) (hP ▸ T.zr_50) rfl rfl rfl rfl hgrow (by rw [List.length_take]; omega) (by decide) ?_
                  intro v' s' hr'
                  try with_reducible refine stI ?_
                  try simp (maxSteps:=1000000)(dsimp:=false)(disch:=omega) only [go_sem, Φa, hP, h13_9, h13_10, h13_0, h13_3, h13_7, h13_8, hops]
                  refine hK30 _ _ ?_
                  try clear hK30 K30
                  refine SX.region_d [some 62, some 63, some 8] rfl (fun ops hops => ?_)
                  unfold Dsts at hops
                  simp (maxSteps:=1000000)(dsimp:=false)(disch:=omega) only [go_sem, Φa, hP, h13_9, h13_10, h13_0, h13_3, h13_7, h13_8, hops]
                  repeat' ((first | refine And.intro (by omega) ?_ | fail); try (with_reducible refine stI ?_); try simp (maxSteps:=1000000)(dsimp:=false)(disch:=omega) only [go_sem, Φa, hP, h13_9, h13_10, h13_0, h13_3, h13_7, h13_8, hops])
                  refine hK26 (i + 1, Ws.set i (⟨wl, .slice A' wl.length c', ws⟩ : Rw), v', s') _ (sl :: sr :: s' :: ((Ws.set i (⟨wl, .slice A' wl.length c', ws⟩ : Rw)).map Rw.s ++ (gs.map Gf.s ++ L))) _ (by exact Less.drop _ _) ?_ ?_
                  · try dsimp only
                    refine ⟨?_, ?_, ?_, ?_, ?_, ?_⟩
                    · simp (maxSteps:=1000000)(dsimp:=false)(disch:=omega) only [go_sem, Φa, hP, h13_9, h13_10, h13_0, h13_3, h13_7, h13_8]
                      first | done | rfl | skip
                    · simp (maxSteps:=1000000)(dsimp:=false)(disch:=omega) only [go_sem, Φa, hP, h13_9, h13_10, h13_0, h13_3, h13_7, h13_8]
                      first | done | rfl | skip
                    · simp (maxSteps:=1000000)(dsimp:=false)(disch:=omega) only [go_sem, Φa, hP, h13_9, h13_10, h13_0, h13_3, h13_7, h13_8]
                    · simp (maxSteps:=1000000)(dsimp:=false)(disch:=omega) only [go_sem, Φa, hP, h13_9, h13_10, h13_0, h13_3, h13_7, h13_8]
                    · rfl
                    · exact ⟨by omega, hS.next hil (by show wl.length ≤ _; omega) hwr hwf, by rw [take_set_succ hlw]; exact hr'⟩
                  · (try dsimp only); omega
            · clear hX29 hY29 X29 Y29
              refine SX.exit ?_
              try simp only [Φc, andThen_ret, andThen_exit, inBlk_normal, inBlk_ret, inBlk_exit, Φb, if_true, if_false, ↓reduceIte]
              refine hK24 _ _ ?_
              try clear hK24 K24
              refine SX.seq_k fun K39 hK39 => ?_
              refine SX.seq_k fun K40 hK40 => ?_
              obtain rfl : i = rws.length := by omega
              have hnW := hS.n
              rw [List.take_of_length_le (by omega)] at hgrow
              obtain ⟨GA, gc, ga, rfl, hgc, hge, hgat⟩ := RowR.anyR hgrow
              refine SX.region_d [some 11] rfl (fun ops hops => ?_)
              unfold Dsts at hops
              simp (maxSteps:=1000000)(dsimp:=false)(disch:=omega) only [go_sem, Φa, hP, h10_7, h10_8, h10_0, h10_3, hops]
              refine hK40 _ _ ?_
              try clear hK40 K40
              refine SX.block ?_
              refine SX.live [0, 7, 11] (fun T15 hT15 => ?_)
              simp only [Φd, forall_mem_nil', go_sem, Φa, hP, h10_7, h10_8, h10_0, h10_3] at hT15
              obtain ⟨h15_0, h15_7, h15_11⟩ := hT15
              clear h10_7 h10_8 h10_0 h10_3 T10
              refine SX.loop_k (fun (ss : (Nat)) T L' => (fun (i : Nat) => T 11 = .int .i64 (i : Int) ∧ T 0 = T15 0 ∧ T 7 = T15 7 ∧ L' = sl :: sr :: sg :: (Ws.map Rw.s ++ (gs.map Gf.s ++ L)) ∧ (i ≤ Ws.length)) (ss)) (fun (ss : (Nat)) => (fun (i : Nat) => Ws.length - i) (ss)) 0 ?_ ?_
              · try dsimp only
                refine ⟨?_, ?_, ?_, ?_, ?_⟩
                · first | exact h15_11 | (rw [h15_11]; rfl) | (rw [h15_11]; simp; done)
                · rfl
                · rfl
                · rfl
                · exact Nat.zero_le _
              · intro i T16 L16 hI K41 hK41
                try dsimp only at hI hK41
                simp only [h15_0, h15_7] at hI hK41
                obtain ⟨h16_11, h16_0, h16_7, hL16, hi⟩ := hI
                replace hL16 := hL16.symm
                subst hL16
                clear h15_0 h15_7 h15_11 T15
                refine SX.seq_k fun K42 hK42 => ?_
                refine SX.seq_k fun K43 hK43 => ?_
                refine SX.region_d [some 82, some 83, some 84, some 85] rfl (fun ops hops => ?_)
                unfold Dsts at hops
                simp (maxSteps:=1000000)(dsimp:=false)(disch:=omega) only [go_sem, Φa, hP, h16_11, h16_0, h16_7, hops]
                repeat' ((first | refine And.intro (by omega) ?_ | fail); try (with_reducible refine stI ?_); try simp (maxSteps:=1000000)(dsimp:=false)(disch:=omega) only [go_sem, Φa, hP, h16_11, h16_0, h16_7, hops])
                refine hK43 _ _ ?_
                try clear hK43 K43
                refine SX.cond_k fun X44 Y44 hX44 hY44 => ?_
                simp (maxSteps:=1000000)(dsimp:=false)(disch:=omega) only [go_sem, Φa, hP, h16_11, h16_0, h16_7, condVC]
                refine ⟨fun hc85 => hX44 ?_, fun hc85 => hY44 ?_⟩
                · clear hX44 hY44 X44 Y44
                  refine SX.skip ?_
                  try simp only [Φc, andThen_ret, andThen_exit, inBlk_normal, inBlk_ret, inBlk_exit, Φb, if_true, if_false, ↓reduceIte]
                  refine hK42 _ _ ?_
                  try clear hK42 K42
                  refine SX.seq_k fun K45 hK45 => ?_
                  refine SX.block ?_
                  refine SX.seq_k fun K46 hK46 => ?_
                  have hil : i < Ws.length := by omega
                  have hir : i < rws.length := by omega
                  obtain ⟨BA, bc, ba, hbv, hbc, hbe, hbat⟩ := RowI.any (hS.ok i hir)
                  have hgt3 : (sl :: sr :: sg :: (Ws.map Rw.s ++ (gs.map Gf.s ++ L)))[i + 3]? = some (Ws.getD i default).s := mapS_at (f := Rw.s) hil
                  refine SX.region_d [some 12] rfl (fun ops hops => ?_)
                  unfold Dsts at hops
                  simp (maxSteps:=1000000)(dsimp:=false)(disch:=omega) only [go_sem, Φa, hP, h16_11, h16_0, h16_7, hops]
                  refine hK46 _ _ ?_
                  try clear hK46 K46
                  refine SX.block ?_
                  refine SX.live [0, 7, 11, 12] (fun T17 hT17 => ?_)
                  simp only [Φd, forall_mem_nil', go_sem, Φa, hP, h16_11, h16_0, h16_7] at hT17
                  obtain ⟨h17_0, h17_7, h17_11, h17_12⟩ := hT17
                  clear h16_11 h16_0 h16_7 T16
                  refine SX.loop_k (fun (ss : (Nat)) T L' => (fun (k : Nat) => T 12 = .int .i64 (k : Int) ∧ T 0 = T17 0 ∧ T 7 = T17 7 ∧ T 11 = T17 11 ∧ L' = sl :: sr :: sg :: (Ws.map Rw.s ++ (gs.map Gf.s ++ L)) ∧ (k ≤ (Ws.getD i default).l.length)) (ss)) (fun (ss : (Nat)) => (fun (k : Nat) => (Ws.getD i default).l.length - k) (ss)) 0 ?_ ?_
                  · try dsimp only
                    refine ⟨?_, ?_, ?_, ?_, ?_, ?_⟩
                    · first | exact h17_12 | (rw [h17_12]; rfl) | (rw [h17_12]; simp; done)
                    · rfl
                    · rfl
                    · rfl
                    · rfl
                    · exact Nat.zero_le _
                  · intro k T18 L18 hI K47 hK47
                    try dsimp only at hI hK47
                    simp only [h17_0, h17_7, h17_11] at hI hK47
                    obtain ⟨h18_12, h18_0, h18_7, h18_11, hL18, hk⟩ := hI
                    replace hL18 := hL18.symm
                    subst hL18
                    clear h17_0 h17_7 h17_11 h17_12 T17
                    refine SX.seq_k fun K48 hK48 => ?_
                    refine SX.seq_k fun K49 hK49 => ?_
                    refine SX.region_d [some 88, some 89, some 90, some 91, some 92, some 93, some 94] rfl (fun ops hops => ?_)
                    unfold Dsts at hops
                    simp (maxSteps:=1000000)(dsimp:=false)(disch:=omega) only [go_sem, Φa, hP, h18_12, h18_0, h18_7, h18_11, hops, ia_at hge, hbv]
                    refine ⟨_, hgat _ _ 2 rfl i hil, ?_⟩
                    try with_reducible refine stI ?_
                    try simp (maxSteps:=1000000)(dsimp:=false)(disch:=omega) only [go_sem, Φa, hP, h18_12, h18_0, h18_7, h18_11, hops, ia_at hge, hbv]
                    refine hK49 _ _ ?_
                    try clear hK49 K49
                    refine SX.cond_k fun X50 Y50 hX50 hY50 => ?_
                    simp (maxSteps:=1000000)(dsimp:=false)(disch:=omega) only [go_sem, Φa, hP, h18_12, h18_0, h18_7, h18_11, condVC]
                    refine ⟨fun hc94 => hX50 ?_, fun hc94 => hY50 ?_⟩
                    · clear hX50 hY50 X50 Y50
                      refine SX.skip ?_
                      try simp only [Φc, andThen_ret, andThen_exit, inBlk_normal, inBlk_ret, inBlk_exit, Φb, if_true, if_false, ↓reduceIte]
                      refine hK48 _ _ ?_
                      try clear hK48 K48
                      refine SX.seq_k fun K51 hK51 => ?_
                      refine SX.block ?_
                      refine SX.seq_k fun K52 hK52 => ?_
                      have hkl : k < (Ws.getD i default).l.length := by omega
                      have hx := hS.fill i hir _ (getD_memI hkl)
                      refine SX.region_d [some 97, some 98, some 99, some 100, some 101, some 102, some 103, some 104, some 105, some 106, some 107] rfl (fun ops hops => ?_)
                      unfold Dsts at hops
                      simp (maxSteps:=1000000)(dsimp:=false)(disch:=omega) only [go_sem, Φa, hP, h18_12, h18_0, h18_7, h18_11, hops, ia_at hge, ia_at hbe, hbv, hx, mrk_tmod, mrk_wrap]
                      refine ⟨_, hgat _ _ 2 rfl i hil, ?_⟩
                      try with_reducible refine stI ?_
                      try simp (maxSteps:=1000000)(dsimp:=false)(disch:=omega) only [go_sem, Φa, hP, h18_12, h18_0, h18_7, h18_11, hops, ia_at hge, ia_at hbe, hbv, hx, mrk_tmod, mrk_wrap]
                      refine ⟨_, hbat _ _ (i + 3) hgt3 k hkl, ?_⟩
                      try with_reducible refine stI ?_
                      try simp (maxSteps:=1000000)(dsimp:=false)(disch:=omega) only [go_sem, Φa, hP, h18_12, h18_0, h18_7, h18_11, hops, ia_at hge, ia_at hbe, hbv, hx, mrk_tmod, mrk_wrap]
                      refine hK52 _ _ ?_
                      try clear hK52 K52
                      refine SX.live [0, 7, 11, 12, 107] (fun T19 hT19 => ?_)
                      simp only [Φd, forall_mem_nil', go_sem, Φa, hP, h18_12, h18_0, h18_7, h18_11] at hT19
                      obtain ⟨h19_0, h19_7, h19_11, h19_12, h19_107⟩ := hT19
                      clear h18_12 h18_0 h18_7 h18_11 T18
                      refine SX.cond_k fun X53 Y53 hX53 hY53 => ?_
                      simp (maxSteps:=1000000)(dsimp:=false)(disch:=omega) only [go_sem, Φa, hP, h19_0, h19_7, h19_11, h19_12, h19_107, condVC]
                      refine hY53 ?_
                      clear hX53 hY53 X53 Y53
                      refine SX.skip ?_
                      try simp only [Φc, andThen_ret, andThen_exit, inBlk_normal, inBlk_ret, inBlk_exit, Φb, if_true, if_false, ↓reduceIte]
                      refine hK51 _ _ ?_
                      try clear hK51 K51
                      refine SX.region_d [some 95, some 96, some 12] rfl (fun ops hops => ?_)
                      unfold Dsts at hops
                      simp (maxSteps:=1000000)(dsimp:=false)(disch:=omega) only [go_sem, Φa, hP, h19_0, h19_7, h19_11, h19_12, h19_107, hops]
                      repeat' ((first | refine And.intro (by omega) ?_ | fail); try (with_reducible refine stI ?_); try simp (maxSteps:=1000000)(dsimp:=false)(disch:=omega) only [go_sem, Φa, hP, h19_0, h19_7, h19_11, h19_12, h19_107, hops])
                      refine hK47 (k + 1) _ (sl :: sr :: sg :: (Ws.map Rw.s ++ (gs.map Gf.s ++ L))) _ (by exact Less.refl _) ?_ ?_
                      · try dsimp only
                        refine ⟨?_, ?_, ?_, ?_, ?_, ?_⟩
                        · simp (maxSteps:=1000000)(dsimp:=false)(disch:=omega) only [go_sem, Φa, hP, h19_0, h19_7, h19_11, h19_12, h19_107]
                          first | done | rfl | skip
                        · simp (maxSteps:=1000000)(dsimp:=false)(disch:=omega) only [go_sem, Φa, hP, h19_0, h19_7, h19_11, h19_12, h19_107]
                        · simp (maxSteps:=1000000)(dsimp:=false)(disch:=omega) only [go_sem, Φa, hP, h19_0, h19_7, h19_11, h19_12, h19_107]
                        · simp (maxSteps:=1000000)(dsimp:=false)(disch:=omega) only [go_sem, Φa, hP, h19_0, h19_7, h19_11, h19_12, h19_107]
                        · rfl
                        · omega
                      · (try dsimp only); omega
                    · clear hX50 hY50 X50 Y50
                      refine SX.exit ?_
                      try simp only [Φc, andThen_ret, andThen_exit, inBlk_normal, inBlk_ret, inBlk_exit, Φb, if_true, if_false, ↓reduceIte]
                      refine hK45 _ _ ?_
                      try clear hK45 K45
                      refine SX.region_d [some 86, some 87, some 11] rfl (fun ops hops => ?_)
                      unfold Dsts at hops
                      simp (maxSteps:=1000000)(dsimp:=false)(disch:=omega) only [go_sem, Φa, hP, h18_12, h18_0, h18_7, h18_11, hops]
                      repeat' ((first | refine And.intro (by omega) ?_ | fail); try (with_reducible refine stI ?_); try simp (maxSteps:=1000000)(dsimp:=false)(disch:=omega) only [go_sem, Φa, hP, h18_12, h18_0, h18_7, h18_11, hops])
                      refine hK41 (i + 1) _ (sl :: sr :: sg :: (Ws.map Rw.s ++ (gs.map Gf.s ++ L))) _ (by exact Less.refl _) ?_ ?_
                      · try dsimp only
                        refine ⟨?_, ?_, ?_, ?_, ?_⟩
                        · simp (maxSteps:=1000000)(dsimp:=false)(disch:=omega) only [go_sem, Φa, hP, h18_12, h18_0, h18_7, h18_11]
                          first | done | rfl | skip
                        · simp (maxSteps:=1000000)(dsimp:=false)(disch:=omega) only [go_sem, Φa, hP, h18_12, h18_0, h18_7, h18_11]
                        · simp (maxSteps:=1000000)(dsimp:=false)(disch:=omega) only [go_sem, Φa, hP, h18_12, h18_0, h18_7, h18_11]
                        · rfl
                        · omega
                      · (try dsimp only); omega
                · clear hX44 hY44 X44 Y44
                  refine SX.exit ?_
                  try simp only [Φc, andThen_ret, andThen_exit, inBlk_normal, inBlk_ret, inBlk_exit, Φb, if_true, if_false, ↓reduceIte]
                  refine hK39 _ _ ?_
                  try clear hK39 K39
                  refine SX.seq_k fun K54 hK54 => ?_
                  refine SX.seq_k fun K55 hK55 => ?_
                  refine SX.less (lessD4 (N := gs.map Gf.s ++ L)) ?_
                  refine SX.region_d [some 13] rfl (fun ops hops => ?_)
                  unfold Dsts at hops
                  simp (maxSteps:=1000000)(dsimp:=false)(disch:=omega) only [go_sem, Φa, hP, h16_11, h16_0, h16_7, hops]
                  refine hK55 _ _ ?_
                  try clear hK55 K55
                  refine SX.block ?_
                  refine SX.live [0, 13] (fun T20 hT20 => ?_)
                  simp only [Φd, forall_mem_nil', go_sem, Φa, hP, h16_11, h16_0, h16_7] at hT20
                  obtain ⟨h20_0, h20_13⟩ := hT20
                  clear h16_11 h16_0 h16_7 T16
                  refine SX.loop_k (fun (ss : (Nat) × (List Gf) × (Hp)) T L' => (fun (i : Nat) (Gs : List Gf) (R : Hp) => T 13 = .int .i64 (i : Int) ∧ T 0 = T20 0 ∧ L' = sl :: (Gs.map Gf.s ++ R) ∧ (i ≤ gs.length ∧ S5 gs Gs R i ∧ Less R L)) (ss.1) (ss.2.1) (ss.2.2)) (fun (ss : (Nat) × (List Gf) × (Hp)) => (fun (i : Nat) (Gs : List Gf) (R : Hp) => gs.length - i) (ss.1) (ss.2.1) (ss.2.2)) (0, gs, L) ?_ ?_
                  · try dsimp only
                    refine ⟨?_, ?_, ?_, ?_⟩
                    · first | exact h20_13 | (rw [h20_13]; rfl) | (rw [h20_13]; simp; done)
                    · rfl
                    · rfl
                    · exact ⟨Nat.zero_le _, S5.start L hok, Less.refl _⟩
                  · intro ss T21 L21 hI K56 hK56
                    obtain ⟨i, Gs, R⟩ := ss
                    try dsimp only at hI hK56
                    simp only [h20_0] at hI hK56
                    obtain ⟨h21_13, h21_0, hL21, ⟨hi, hS, hRL⟩⟩ := hI
                    replace hL21 := hL21.symm
                    subst hL21
                    clear h20_0 h20_13 T20
                    refine SX.seq_k fun K57 hK57 => ?_
                    refine SX.seq_k fun K58 hK58 => ?_
                    refine SX.region_d [some 108, some 109, some 110, some 111] rfl (fun ops hops => ?_)
                    unfold Dsts at hops
                    simp (maxSteps:=1000000)(dsimp:=false)(disch:=omega) only [go_sem, Φa, hP, h21_13, h21_0, hops]
                    repeat' ((first | refine And.intro (by omega) ?_ | fail); try (with_reducible refine stI ?_); try simp (maxSteps:=1000000)(dsimp:=false)(disch:=omega) only [go_sem, Φa, hP, h21_13, h21_0, hops])
                    refine hK58 _ _ ?_
                    try clear hK58 K58
                    refine SX.cond_k fun X59 Y59 hX59 hY59 => ?_
                    simp (maxSteps:=1000000)(dsimp:=false)(disch:=omega) only [go_sem, Φa, hP, h21_13, h21_0, condVC]
                    refine ⟨fun hc111 => hX59 ?_, fun hc111 => hY59 ?_⟩
                    · clear hX59 hY59 X59 Y59
                      refine SX.skip ?_
                      try simp only [Φc, andThen_ret, andThen_exit, inBlk_normal, inBlk_ret, inBlk_exit, Φb, if_true, if_false, ↓reduceIte]
                      refine hK57 _ _ ?_
                      try clear hK57 K57
                      refine SX.seq_k fun K60 hK60 => ?_
                      refine SX.block ?_
                      refine SX.seq_k fun K61 hK61 => ?_
                      have hil : i < gs.length := by omega
                      obtain ⟨VA, vc, va, hvv, hvc, hve, _⟩ := RowR.anyR (hok i hil)
                      refine SX.region_d [some 14] rfl (fun ops hops => ?_)
                      unfold Dsts at hops
                      simp (maxSteps:=1000000)(dsimp:=false)(disch:=omega) only [go_sem, Φa, hP, h21_13, h21_0, hops]
                      refine hK61 _ _ ?_
                      try clear hK61 K61
                      refine SX.block ?_
                      refine SX.live [0, 13, 14] (fun T22 hT22 => ?_)
                      simp only [Φd, forall_mem_nil', go_sem, Φa, hP, h21_13, h21_0] at hT22
                      obtain ⟨h22_0, h22_13, h22_14⟩ := hT22
                      clear h21_13 h21_0 T21
                      refine SX.loop_k (fun (ss : (Nat) × (List Gf) × (Hp)) T L' => (fun (k : Nat) (Gk : List Gf) (Rk : Hp) => T 14 = .int .i64 (k : Int) ∧ T 0 = T22 0 ∧ T 13 = T22 13 ∧ L' = sl :: (Gk.map Gf.s ++ Rk) ∧ (k ≤ (gs.getD i default).rs.length ∧ S5 gs Gk Rk i ∧ Less Rk L ∧ ∀ q, q < k → Tw Rk (mrk i) ((Gk.getD i default).rs.getD q default))) (ss.1) (ss.2.1) (ss.2.2)) (fun (ss : (Nat) × (List Gf) × (Hp)) => (fun (k : Nat) (Gk : List Gf) (Rk : Hp) => (gs.getD i default).rs.length - k) (ss.1) (ss.2.1) (ss.2.2)) (0, Gs, R) ?_ ?_
                      · try dsimp only
                        refine ⟨?_, ?_, ?_, ?_, ?_⟩
                        · first | exact h22_14 | (rw [h22_14]; rfl) | (rw [h22_14]; simp; done)
                        · rfl
                        · rfl
                        · rfl
                        · exact ⟨Nat.zero_le _, hS, hRL, fun q hq => absurd hq (Nat.not_lt_zero _)⟩
                      · intro ss T23 L23 hI K62 hK62
                        obtain ⟨k, Gk, Rk⟩ := ss
                        try dsimp only at hI hK62
                        simp only [h22_0, h22_13] at hI hK62
                        obtain ⟨h23_14, h23_0, h23_13, hL23, ⟨hk, hSk, hRk, hpart⟩⟩ := hI
                        replace hL23 := hL23.symm
                        subst hL23
                        clear h22_0 h22_13 h22_14 T22
                        refine SX.seq_k fun K63 hK63 => ?_
                        refine SX.seq_k fun K64 hK64 => ?_
                        refine SX.region_d [some 114, some 115, some 116, some 117, some 118, some 119, some 120, some 121] rfl (fun ops hops => ?_)
                        unfold Dsts at hops
                        simp (maxSteps:=1000000)(dsimp:=false)(disch:=omega) only [go_sem, Φa, hP, h23_14, h23_0, h23_13, hops, ia_at hle, hvv]
                        refine ⟨_, hlat _ _ 0 rfl i hil 1 _ (by decide) rfl, ?_⟩
                        try with_reducible refine stI ?_
                        try simp (maxSteps:=1000000)(dsimp:=false)(disch:=omega) only [go_sem, Φa, hP, h23_14, h23_0, h23_13, hops, ia_at hle, hvv]
                        refine hK64 _ _ ?_
                        try clear hK64 K64
                        refine SX.cond_k fun X65 Y65 hX65 hY65 => ?_
                        simp (maxSteps:=1000000)(dsimp:=false)(disch:=omega) only [go_sem, Φa, hP, h23_14, h23_0, h23_13, condVC]
                        refine ⟨fun hc121 => hX65 ?_, fun hc121 => hY65 ?_⟩
                        · clear hX65 hY65 X65 Y65
                          refine SX.skip ?_
                          try simp only [Φc, andThen_ret, andThen_exit, inBlk_normal, inBlk_ret, inBlk_exit, Φb, if_true, if_false, ↓reduceIte]
                          refine hK63 _ _ ?_
                          try clear hK63 K63
                          refine SX.seq_k fun K66 hK66 => ?_
                          refine SX.block ?_
                          have hln := hSk.ln i hil
                          have hlw : i < Gk.length := by rw [hSk.n]; exact hil
                          obtain ⟨r, cap, junk, hv1, hs1, hcap, hjl⟩ := RowL.form (hSk.ok i hil) (by omega)
                          have hv2 := (hSk.v i hil).symm.trans hv1
                          have hgt : ∀ x : Slot, (x :: sl :: (Gk.map Gf.s ++ Rk))[i + 2]? = some (some (r, .cells ((Gk.getD i default).rs.flatMap rwV ++ junk).toArray 50 (0, 0))) := fun x => (mapS_at (f := Gf.s) hlw).trans (congrArg some hs1)
                          have hkl : k < (Gk.getD i default).rs.length := by omega
                          refine SX.region_d [some 124, some 125, some 126, some 127, some 128, some 129, some 130, some 131, some 132, some 133, some 134, none] rfl (fun ops hops => ?_)
                          unfold Dsts at hops
                          simp (maxSteps:=1000000)(dsimp:=false)(disch:=omega) only [go_sem, Φa, hP, h23_14, h23_0, h23_13, hops, ia_at hle, hv2, mrk_tmod, mrk_wrap]
                          refine ⟨_, hlat _ _ 0 rfl i hil 1 _ (by decide) rfl, ?_⟩
                          try with_reducible refine stI ?_
                          try simp (maxSteps:=1000000)(dsimp:=false)(disch:=omega) only [go_sem, Φa, hP, h23_14, h23_0, h23_13, hops, ia_at hle, hv2, mrk_tmod, mrk_wrap]
                          intro g37
                          try with_reducible refine stI ?_
                          try simp (maxSteps:=1000000)(dsimp:=false)(disch:=omega) only [go_sem, Φa, hP, h23_14, h23_0, h23_13, hops, ia_at hle, hv2, mrk_tmod, mrk_wrap]
                          refine ⟨i + 2, _, _, _, hgt _, (by rw [List.length_append, flat_len rwV_len]; omega), .inr (by omega), ?_⟩
                          try with_reducible refine stI ?_
                          try simp (maxSteps:=1000000)(dsimp:=false)(disch:=omega) only [go_sem, Φa, hP, h23_14, h23_0, h23_13, hops, ia_at hle, hv2, mrk_tmod, mrk_wrap]
                          rw [rwV_set (x := twR g37 (mrk i)) hkl]
                          rw [show ((Gk.map Gf.s ++ Rk).set i (some (r, .cells (((Gk.getD i default).rs.set k (twR g37 (mrk i))).flatMap rwV ++ junk).toArray 50 (0, 0)))) = (Gk.set i (gSet (Gk.getD i default) k (twR g37 (mrk i)) r junk)).map Gf.s ++ Rk from mapS_set (f := Gf.s) (y := (gSet (Gk.getD i default) k (twR g37 (mrk i)) r junk)) hlw]
                          refine hK66 _ _ ?_
                          try clear hK66 K66
                          refine SX.live [0, 13, 14] (fun T24 hT24 => ?_)
                          simp only [Φd, forall_mem_nil', go_sem, Φa, hP, h23_14, h23_0, h23_13] at hT24
                          obtain ⟨h24_0, h24_13, h24_14⟩ := hT24
                          clear h23_14 h23_0 h23_13 T23
                          refine SX.region_d [some 122, some 123, some 14] rfl (fun ops hops => ?_)
                          unfold Dsts at hops
                          simp (maxSteps:=1000000)(dsimp:=false)(disch:=omega) only [go_sem, Φa, hP, h24_0, h24_13, h24_14, hops]
                          repeat' ((first | refine And.intro (by omega) ?_ | fail); try (with_reducible refine stI ?_); try simp (maxSteps:=1000000)(dsimp:=false)(disch:=omega) only [go_sem, Φa, hP, h24_0, h24_13, h24_14, hops])
                          refine hK62 (k + 1, Gk.set i (gSet (Gk.getD i default) k (twR g37 (mrk i)) r junk), (twR g37 (mrk i)).s :: Rk) _ (sl :: ((Gk.set i (gSet (Gk.getD i default) k (twR g37 (mrk i)) r junk)).map Gf.s ++ (twR g37 (mrk i)).s :: Rk)) _ (by exact less5) ?_ ?_
                          · try dsimp only
                            refine ⟨?_, ?_, ?_, ?_, ?_⟩
                            · simp (maxSteps:=1000000)(dsimp:=false)(disch:=omega) only [go_sem, Φa, hP, h24_0, h24_13, h24_14]
                              first | done | rfl | skip
                            · simp (maxSteps:=1000000)(dsimp:=false)(disch:=omega) only [go_sem, Φa, hP, h24_0, h24_13, h24_14]
                            · simp (maxSteps:=1000000)(dsimp:=false)(disch:=omega) only [go_sem, Φa, hP, h24_0, h24_13, h24_14]
                            · rfl
                            · refine ⟨by omega, hSk.put hil _ (g := (gSet (Gk.getD i default) k (twR g37 (mrk i)) r junk)) (hSk.v i hil) (by show (List.set _ _ _).length = _; rw [List.length_set]; exact hln) (gSet_ok hv1 hcap hjl), (Less.drop _ _).trans hRk, fun q hq => ?_⟩
                              rw [getD_set hlw, if_pos rfl]
                              show Tw _ _ ((List.set _ _ _).getD q default)
                              rw [set_getD]
                              split
                              · exact Tw.new Rk g37 (mrk i)
                              · rename_i hne
                                exact (hpart q (by rcases Nat.lt_succ_iff_lt_or_eq.1 hq with h | h; exact h; exact absurd ⟨h.symm, by omega⟩ hne)).cons _
                          · (try dsimp only); omega
                        · clear hX65 hY65 X65 Y65
                          refine SX.exit ?_
                          try simp only [Φc, andThen_ret, andThen_exit, inBlk_normal, inBlk_ret, inBlk_exit, Φb, if_true, if_false, ↓reduceIte]
                          refine hK60 _ _ ?_
                          try clear hK60 K60
                          refine SX.region_d [some 112, some 113, some 13] rfl (fun ops hops => ?_)
                          unfold Dsts at hops
                          simp (maxSteps:=1000000)(dsimp:=false)(disch:=omega) only [go_sem, Φa, hP, h23_14, h23_0, h23_13, hops]
                          repeat' ((first | refine And.intro (by omega) ?_ | fail); try (with_reducible refine stI ?_); try simp (maxSteps:=1000000)(dsimp:=false)(disch:=omega) only [go_sem, Φa, hP, h23_14, h23_0, h23_13, hops])
                          refine hK56 (i + 1, Gk, Rk) _ (sl :: (Gk.map Gf.s ++ Rk)) _ (by exact Less.refl _) ?_ ?_
                          · try dsimp only
                            refine ⟨?_, ?_, ?_, ?_⟩
                            · simp (maxSteps:=1000000)(dsimp:=false)(disch:=omega) only [go_sem, Φa, hP, h23_14, h23_0, h23_13]
                              first | done | rfl | skip
                            · simp (maxSteps:=1000000)(dsimp:=false)(disch:=omega) only [go_sem, Φa, hP, h23_14, h23_0, h23_13]
                            · rfl
                            · exact ⟨by omega, hSk.next hil fun q hq => hpart q (by omega), hRk⟩
                          · (try dsimp only); omega
                    · clear hX59 hY59 X59 Y59
                      refine SX.exit ?_
                      try simp only [Φc, andThen_ret, andThen_exit, inBlk_normal, inBlk_ret, inBlk_exit, Φb, if_true, if_false, ↓reduceIte]
                      refine hK54 _ _ ?_
                      try clear hK54 K54
                      refine SX.seq_k fun K67 hK67 => ?_
                      obtain rfl : i = gs.length := by omega
                      have hS6 := S6.start hS
                      refine SX.region_d [some 15] rfl (fun ops hops => ?_)
                      unfold Dsts at hops
                      simp (maxSteps:=1000000)(dsimp:=false)(disch:=omega) only [go_sem, Φa, hP, h21_13, h21_0, hops]
                      refine hK67 _ _ ?_
                      try clear hK67 K67
                      refine SX.seq_k fun K68 hK68 => ?_
                      refine SX.seq_k fun K69 hK69 => ?_
                      refine SX.less lessI ?_
                      refine SX.region_d [some 16] rfl (fun ops hops => ?_)
                      unfold Dsts at hops
                      simp (maxSteps:=1000000)(dsimp:=false)(disch:=omega) only [go_sem, Φa, hP, h21_13, h21_0, hops]
                      refine hK69 _ _ ?_
                      try clear hK69 K69
                      refine SX.block ?_
                      refine SX.live [0, 15, 16] (fun T25 hT25 => ?_)
                      simp only [Φd, forall_mem_nil', go_sem, Φa, hP, h21_13, h21_0] at hT25
                      obtain ⟨h25_0, h25_15, h25_16⟩ := hT25
                      clear h21_13 h21_0 T21
                      refine SX.loop_k (fun (ss : (Nat) × (List Gf) × (Hp) × (Value) × (Slot)) T L' => (fun (i : Nat) (Gs : List Gf) (R : Hp) (vm : Value) (sm : Slot) => T 15 = vm ∧ T 16 = .int .i64 (i : Int) ∧ T 0 = T25 0 ∧ L' = sl :: sm :: (Gs.map Gf.s ++ R) ∧ (i ≤ gs.length ∧ S6 gs Gs R i ∧ Less R L ∧ RowM vm (Gs.take i) sm)) (ss.1) (ss.2.1) (ss.2.2.1) (ss.2.2.2.1) (ss.2.2.2.2)) (fun (ss : (Nat) × (List Gf) × (Hp) × (Value) × (Slot)) => (fun (i : Nat) (Gs : List Gf) (R : Hp) (vm : Value) (sm : Slot) => gs.length - i) (ss.1) (ss.2.1) (ss.2.2.1) (ss.2.2.2.1) (ss.2.2.2.2)) (0, Gs, R, .slice none 0 0, none) ?_ ?_
                      · try dsimp only
                        refine ⟨?_, ?_, ?_, ?_, ?_⟩
                        · first | exact h25_15 | (rw [h25_15]; rfl) | (rw [h25_15]; simp; done)
                        · first | exact h25_16 | (rw [h25_16]; rfl) | (rw [h25_16]; simp; done)
                        · rfl
                        · rfl
                        · exact ⟨Nat.zero_le _, hS6, hRL, RowL.nil _ _ _⟩
                      · intro ss T26 L26 hI K70 hK70
                        obtain ⟨i, Gs, R, vm, sm⟩ := ss
                        try dsimp only at hI hK70
                        simp only [h25_0] at hI hK70
                        obtain ⟨h26_15, h26_16, h26_0, hL26, ⟨hi, hS, hRL, hmore⟩⟩ := hI
                        replace hL26 := hL26.symm
                        subst hL26
                        clear h25_0 h25_15 h25_16 T25
                        refine SX.seq_k fun K71 hK71 => ?_
                        refine SX.seq_k fun K72 hK72 => ?_
                        refine SX.region_d [some 135, some 136, some 137, some 138] rfl (fun ops hops => ?_)
                        unfold Dsts at hops
                        simp (maxSteps:=1000000)(dsimp:=false)(disch:=omega) only [go_sem, Φa, hP, h26_15, h26_16, h26_0, hops]
                        repeat' ((first | refine And.intro (by omega) ?_ | fail); try (with_reducible refine stI ?_); try simp (maxSteps:=1000000)(dsimp:=false)(disch:=omega) only [go_sem, Φa, hP, h26_15, h26_16, h26_0, hops])
                        refine hK72 _ _ ?_
                        try clear hK72 K72
                        refine SX.cond_k fun X73 Y73 hX73 hY73 => ?_
                        simp (maxSteps:=1000000)(dsimp:=false)(disch:=omega) only [go_sem, Φa, hP, h26_15, h26_16, h26_0, condVC]
                        refine ⟨fun hc138 => hX73 ?_, fun hc138 => hY73 ?_⟩
                        · clear hX73 hY73 X73 Y73
                          refine SX.skip ?_
                          try simp only [Φc, andThen_ret, andThen_exit, inBlk_normal, inBlk_ret, inBlk_exit, Φb, if_true, if_false, ↓reduceIte]
                          refine hK71 _ _ ?_
                          try clear hK71 K71
                          refine SX.seq_k fun K74 hK74 => ?_
                          refine SX.block ?_
                          refine SX.seq_k fun K75 hK75 => ?_
                          have hil : i < gs.length := by omega
                          have hlw : i < Gs.length := by rw [hS.n]; exact hil
                          have hv17 := (hS.v i (Nat.le_refl _) hil).symm
                          have hra := rowsG_at_le hil
                          rw [← hrw] at hra
                          refine SX.region_d [some 141, some 142, some 143, some 144, some 145, some 17] rfl (fun ops hops => ?_)
                          unfold Dsts at hops
                          simp (maxSteps:=1000000)(dsimp:=false)(disch:=omega) only [go_sem, Φa, hP, h26_15, h26_16, h26_0, hops, ia_at hle, hv17]
                          refine ⟨_, hlat _ _ 0 rfl i hil 1 _ (by decide) rfl, ?_⟩
                          try with_reducible refine stI ?_
                          try simp (maxSteps:=1000000)(dsimp:=false)(disch:=omega) only [go_sem, Φa, hP, h26_15, h26_16, h26_0, hops, ia_at hle, hv17]
                          refine hK75 _ _ ?_
                          try clear hK75 K75
                          refine SX.live [0, 15, 16, 17] (fun T27 hT27 => ?_)
                          simp only [Φd, forall_mem_nil', go_sem, Φa, hP, h26_15, h26_16, h26_0] at hT27
                          obtain ⟨h27_0, h27_15, h27_16, h27_17⟩ := hT27
                          clear h26_15 h26_16 h26_0 T26
                          refine SX.seq_k fun K76 hK76 => ?_
                          refine SX.seq_k fun K77 hK77 => ?_
                          refine SX.region_d [some 18] rfl (fun ops hops => ?_)
                          unfold Dsts at hops
                          simp (maxSteps:=1000000)(dsimp:=false)(disch:=omega) only [go_sem, Φa, hP, h27_0, h27_15, h27_16, h27_17, hops]
                          refine hK77 _ _ ?_
                          try clear hK77 K77
                          refine SX.block ?_
                          refine SX.live [0, 15, 16, 17, 18] (fun T28 hT28 => ?_)
                          simp only [Φd, forall_mem_nil', go_sem, Φa, hP, h27_0, h27_15, h27_16, h27_17] at hT28
                          obtain ⟨h28_0, h28_15, h28_16, h28_17, h28_18⟩ := hT28
                          clear h27_0 h27_15 h27_16 h27_17 T27
                          refine SX.loop_k (fun (ss : (Nat) × (List Rw) × (Value) × (Slot) × (Hp)) T L' => (fun (k : Nat) (grs : List Rw) (gv : Value) (gq : Slot) (Rk : Hp) => T 17 = gv ∧ T 18 = .int .i64 (k : Int) ∧ T 0 = T28 0 ∧ T 15 = T28 15 ∧ T 16 = T28 16 ∧ L' = sl :: sm :: ((Gs.set i (⟨(Gs.getD i default).at_, (Gs.getD i default).sh, grs, gv, gq⟩ : Gf)).map Gf.s ++ Rk) ∧ (k ≤ 9 ∧ RowR gv grs gq ∧ (∀ w ∈ grs, Tw Rk (mrk i) w) ∧ grs.length ≤ (gs.getD i default).rs.length + k ∧ Less Rk L ∧ S6 gs Gs Rk i)) (ss.1) (ss.2.1) (ss.2.2.1) (ss.2.2.2.1) (ss.2.2.2.2)) (fun (ss : (Nat) × (List Rw) × (Value) × (Slot) × (Hp)) => (fun (k : Nat) (grs : List Rw) (gv : Value) (gq : Slot) (Rk : Hp) => 9 - k) (ss.1) (ss.2.1) (ss.2.2.1) (ss.2.2.2.1) (ss.2.2.2.2)) (0, (Gs.getD i default).rs, (Gs.getD i default).v, (Gs.getD i default).s, R) ?_ ?_
                          · try dsimp only
                            refine ⟨?_, ?_, ?_, ?_, ?_, ?_, ?_⟩
                            · first | exact h28_17 | (rw [h28_17]; rfl) | (rw [h28_17]; simp; done)
                            · first | exact h28_18 | (rw [h28_18]; rfl) | (rw [h28_18]; simp; done)
                            · rfl
                            · rfl
                            · rfl
                            · rw [set_self hlw]
                            · exact ⟨Nat.zero_le _, hS.ok i hil, hS.two i hil, hS.ln0 i (Nat.le_refl _) hil, hRL, hS⟩
                          · intro ss T29 L29 hI K78 hK78
                            obtain ⟨k, grs, gv, gq, Rk⟩ := ss
                            try dsimp only at hI hK78
                            simp only [h28_0, h28_15, h28_16] at hI hK78
                            obtain ⟨h29_17, h29_18, h29_0, h29_15, h29_16, hL29, ⟨hk, hgr, hgf, hgl, hRk, hSk⟩⟩ := hI
                            replace hL29 := hL29.symm
                            subst hL29
                            clear h28_0 h28_15 h28_16 h28_17 h28_18 T28
                            refine SX.seq_k fun K79 hK79 => ?_
                            refine SX.seq_k fun K80 hK80 => ?_
                            refine SX.region_d [some 146, some 147] rfl (fun ops hops => ?_)
                            unfold Dsts at hops
                            simp (maxSteps:=1000000)(dsimp:=false)(disch:=omega) only [go_sem, Φa, hP, h29_17, h29_18, h29_0, h29_15, h29_16, hops]
                            repeat' ((first | refine And.intro (by omega) ?_ | fail); try (with_reducible refine stI ?_); try simp (maxSteps:=1000000)(dsimp:=false)(disch:=omega) only [go_sem, Φa, hP, h29_17, h29_18, h29_0, h29_15, h29_16, hops])
                            refine hK80 _ _ ?_
                            try clear hK80 K80
                            refine SX.cond_k fun X81 Y81 hX81 hY81 => ?_
                            simp (maxSteps:=1000000)(dsimp:=false)(disch:=omega) only [go_sem, Φa, hP, h29_17, h29_18, h29_0, h29_15, h29_16, condVC]
                            refine ⟨fun hc147 => hX81 ?_, fun hc147 => hY81 ?_⟩
                            · clear hX81 hY81 X81 Y81
                              refine SX.skip ?_
                              try simp only [Φc, andThen_ret, andThen_exit, inBlk_normal, inBlk_ret, inBlk_exit, Φb, if_true, if_false, ↓reduceIte]
                              refine hK79 _ _ ?_
                              try clear hK79 K79
                              refine SX.seq_k fun K82 hK82 => ?_
                              refine SX.block ?_
                              have hgt46 : ∀ x : Slot, (x :: sl :: sm :: ((Gs.set i (⟨(Gs.getD i default).at_, (Gs.getD i default).sh, grs, gv, gq⟩ : Gf)).map Gf.s ++ Rk))[i + 3]? = some gq := fun x => (mapS_at (f := Gf.s) (by rw [List.length_set]; exact hlw)).trans (by rw [getD_set hlw, if_pos rfl])
                              refine SX.region_d [some 150, some 151, some 152, some 153, some 154, some 155, some 156, some 17] rfl (fun ops hops => ?_)
                              unfold Dsts at hops
                              simp (maxSteps:=1000000)(dsimp:=false)(disch:=omega) only [go_sem, Φa, hP, h29_17, h29_18, h29_0, h29_15, h29_16, hops, mrk_tmod, mrk_wrap]
                              intro g46
                              try with_reducible refine stI ?_
                              try simp (maxSteps:=1000000)(dsimp:=false)(disch:=omega) only [go_sem, Φa, hP, h29_17, h29_18, h29_0, h29_15, h29_16, hops, mrk_tmod, mrk_wrap]
                              intro h46
                              try with_reducible refine stI ?_
                              try simp (maxSteps:=1000000)(dsimp:=false)(disch:=omega) only [go_sem, Φa, hP, h29_17, h29_18, h29_0, h29_15, h29_16, hops, mrk_tmod, mrk_wrap]
                              refine YAppend.rowL (z := [.slice none 0 0]) (f := rwV) (x := twR g46 (mrk i)) (i := i + 3) (hP ▸ T.elS_39) (hP ▸ T.zr_50) rfl rfl rfl (hgt46 _) hgr (by omega) (by decide) ?_
                              intro v' s' hr'
                              try with_reducible refine stI ?_
                              try simp (maxSteps:=1000000)(dsimp:=false)(disch:=omega) only [go_sem, Φa, hP, h29_17, h29_18, h29_0, h29_15, h29_16, hops, mrk_tmod, mrk_wrap]
                              rw [show (((Gs.set i (⟨(Gs.getD i default).at_, (Gs.getD i default).sh, grs, gv, gq⟩ : Gf)).map Gf.s ++ Rk).set i s') = ((Gs.set i (⟨(Gs.getD i default).at_, (Gs.getD i default).sh, grs, gv, gq⟩ : Gf)).set i (⟨(Gs.getD i default).at_, (Gs.getD i default).sh, grs ++ [twR g46 (mrk i)], v', s'⟩ : Gf)).map Gf.s ++ Rk from mapS_set (f := Gf.s) (y := (⟨(Gs.getD i default).at_, (Gs.getD i default).sh, grs ++ [twR g46 (mrk i)], v', s'⟩ : Gf)) (by rw [List.length_set]; exact hlw)]
                              refine hK82 _ _ ?_
                              try clear hK82 K82
                              refine SX.live [0, 15, 16, 17, 18] (fun T30 hT30 => ?_)
                              simp only [Φd, forall_mem_nil', go_sem, Φa, hP, h29_17, h29_18, h29_0, h29_15, h29_16] at hT30
                              obtain ⟨h30_0, h30_15, h30_16, h30_17, h30_18⟩ := hT30
                              clear h29_17 h29_18 h29_0 h29_15 h29_16 T29
                              refine SX.region_d [some 148, some 149, some 18] rfl (fun ops hops => ?_)
                              unfold Dsts at hops
                              simp (maxSteps:=1000000)(dsimp:=false)(disch:=omega) only [go_sem, Φa, hP, h30_0, h30_15, h30_16, h30_17, h30_18, hops]
                              repeat' ((first | refine And.intro (by omega) ?_ | fail); try (with_reducible refine stI ?_); try simp (maxSteps:=1000000)(dsimp:=false)(disch:=omega) only [go_sem, Φa, hP, h30_0, h30_15, h30_16, h30_17, h30_18, hops])
                              refine hK78 (k + 1, grs ++ [twR g46 (mrk i)], v', s', (twR g46 (mrk i)).s :: Rk) _ (sl :: sm :: (((Gs.set i (⟨(Gs.getD i default).at_, (Gs.getD i default).sh, grs, gv, gq⟩ : Gf)).set i (⟨(Gs.getD i default).at_, (Gs.getD i default).sh, grs ++ [twR g46 (mrk i)], v', s'⟩ : Gf)).map Gf.s ++ (twR g46 (mrk i)).s :: Rk)) _ (by exact less6) ?_ ?_
                              · try dsimp only
                                refine ⟨?_, ?_, ?_, ?_, ?_, ?_, ?_⟩
                                · simp (maxSteps:=1000000)(dsimp:=false)(disch:=omega) only [go_sem, Φa, hP, h30_0, h30_15, h30_16, h30_17, h30_18]
                                  first | done | rfl | skip
                                · simp (maxSteps:=1000000)(dsimp:=false)(disch:=omega) only [go_sem, Φa, hP, h30_0, h30_15, h30_16, h30_17, h30_18]
                                  first | done | rfl | skip
                                · simp (maxSteps:=1000000)(dsimp:=false)(disch:=omega) only [go_sem, Φa, hP, h30_0, h30_15, h30_16, h30_17, h30_18]
                                · simp (maxSteps:=1000000)(dsimp:=false)(disch:=omega) only [go_sem, Φa, hP, h30_0, h30_15, h30_16, h30_17, h30_18]
                                · simp (maxSteps:=1000000)(dsimp:=false)(disch:=omega) only [go_sem, Φa, hP, h30_0, h30_15, h30_16, h30_17, h30_18]
                                · rw [List.set_set]
                                · refine ⟨by omega, hr', fun x hx => ?_, by show (grs ++ [_]).length ≤ _; rw [List.length_append, List.length_singleton]; omega, (Less.drop _ _).trans hRk, hSk.cons _⟩
                                  rcases List.mem_append.1 hx with hx | hx
                                  · exact (hgf x hx).cons _
                                  · rw [List.mem_singleton.1 hx]; exact Tw.new Rk g46 (mrk i)
                              · (try dsimp only); omega
                            · clear hX81 hY81 X81 Y81
                              refine SX.exit ?_
                              try simp only [Φc, andThen_ret, andThen_exit, inBlk_normal, inBlk_ret, inBlk_exit, Φb, if_true, if_false, ↓reduceIte]
                              refine hK76 _ _ ?_
                              try clear hK76 K76
                              obtain ⟨A', c', rfl, _, _⟩ := Row.form hgr
                              refine SX.region_d [some 157, some 158, some 159, some 160, some 15] rfl (fun ops hops => ?_)
                              unfold Dsts at hops
                              simp (maxSteps:=1000000)(dsimp:=false)(disch:=omega) only [go_sem, Φa, hP, h29_17, h29_18, h29_0, h29_15, h29_16, hops]
                              intro g47
                              try with_reducible refine stI ?_
                              try simp (maxSteps:=1000000)(dsimp:=false)(disch:=omega) only [go_sem, Φa, hP, h29_17, h29_18, h29_0, h29_15, h29_16, hops]
                              refine YAppend.rowL (L := sl :: sm :: ((Gs.set i (⟨(Gs.getD i default).at_, (Gs.getD i default).sh, grs, .slice A' grs.length c', gq⟩ : Gf)).map Gf.s ++ Rk)) (z := [.slice none 0 0]) (f := gmV) (x := (⟨(Gs.getD i default).at_, (Gs.getD i default).sh, grs, .slice A' grs.length c', gq⟩ : Gf)) (i := 1) (hP ▸ T.elS_69) (hP ▸ T.zr_39) rfl rfl rfl rfl hmore (by rw [List.length_take]; omega) (by decide) ?_
                              intro v' s' hr'
                              try with_reducible refine stI ?_
                              try simp (maxSteps:=1000000)(dsimp:=false)(disch:=omega) only [go_sem, Φa, hP, h29_17, h29_18, h29_0, h29_15, h29_16, hops]
                              refine hK74 _ _ ?_
                              try clear hK74 K74
                              refine SX.region_d [some 139, some 140, some 16] rfl (fun ops hops => ?_)
                              unfold Dsts at hops
                              simp (maxSteps:=1000000)(dsimp:=false)(disch:=omega) only [go_sem, Φa, hP, h29_17, h29_18, h29_0, h29_15, h29_16, hops]
                              repeat' ((first | refine And.intro (by omega) ?_ | fail); try (with_reducible refine stI ?_); try simp (maxSteps:=1000000)(dsimp:=false)(disch:=omega) only [go_sem, Φa, hP, h29_17, h29_18, h29_0, h29_15, h29_16, hops])
                              refine hK70 (i + 1, Gs.set i (⟨(Gs.getD i default).at_, (Gs.getD i default).sh, grs, .slice A' grs.length c', gq⟩ : Gf), Rk, v', s') _ (sl :: s' :: ((Gs.set i (⟨(Gs.getD i default).at_, (Gs.getD i default).sh, grs, .slice A' grs.length c', gq⟩ : Gf)).map Gf.s ++ Rk)) _ (by exact Less.drop _ _) ?_ ?_
                              · try dsimp only
                                refine ⟨?_, ?_, ?_, ?_, ?_⟩
                                · simp (maxSteps:=1000000)(dsimp:=false)(disch:=omega) only [go_sem, Φa, hP, h29_17, h29_18, h29_0, h29_15, h29_16]
                                  first | done | rfl | skip
                                · simp (maxSteps:=1000000)(dsimp:=false)(disch:=omega) only [go_sem, Φa, hP, h29_17, h29_18, h29_0, h29_15, h29_16]
                                  first | done | rfl | skip
                                · simp (maxSteps:=1000000)(dsimp:=false)(disch:=omega) only [go_sem, Φa, hP, h29_17, h29_18, h29_0, h29_15, h29_16]
                                · rfl
                                · exact ⟨by omega, hSk.next hil (by show grs.length ≤ _; omega) hgr hgf, hRk, by rw [take_set_succ hlw]; exact hr'⟩
                              · (try dsimp only); omega
                        · clear hX73 hY73 X73 Y73
                          refine SX.exit ?_
                          try simp only [Φc, andThen_ret, andThen_exit, inBlk_normal, inBlk_ret, inBlk_exit, Φb, if_true, if_false, ↓reduceIte]
                          refine hK68 _ _ ?_
                          try clear hK68 K68
                          refine SX.seq_k fun K83 hK83 => ?_
                          refine SX.seq_k fun K84 hK84 => ?_
                          obtain rfl : i = gs.length := by omega
                          have hnW := hS.n
                          rw [List.take_of_length_le (by omega)] at hmore
                          obtain ⟨MA, mc, ma, rfl, hmc, hme, hmat⟩ := RowM.anyM hmore
                          refine SX.region_d [some 19] rfl (fun ops hops => ?_)
                          unfold Dsts at hops
                          simp (maxSteps:=1000000)(dsimp:=false)(disch:=omega) only [go_sem, Φa, hP, h26_15, h26_16, h26_0, hops]
                          refine hK84 _ _ ?_
                          try clear hK84 K84
                          refine SX.block ?_
                          refine SX.live [15, 19] (fun T31 hT31 => ?_)
                          simp only [Φd, forall_mem_nil', go_sem, Φa, hP, h26_15, h26_16, h26_0] at hT31
                          obtain ⟨h31_15, h31_19⟩ := hT31
                          clear h26_15 h26_16 h26_0 T26
                          refine SX.loop_k (fun (ss : (Nat)) T L' => (fun (i : Nat) => T 19 = .int .i64 (i : Int) ∧ T 15 = T31 15 ∧ L' = sl :: sm :: (Gs.map Gf.s ++ R) ∧ (i ≤ Gs.length)) (ss)) (fun (ss : (Nat)) => (fun (i : Nat) => Gs.length - i) (ss)) 0 ?_ ?_
                          · try dsimp only
                            refine ⟨?_, ?_, ?_, ?_⟩
                            · first | exact h31_19 | (rw [h31_19]; rfl) | (rw [h31_19]; simp; done)
                            · rfl
                            · rfl
                            · exact Nat.zero_le _
                          · intro i T32 L32 hI K85 hK85
                            try dsimp only at hI hK85
                            simp only [h31_15] at hI hK85
                            obtain ⟨h32_19, h32_15, hL32, hi⟩ := hI
                            replace hL32 := hL32.symm
                            subst hL32
                            clear h31_15 h31_19 T31
                            refine SX.seq_k fun K86 hK86 => ?_
                            refine SX.seq_k fun K87 hK87 => ?_
                            refine SX.region_d [some 161, some 162, some 163, some 164] rfl (fun ops hops => ?_)
                            unfold Dsts at hops
                            simp (maxSteps:=1000000)(dsimp:=false)(disch:=omega) only [go_sem, Φa, hP, h32_19, h32_15, hops]
                            repeat' ((first | refine And.intro (by omega) ?_ | fail); try (with_reducible refine stI ?_); try simp (maxSteps:=1000000)(dsimp:=false)(disch:=omega) only [go_sem, Φa, hP, h32_19, h32_15, hops])
                            refine hK87 _ _ ?_
                            try clear hK87 K87
                            refine SX.cond_k fun X88 Y88 hX88 hY88 => ?_
                            simp (maxSteps:=1000000)(dsimp:=false)(disch:=omega) only [go_sem, Φa, hP, h32_19, h32_15, condVC]
                            refine ⟨fun hc164 => hX88 ?_, fun hc164 => hY88 ?_⟩
                            · clear hX88 hY88 X88 Y88
                              refine SX.skip ?_
                              try simp only [Φc, andThen_ret, andThen_exit, inBlk_normal, inBlk_ret, inBlk_exit, Φb, if_true, if_false, ↓reduceIte]
                              refine hK86 _ _ ?_
                              try clear hK86 K86
                              refine SX.seq_k fun K89 hK89 => ?_
                              refine SX.block ?_
                              refine SX.seq_k fun K90 hK90 => ?_
                              have hil : i < Gs.length := by omega
                              have hir : i < gs.length := by omega
                              obtain ⟨VA, vc, va, hvv, hvc, hve, hvat⟩ := RowR.anyR (hS.ok i hir)
                              have hgt2 : (sl :: sm :: (Gs.map Gf.s ++ R))[i + 2]? = some (Gs.getD i default).s := mapS_at (f := Gf.s) hil
                              refine SX.region_d [some 20] rfl (fun ops hops => ?_)
                              unfold Dsts at hops
                              simp (maxSteps:=1000000)(dsimp:=false)(disch:=omega) only [go_sem, Φa, hP, h32_19, h32_15, hops]
                              refine hK90 _ _ ?_
                              try clear hK90 K90
                              refine SX.block ?_
                              refine SX.live [15, 19, 20] (fun T33 hT33 => ?_)
                              simp only [Φd, forall_mem_nil', go_sem, Φa, hP, h32_19, h32_15] at hT33
                              obtain ⟨h33_15, h33_19, h33_20⟩ := hT33
                              clear h32_19 h32_15 T32
                              refine SX.loop_k (fun (ss : (Nat)) T L' => (fun (k : Nat) => T 20 = .int .i64 (k : Int) ∧ T 15 = T33 15 ∧ T 19 = T33 19 ∧ L' = sl :: sm :: (Gs.map Gf.s ++ R) ∧ (k ≤ (Gs.getD i default).rs.length)) (ss)) (fun (ss : (Nat)) => (fun (k : Nat) => (Gs.getD i default).rs.length - k) (ss)) 0 ?_ ?_
                              · try dsimp only
                                refine ⟨?_, ?_, ?_, ?_, ?_⟩
                                · first | exact h33_20 | (rw [h33_20]; rfl) | (rw [h33_20]; simp; done)
                                · rfl
                                · rfl
                                · rfl
                                · exact Nat.zero_le _
                              · intro k T34 L34 hI K91 hK91
                                try dsimp only at hI hK91
                                simp only [h33_15, h33_19] at hI hK91
                                obtain ⟨h34_20, h34_15, h34_19, hL34, hk⟩ := hI
                                replace hL34 := hL34.symm
                                subst hL34
                                clear h33_15 h33_19 h33_20 T33
                                refine SX.seq_k fun K92 hK92 => ?_
                                refine SX.seq_k fun K93 hK93 => ?_
                                refine SX.region_d [some 167, some 168, some 169, some 170, some 171, some 172, some 173] rfl (fun ops hops => ?_)
                                unfold Dsts at hops
                                simp (maxSteps:=1000000)(dsimp:=false)(disch:=omega) only [go_sem, Φa, hP, h34_20, h34_15, h34_19, hops, ia_at hme, hvv]
                                refine ⟨_, hmat _ _ 1 rfl i hil, ?_⟩
                                try with_reducible refine stI ?_
                                try simp (maxSteps:=1000000)(dsimp:=false)(disch:=omega) only [go_sem, Φa, hP, h34_20, h34_15, h34_19, hops, ia_at hme, hvv]
                                refine hK93 _ _ ?_
                                try clear hK93 K93
                                refine SX.cond_k fun X94 Y94 hX94 hY94 => ?_
                                simp (maxSteps:=1000000)(dsimp:=false)(disch:=omega) only [go_sem, Φa, hP, h34_20, h34_15, h34_19, condVC]
                                refine ⟨fun hc173 => hX94 ?_, fun hc173 => hY94 ?_⟩
                                · clear hX94 hY94 X94 Y94
                                  refine SX.skip ?_
                                  try simp only [Φc, andThen_ret, andThen_exit, inBlk_normal, inBlk_ret, inBlk_exit, Φb, if_true, if_false, ↓reduceIte]
                                  refine hK92 _ _ ?_
                                  try clear hK92 K92
                                  refine SX.seq_k fun K95 hK95 => ?_
                                  refine SX.block ?_
                                  refine SX.seq_k fun K96 hK96 => ?_
                                  refine SX.region_xd [some 176, some 177, some 178, some 179, some 180, some 181, some 182, some 183, some 184, some 185, some 186, some 187, some 188, some 189, some 190, some 191, some 192, some 193, some 194, some 195, some 196, some 197, some 198, some 199] rfl (fun ops hops => ?_)
                                  unfold Dsts at hops
                                  refine RX.live [15, 19, 20] (fun T35 hT35 => ?_)
                                  simp only [Φd, forall_mem_nil', go_sem, Φa, hP, h34_20, h34_15, h34_19] at hT35
                                  obtain ⟨h35_15, h35_19, h35_20⟩ := hT35
                                  clear h34_20 h34_15 h34_19 T34
                                  have hkl : k < (Gs.getD i default).rs.length := by omega
                                  obtain ⟨htl, htr, htm⟩ := hS.two i hir _ (getD_mem hkl)
                                  rw [htl] at htr
                                  obtain ⟨WA, wc, wa, hwv, hwc, hwe, hwat⟩ := RowI.any htr
                                  have hmem : ((Gs.getD i default).rs.getD k default).s ∈ sl :: sm :: (Gs.map Gf.s ++ R) := List.mem_cons_of_mem _ (List.mem_cons_of_mem _ (List.mem_append_right _ htm))
                                  obtain ⟨q, hq⟩ := List.mem_iff_getElem?.1 hmem
                                  rw [show ([mrk i, 7] : List Int).length = 2 from rfl] at hwv hwe
                                  refine RX.join 24 (fun (ss : Unit) T L' => T 199 = .bool (false) ∧ T 15 = T35 15 ∧ T 19 = T35 19 ∧ T 20 = T35 20 ∧ L' = sl :: sm :: (Gs.map Gf.s ++ R) ∧ (True)) (fun K97 hK97 => ?_) ?_
                                  · simp only [h35_15, h35_19, h35_20] at hK97
                                    simp (maxSteps:=1000000)(dsimp:=false)(disch:=omega) only [go_sem, Φa, hP, h35_15, h35_19, h35_20, hops, ia_at hme, ia_at hve, ia_at hwe, hvv, hwv, mrk_tmod, mrk_wrap, List.getD_cons_zero]
                                    repeat' (first | refine iteB (fun hg => ?_) (fun hg => ?_) | refine iteI (fun hg => ?_) (fun hg => ?_) | ((first | refine ⟨_, hmat _ _ 1 rfl i hil, ?_⟩ | refine ⟨_, hvat _ _ (i + 2) hgt2 k hkl, ?_⟩ | refine ⟨_, hwat _ _ q hq 0 (Nat.zero_lt_succ 1), ?_⟩ | refine And.intro (by omega) ?_ | refine ⟨_, Cell.at 0 rfl rfl, ?_⟩ | refine ⟨_, Cell.at 1 rfl rfl, ?_⟩ | fail); try (with_reducible refine stI ?_); try simp (maxSteps:=1000000)(dsimp:=false)(disch:=omega) only [go_sem, Φa, hP, h35_15, h35_19, h35_20, hops, ia_at hme, ia_at hve, ia_at hwe, hvv, hwv, mrk_tmod, mrk_wrap, List.getD_cons_zero]) | fail)
                                    all_goals
                                      refine hK97 () _ (sl :: sm :: (Gs.map Gf.s ++ R)) _ (by first | exact Less.refl _ | exact Less.drop _ _ | exact Less.drops (Less.drop _ _) | exact Less.drops (Less.drops (Less.drop _ _)) | exact Less.drops (Less.drops (Less.drops (Less.drop _ _))) | exact Less.drops (Less.drops (Less.drops (Less.drops (Less.drop _ _))))) ?_
                                      try dsimp only
                                      refine ⟨?_, ?_, ?_, ?_, ?_, ?_⟩
                                      · simp (maxSteps:=1000000)(dsimp:=false)(disch:=omega) only [go_sem, Φa, hP, h35_15, h35_19, h35_20]
                                        first | done | rfl | (simp; done)
                                      · simp (maxSteps:=1000000)(dsimp:=false)(disch:=omega) only [go_sem, Φa, hP, h35_15, h35_19, h35_20]
                                      · simp (maxSteps:=1000000)(dsimp:=false)(disch:=omega) only [go_sem, Φa, hP, h35_15, h35_19, h35_20]
                                      · simp (maxSteps:=1000000)(dsimp:=false)(disch:=omega) only [go_sem, Φa, hP, h35_15, h35_19, h35_20]
                                      · rfl
                                      · trivial
                                  · intro ss T36 L36 hI
                                    simp only [h35_15, h35_19, h35_20] at hI 
                                    obtain ⟨h36_199, h36_15, h36_19, h36_20, hL36, hinv⟩ := hI
                                    replace hL36 := hL36.symm
                                    subst hL36
                                    clear h35_15 h35_19 h35_20 T35
                                    refine RX.done ?_
                                    simp (maxSteps:=1000000)(dsimp:=false)(disch:=omega) only [go_sem, Φa, hP, h36_199, h36_15, h36_19, h36_20, hops]
                                    refine hK96 _ _ ?_
                                    try clear hK96 K96
                                    refine SX.cond_k fun X98 Y98 hX98 hY98 => ?_
                                    simp (maxSteps:=1000000)(dsimp:=false)(disch:=omega) only [go_sem, Φa, hP, h36_199, h36_15, h36_19, h36_20, condVC]
                                    refine hY98 ?_
                                    clear hX98 hY98 X98 Y98
                                    refine SX.skip ?_
                                    try simp only [Φc, andThen_ret, andThen_exit, inBlk_normal, inBlk_ret, inBlk_exit, Φb, if_true, if_false, ↓reduceIte]
                                    refine hK95 _ _ ?_
                                    try clear hK95 K95
                                    refine SX.region_d [some 174, some 175, some 20] rfl (fun ops hops => ?_)
                                    unfold Dsts at hops
                                    simp (maxSteps:=1000000)(dsimp:=false)(disch:=omega) only [go_sem, Φa, hP, h36_199, h36_15, h36_19, h36_20, hops]
                                    repeat' ((first | refine And.intro (by omega) ?_ | fail); try (with_reducible refine stI ?_); try simp (maxSteps:=1000000)(dsimp:=false)(disch:=omega) only [go_sem, Φa, hP, h36_199, h36_15, h36_19, h36_20, hops])
                                    refine hK91 (k + 1) _ (sl :: sm :: (Gs.map Gf.s ++ R)) _ (by exact Less.refl _) ?_ ?_
                                    · try dsimp only
                                      refine ⟨?_, ?_, ?_, ?_, ?_⟩
                                      · simp (maxSteps:=1000000)(dsimp:=false)(disch:=omega) only [go_sem, Φa, hP, h36_199, h36_15, h36_19, h36_20]
                                        first | done | rfl | skip
                                      · simp (maxSteps:=1000000)(dsimp:=false)(disch:=omega) only [go_sem, Φa, hP, h36_199, h36_15, h36_19, h36_20]
                                      · simp (maxSteps:=1000000)(dsimp:=false)(disch:=omega) only [go_sem, Φa, hP, h36_199, h36_15, h36_19, h36_20]
                                      · rfl
                                      · omega
                                    · (try dsimp only); omega
                                · clear hX94 hY94 X94 Y94
                                  refine SX.exit ?_
                                  try simp only [Φc, andThen_ret, andThen_exit, inBlk_normal, inBlk_ret, inBlk_exit, Φb, if_true, if_false, ↓reduceIte]
                                  refine hK89 _ _ ?_
                                  try clear hK89 K89
                                  refine SX.region_d [some 165, some 166, some 19] rfl (fun ops hops => ?_)
                                  unfold Dsts at hops
                                  simp (maxSteps:=1000000)(dsimp:=false)(disch:=omega) only [go_sem, Φa, hP, h34_20, h34_15, h34_19, hops]
                                  repeat' ((first | refine And.intro (by omega) ?_ | fail); try (with_reducible refine stI ?_); try simp (maxSteps:=1000000)(dsimp:=false)(disch:=omega) only [go_sem, Φa, hP, h34_20, h34_15, h34_19, hops])
                                  refine hK85 (i + 1) _ (sl :: sm :: (Gs.map Gf.s ++ R)) _ (by exact Less.refl _) ?_ ?_
                                  · try dsimp only
                                    refine ⟨?_, ?_, ?_, ?_⟩
                                    · simp (maxSteps:=1000000)(dsimp:=false)(disch:=omega) only [go_sem, Φa, hP, h34_20, h34_15, h34_19]
                                      first | done | rfl | skip
                                    · simp (maxSteps:=1000000)(dsimp:=false)(disch:=omega) only [go_sem, Φa, hP, h34_20, h34_15, h34_19]
                                    · rfl
                                    · omega
                                  · (try dsimp only); omega
                            · clear hX88 hY88 X88 Y88
                              refine SX.exit ?_
                              try simp only [Φc, andThen_ret, andThen_exit, inBlk_normal, inBlk_ret, inBlk_exit, Φb, if_true, if_false, ↓reduceIte]
                              refine hK83 _ _ ?_
                              try clear hK83 K83
                              refine SX.seq_k fun K99 hK99 => ?_
                              refine SX.region_d [some 2] rfl (fun ops hops => ?_)
                              unfold Dsts at hops
                              simp (maxSteps:=1000000)(dsimp:=false)(disch:=omega) only [go_sem, Φa, hP, h32_19, h32_15, hops]
                              refine hK99 _ _ ?_
                              try clear hK99 K99
                              refine SX.ret ?_
                              simp only [Φc, andThen_ret, andThen_exit, inBlk_normal, inBlk_ret, inBlk_exit, Φb, if_true, if_false, ↓reduceIte, retQ_ret]
                              try simp only [res0, res1, res2, res3, stK_e, go_sem, Φa, hP, h32_19, h32_15]
                              exact ⟨_, _, lessEnd hRL, rfl, rfl, rfl⟩

end Go.Proofs.YtpakphgeichopaaDoor
set_option linter.unusedVariables false
set_option linter.unusedSimpArgs false
namespace Go.Proofs.YtpakphgeichopaaDoor
open Go.RowKit Go.SX
/-! The document's way from text to frame, and that it is the program's. -/
end Go.Proofs.YtpakphgeichopaaDoor
set_option linter.unusedVariables false
set_option linter.unusedSimpArgs false
namespace Go.Proofs.YtpakphgeichopaaDoor
open Go.RowKit Go.SX Go.Proofs

instance : Inhabited ByteArray := ⟨⟨#[]⟩⟩
end Go.Proofs.YtpakphgeichopaaDoor
set_option linter.unusedVariables false
set_option linter.unusedSimpArgs false
namespace Go.Proofs.YtpakphgeichopaaDoor
open Go.RowKit Go.SX Go.Proofs

end Go.Proofs.YtpakphgeichopaaDoor
set_option linter.unusedVariables false
set_option linter.unusedSimpArgs false
namespace Go.Proofs.YtpakphgeichopaaDoor
open Go.RowKit Go.SX Go.Proofs

theorem SCall.pre {Γ : Ctx} {f : FuncId} {args : Array Value} {L L1 : Hp} {R : Value → Hp → Prop} (hl : Less L L1) (h : SCall Γ f args L1 R) : SCall Γ f args L R := fun w hi => h w (hl _ _ hi)
end Go.Proofs.YtpakphgeichopaaDoor
set_option linter.unusedVariables false
namespace Go.Proofs.YtpakphgeichopaaDoor
open Go.ChangeShapes Go.WideShapes Go.ChangeAt Go.RowKit Go.SX
/-! What is handed in: rasters, records, frames; the laid variable. -/
theorem own : ownKnob Tryd.prog.godebug = none := by kernel_rfl
theorem laidOut : laidOutB Tryd.prog = true := by kernel_rfl
theorem cells3 : Tryd.prog.cellsOf 3 = 1 := by kernel_rfl
theorem cellsE : Tryd.prog.cellsOf 89 = 2 := by kernel_rfl
theorem cellsS : Tryd.prog.cellsOf 90 = 2 := by kernel_rfl
theorem gSh : Tryd.prog.globalNamed "vesper/pixie.shown" = some 0 := by kernel_rfl
theorem tSh : (Tryd.prog.globals[0]?).map (·.type) = some 90 := by kernel_rfl
theorem shown_of {W : World} {laid : List (String × DataW Unit)} (hp : (laid.all fun x => x.2.handleName?.isNone) = true) (hL : laidMetH Tryd.prog laid W) (hm : ("vesper/pixie.shown", Rows.laid_vesper_pixie_shown) ∈ laid) : SH ⟨Tryd.prog, W, []⟩ := by
  obtain ⟨cs, f, p, h1, h2⟩ := laid_var hp hL hm gSh tSh
  have key := trod_arr_arr (zss := [[80, 207]]) Tryd.underlying90 Tryd.underlying89 Tryd.underlying3 cells3 cellsE cellsS (by intro zs hz; rw [List.mem_singleton.1 hz]; rfl) h1 rfl
  intro L i b hb
  have hi : ([[80, 207]] : List (List Int))[i]? = some [b.1, b.2] := by
    cases i with
    | zero => simp at hb; subst hb; rfl
    | succ i => simp at hb
  constructor
  · refine Cell.old (by simp) ?_
    rw [Addr.add_lit, Nat.zero_add, h2]
    exact key i 0 _ _ hi rfl
  · refine Cell.old (by simp) ?_
    rw [Addr.add_lit, Nat.zero_add, h2]
    exact key i 1 _ _ hi rfl
theorem flat24 : flatK Tryd.prog 9 24 = some [.i .i64, .i .i64, .b, .i .i64] := by kernel_rfl
theorem flat29 : flatK Tryd.prog 9 29 = some [.i .u8, .i .u16, .i .u8, .b, .b, .i .u8, .b, .i .u8] := by kernel_rfl
section
variable {H : Type} {enc : TypeId × Value → H} {W : World} {base : Nat} {v : Value} {d : DataW H} {p : List MemPlace}
theorem open_ras (hv : Value.okWide Tryd.prog W .any base 24 v) (h : DataW.Trod enc Tryd.prog W 0 (fun _ => true) true 24 v d p) :
    ∃ x : Ras, v = .agg #[.int .i64 x.1, .int .i64 x.2.1, .bool x.2.2.1, .int .i64 x.2.2.2] ∧ (Lit.int .i64 x.1).wf = true ∧ (Lit.int .i64 x.2.1).wf = true ∧ (Lit.int .i64 x.2.2.2).wf = true := by
  obtain ⟨cs, rfl, _⟩ := okWide_struct Tryd.underlying24 hv
  have hk := open_flat flat24 h
  obtain ⟨l, v1, e1, h1, hk⟩ := okVs_i hk
  obtain ⟨c, v2, e2, h2, hk⟩ := okVs_i hk
  obtain ⟨o, v3, e3, hk⟩ := okVs_b hk
  obtain ⟨g, v4, e4, h3, hk⟩ := okVs_i hk
  have e5 := okVs_nil hk
  subst e5 e4 e3 e2
  exact ⟨(l, c, o, g), congrArg Value.agg (Array.toList_inj.1 e1), h1, h2, h3⟩
theorem rc_of {cs : List Value} (hk : okVs [.i .u8, .i .u16, .i .u8, .b, .b, .i .u8, .b, .i .u8] cs = true) : ∃ r : Rc, cs = r.cells ∧ 0 ≤ r.data ∧ r.data ≤ 255 ∧ (Lit.int .u8 r.code).wf = true ∧ (Lit.int .u16 r.ad).wf = true ∧ (Lit.int .u8 r.data).wf = true ∧ (Lit.int .u8 r.port).wf = true ∧ (Lit.int .u8 r.md).wf = true := by
  obtain ⟨c0, v1, e1, h1, hk⟩ := okVs_i hk
  obtain ⟨c1, v2, e2, h2, hk⟩ := okVs_i hk
  obtain ⟨c2, v3, e3, h3, hk⟩ := okVs_i hk
  obtain ⟨c3, v4, e4, hk⟩ := okVs_b hk
  obtain ⟨c4, v5, e5, hk⟩ := okVs_b hk
  obtain ⟨c5, v6, e6, h6, hk⟩ := okVs_i hk
  obtain ⟨c6, v7, e7, hk⟩ := okVs_b hk
  obtain ⟨c7, v8, e8, h8, hk⟩ := okVs_i hk
  have e9 := okVs_nil hk
  subst e9 e8 e7 e6 e5 e4 e3 e2 e1
  have hb := bounds_u8 h3
  exact ⟨⟨c0, c1, c2, c3, c4, c5, c6, c7⟩, rfl, by dsimp only; omega, by dsimp only; omega, h1, h2, h3, h6, h8⟩
def OkRc (r : Rc) : Prop := 0 ≤ r.data ∧ r.data ≤ 255 ∧ (Lit.int .u8 r.code).wf = true ∧ (Lit.int .u16 r.ad).wf = true ∧ (Lit.int .u8 r.data).wf = true ∧ (Lit.int .u8 r.port).wf = true ∧ (Lit.int .u8 r.md).wf = true
theorem open_recs (hv : Value.okWide Tryd.prog W .any base 25 v) (h : DataW.Trod enc Tryd.prog W 0 (fun _ => true) true 25 v d p) :
    ∃ l : List Rc, SlC (Cell ⟨Tryd.prog, W, []⟩ []) v l ∧ (∀ r ∈ l, OkRc r) ∧ l.length ≤ 9223372036854775807 := by
  have hkk : Tryd.prog.cellsOf 29 = 8 := by kernel_rfl
  obtain ⟨l, ⟨A, c, h1, h2, h3⟩, hl⟩ := open_slRT (R := fun cs (r : Rc) => cs = r.cells ∧ OkRc r) Tryd.underlying25 hkk (fun n cs y hy => rc_of (trod_flat 9 29 _ _ _ _ flat29 hy)) hv h
  refine ⟨l, ⟨A, c, h1, h2, fun j x hj => ?_⟩, fun r hr => ?_, hl⟩
  · obtain ⟨a, ha, cs, _, ⟨rfl, _⟩, k⟩ := h3 j x hj
    exact ⟨a, ha, k⟩
  · obtain ⟨j, hj⟩ := List.mem_iff_getElem?.1 hr
    obtain ⟨a, ha, cs, _, ⟨_, k⟩, _⟩ := h3 j r hj
    exact k
/-- Rows of bytes that are handed in. -/
def RowsIn (W : World) (v : Value) (l : List (List Int)) : Prop := SlR (Cell ⟨Tryd.prog, W, []⟩ []) v l ∧ (∀ r ∈ l, Byte r ∧ r.length ≤ 9223372036854775807) ∧ l.length ≤ 9223372036854775807
theorem RowsIn.by_ {rv : Value} {l : List (List Int)} (h : RowsIn W rv l) : ∀ i, i < l.length → ∀ j, j < (l.getD i []).length → 0 ≤ (l.getD i []).getD j 0 ∧ (l.getD i []).getD j 0 ≤ 255 := fun i hi j hj => by
  have hm := (h.2.1 _ (List.mem_of_getElem? (getD_get (d := []) hi))).1
  exact hm _ (List.mem_of_getElem? (getD_get (d := 0) hj))
end
end Go.Proofs.YtpakphgeichopaaDoor
set_option linter.unusedVariables false
set_option linter.unusedSimpArgs false
namespace Go.Proofs.YtpakphgeichopaaDoor
open Go.RowKit Go.SX
/-! Frames of Of's as 'lists' wants them; records compared. -/
theorem eqT_29 : EqT Tryd.prog 29 [.i .u8, .i .u16, .i .u8, .b, .b, .i .u8, .b, .i .u8] := ⟨by kernel_rfl, by kernel_rfl, by kernel_rfl, by kernel_rfl, by kernel_rfl⟩
theorem okV_Rc {r : Rc} (h : OkRc r) : okVs [.i .u8, .i .u16, .i .u8, .b, .b, .i .u8, .b, .i .u8] r.cells = true := by
  obtain ⟨_, _, h1, h2, h3, h4, h5⟩ := h
  show okVs _ [.int .u8 r.code, .int .u16 r.ad, .int .u8 r.data, .bool r.rd, .bool r.wr, .int .u8 r.port, .bool r.q, .int .u8 r.md] = true
  simp only [okVs, okV, h1, h2, h3, h4, h5, decide_true, Bool.and_true, Bool.true_and, and_self]
def rsOf (p : Ff) : List Rw := (List.range 128).map fun j => ⟨p.1.rows.getD j [], p.2.vals.getD j undef, p.2.ss.getD j none⟩
def gOf (p : Ff) : Gf := ⟨p.1.at_, p.1.sh, rsOf p, p.2.val, some (p.2.g, .cells p.2.vals.toArray 50 (0, 0))⟩
theorem list128 {α : Type} {l : List α} {d : α} (h : l.length = 128) : (List.range 128).map (fun j => l.getD j d) = l := by
  refine List.ext_getElem? fun j => ?_
  by_cases hj : j < 128
  · rw [List.getElem?_map, List.getElem?_range hj, getD_get (d := d) (by omega)]; rfl
  · rw [List.getElem?_eq_none (by simp; omega), List.getElem?_eq_none (by omega)]
theorem rsOf_len (p : Ff) : (rsOf p).length = 128 := by unfold rsOf; rw [List.length_map, List.length_range]
theorem rsOf_v {p : Ff} (h : FdOk p.1.rows p.2) : (rsOf p).flatMap rwV = p.2.vals := by
  rw [rwV_map]
  unfold rsOf
  rw [List.map_map]
  exact list128 (d := undef) h.nv
theorem rsOf_s {p : Ff} (h : FdOk p.1.rows p.2) : (rsOf p).map Rw.s = p.2.ss := by
  unfold rsOf
  rw [List.map_map]
  exact list128 (d := none) h.ns
theorem rsOf_ok {p : Ff} (h : FdOk p.1.rows p.2) : RwsOk (rsOf p) := fun w hw => by
  unfold rsOf at hw
  obtain ⟨j, hj, rfl⟩ := List.mem_map.1 hw
  exact h.row j (List.mem_range.1 hj)
theorem gOf_row {p : Ff} (h : FdOk p.1.rows p.2) : RowR (gOf p).v (gOf p).rs (gOf p).s := by
  have h1 := Row.lit (e := 50) (sz := 1) (b := p.2.g) (n := 128) (xs := p.2.vals) (by rw [h.nv]) (by decide)
  show Row 50 1 p.2.val (rsOf p).length ((rsOf p).flatMap rwV) _
  rw [rsOf_len, rsOf_v h]
  exact h1
theorem gOf_flat (fs : List Ff) : (fs.map gOf).flatMap gfV = fs.flatMap fval := by
  induction fs with
  | nil => rfl
  | cons p fs ih => rw [List.map_cons, List.flatMap_cons, List.flatMap_cons, ih]; rfl
theorem gOf_rowG {v : Value} {fs : List Ff} {s : Slot} (h : RowF v fs s) : RowG v (fs.map gOf) s := by
  show Row 41 3 v (fs.map gOf).length ((fs.map gOf).flatMap gfV) s
  rw [List.length_map, gOf_flat]
  exact h
theorem gOf_ok {fs : List Ff} (h : FsOk fs) : GsOk (fs.map gOf) := fun j hj => by
  rw [List.length_map] at hj
  have e : (fs.map gOf).getD j default = gOf fs[j] := by rw [List.getD_eq_getElem?_getD, List.getElem?_map, List.getElem?_eq_getElem hj]; rfl
  rw [e]
  exact gOf_row (h _ (List.getElem_mem hj))
theorem rowsG_map (fs : List Ff) : rowsG (fs.map gOf) = fs.flatMap rsOf := by
  unfold rowsG
  induction fs with
  | nil => rfl
  | cons p fs ih => rw [List.map_cons, List.flatMap_cons, List.flatMap_cons, ih]; rfl
theorem rows_rws {fs : List Ff} (h : FsOk fs) : RwsOk (fs.flatMap rsOf) := fun w hw => by
  obtain ⟨p, hp, hw⟩ := List.mem_flatMap.1 hw
  exact rsOf_ok (h p hp) w hw
theorem rows_len (fs : List Ff) : (fs.flatMap rsOf).length = 128 * fs.length := by
  induction fs with
  | nil => rfl
  | cons p fs ih => rw [List.flatMap_cons, List.length_append, rsOf_len, ih, List.length_cons]; omega
theorem rows_bnd {fs : List Ff} {m : Nat} (h : ∀ f ∈ fs.map (·.1), cnt f.rows ≤ m ∧ f.rows.length = 128) : ∀ w ∈ fs.flatMap rsOf, w.l.length ≤ m := fun w hw => by
  obtain ⟨p, hp, hw⟩ := List.mem_flatMap.1 hw
  unfold rsOf at hw
  obtain ⟨j, hj, rfl⟩ := List.mem_map.1 hw
  obtain ⟨h1, h2⟩ := h p.1 (List.mem_map_of_mem hp)
  have := cnt_at (l := p.1.rows) (k := j) (by have := List.mem_range.1 hj; omega)
  show (p.1.rows.getD j []).length ≤ m
  omega
theorem segs_perm : ∀ {fs : List Ff}, FsOk fs → (segs fs).Perm ((fs.flatMap rsOf).map Rw.s ++ (fs.map gOf).map Gf.s)
  | [], _ => .refl _
  | p :: fs, h => by
    have ih := segs_perm (fs := fs) fun q hq => h q (List.mem_cons_of_mem _ hq)
    have hp := h p (List.mem_cons_self ..)
    rw [segs, List.flatMap_cons, List.map_append, rsOf_s hp, List.map_cons, List.map_cons]
    show (segs fs ++ ((gOf p).s :: p.2.ss)).Perm _
    have h1 : (segs fs ++ ((gOf p).s :: p.2.ss)).Perm ((gOf p).s :: (segs fs ++ p.2.ss)) := List.perm_middle
    have h2 : ((gOf p).s :: (segs fs ++ p.2.ss)).Perm ((gOf p).s :: (p.2.ss ++ ((fs.flatMap rsOf).map Rw.s ++ (fs.map gOf).map Gf.s))) := .cons _ (List.perm_append_comm.trans (List.Perm.append_left _ ih))
    have h3 : ((gOf p).s :: (p.2.ss ++ ((fs.flatMap rsOf).map Rw.s ++ (fs.map gOf).map Gf.s))).Perm (p.2.ss ++ ((fs.flatMap rsOf).map Rw.s) ++ (gOf p).s :: (fs.map gOf).map Gf.s) := by
      rw [← List.append_assoc]
      exact List.perm_middle.symm
    exact h1.trans (h2.trans h3)
theorem lessO {X : Hp} {s : Slot} {fs : List Ff} {R : Hp} (h : FsOk fs) : Less (X ++ s :: (segs fs ++ R)) (s :: ((fs.flatMap rsOf).map Rw.s ++ ((fs.map gOf).map Gf.s ++ (X ++ R)))) := by
  refine Less.perm ?_
  have h1 : (X ++ s :: (segs fs ++ R)).Perm (s :: (X ++ (segs fs ++ R))) := List.perm_middle
  refine h1.trans (.cons _ ?_)
  have h2 : (X ++ (segs fs ++ R)).Perm (segs fs ++ (X ++ R)) := by
    rw [← List.append_assoc, ← List.append_assoc]
    exact List.Perm.append_right _ List.perm_append_comm
  refine h2.trans ?_
  rw [← List.append_assoc ((fs.flatMap rsOf).map Rw.s)]
  exact List.Perm.append_right _ (segs_perm h)
theorem lessO2 {s1 s2 s3 : Slot} {M3 M2 : Hp} {fs : List Ff} {R : Hp} (h : FsOk fs) : Less (s3 :: (M3 ++ (s2 :: (M2 ++ (s1 :: (segs fs ++ R)))))) (s1 :: ((fs.flatMap rsOf).map Rw.s ++ ((fs.map gOf).map Gf.s ++ (s3 :: (M3 ++ (s2 :: (M2 ++ R))))))) := by
  have h1 := lessO (X := s3 :: (M3 ++ s2 :: M2)) (s := s1) (R := R) h
  simpa using h1
def markR : Rc := { (default : Rc) with code := 77 }
end Go.Proofs.YtpakphgeichopaaDoor
set_option linter.unusedVariables false
set_option linter.unusedSimpArgs false
namespace Go.Proofs.YtpakphgeichopaaDoor
open Go.RowKit Go.SX Go.Proofs
open Go.SX renaming ia_someH → Φa
set_option maxHeartbeats 1000000 in
set_option maxRecDepth 100000 in
theorem Apart_spec {Γ : Ctx} (hP : Γ.P = Tryd.prog) {L : Hp} {va vb : Value} {l : List Rc} (ha : SlC (Cell Γ L) va l) (hb : SlC (Cell Γ L) vb l) (ho : ∀ r ∈ l, OkRc r) (hlm : l.length ≤ 9000000000000000000) :
    SCall Γ 13 #[va, vb] L (fun v L' => v = .int .i64 (-1) ∧ L' = L) := by
  obtain ⟨A, c, rfl, hc⟩ := Sl.shape ha
  obtain ⟨B, d, rfl, hd⟩ := Sl.shape hb
  obtain ⟨a1, e1, _, hA⟩ := Sl.at1 ha
  obtain ⟨b1, e2, _, hB⟩ := Sl.at1 hb
  refine SCall.enter (n := 38) (res1 4) (hP ▸ Tryd.func13) rfl rfl (by simp) (res1_ok rfl) ?_
  refine SX.seq_k fun K1 hK1 => ?_
  refine SX.region_d [some 4] rfl (fun ops hops => ?_)
  unfold Dsts at hops
  simp (maxSteps:=1000000)(dsimp:=false)(disch:=omega) only [go_sem, Φa, hP, hops]
  refine hK1 _ _ ?_
  try clear hK1 K1
  refine SX.seq_k fun K2 hK2 => ?_
  refine SX.seq_k fun K3 hK3 => ?_
  refine SX.region_d [some 5] rfl (fun ops hops => ?_)
  unfold Dsts at hops
  simp (maxSteps:=1000000)(dsimp:=false)(disch:=omega) only [go_sem, Φa, hP, hops]
  refine hK3 _ _ ?_
  try clear hK3 K3
  refine SX.block ?_
  refine SX.live [0, 1, 5] (fun T1 hT1 => ?_)
  simp only [forall_mem_cons', forall_mem_nil', go_sem, Φa, hP] at hT1
  obtain ⟨h1_0, h1_1, h1_5⟩ := hT1
  refine SX.loop_k (fun (ss : (Nat)) T L' => (fun (i : Nat) => T 5 = .int .i64 (i : Int) ∧ T 0 = T1 0 ∧ T 1 = T1 1 ∧ L' = L ∧ (i ≤ l.length)) (ss)) (fun (ss : (Nat)) => (fun (i : Nat) => l.length - i) (ss)) 0 ?_ ?_
  · try dsimp only
    refine ⟨?_, ?_, ?_, ?_, ?_⟩
    · first | exact h1_5 | (rw [h1_5]; rfl) | (rw [h1_5]; simp; done)
    · rfl
    · rfl
    · rfl
    · exact Nat.zero_le _
  · intro i T2 L2 hI K4 hK4
    try dsimp only at hI hK4
    simp only [h1_0, h1_1] at hI hK4
    obtain ⟨h2_5, h2_0, h2_1, hL2, hi⟩ := hI
    replace hL2 := hL2.symm
    subst hL2
    clear h1_0 h1_1 h1_5 T1
    refine SX.seq_k fun K5 hK5 => ?_
    refine SX.seq_k fun K6 hK6 => ?_
    refine SX.region_xd [some 6, some 7, some 8, some 9, some 10, some 11, some 12, some 13, some 14, some 15] rfl (fun ops hops => ?_)
    unfold Dsts at hops
    refine RX.live [0, 1, 5] (fun T3 hT3 => ?_)
    simp only [forall_mem_cons', forall_mem_nil', go_sem, Φa, hP, h2_5, h2_0, h2_1] at hT3
    obtain ⟨h3_0, h3_1, h3_5⟩ := hT3
    clear h2_5 h2_0 h2_1 T2
    refine RX.join 10 (fun (ss : Unit) T L' => T 15 = .bool (decide (i < l.length)) ∧ T 0 = T3 0 ∧ T 1 = T3 1 ∧ T 5 = T3 5 ∧ L' = L ∧ (True)) (fun K7 hK7 => ?_) ?_
    · simp only [h3_0, h3_1, h3_5] at hK7
      simp (maxSteps:=1000000)(dsimp:=false)(disch:=omega) only [go_sem, Φa, hP, h3_0, h3_1, h3_5, hops]
      repeat' (first | refine iteB (fun hg => ?_) (fun hg => ?_) | refine iteI (fun hg => ?_) (fun hg => ?_) | ((first | refine And.intro (by omega) ?_ | fail); try (with_reducible refine stI ?_); try simp (maxSteps:=1000000)(dsimp:=false)(disch:=omega) only [go_sem, Φa, hP, h3_0, h3_1, h3_5, hops]) | fail)
      all_goals
        refine hK7 () _ (L) _ (by first | exact Less.refl _ | exact Less.drop _ _ | exact Less.drops (Less.drop _ _) | exact Less.drops (Less.drops (Less.drop _ _)) | exact Less.drops (Less.drops (Less.drops (Less.drop _ _))) | exact Less.drops (Less.drops (Less.drops (Less.drops (Less.drop _ _))))) ?_
        try dsimp only
        refine ⟨?_, ?_, ?_, ?_, ?_, ?_⟩
        · simp (maxSteps:=1000000)(dsimp:=false)(disch:=omega) only [go_sem, Φa, hP, h3_0, h3_1, h3_5]
          first | done | rfl | (refine congrArg Value.bool ?_; rw [Bool.eq_iff_iff]; simp; first | done | omega)
        · simp (maxSteps:=1000000)(dsimp:=false)(disch:=omega) only [go_sem, Φa, hP, h3_0, h3_1, h3_5]
        · simp (maxSteps:=1000000)(dsimp:=false)(disch:=omega) only [go_sem, Φa, hP, h3_0, h3_1, h3_5]
        · simp (maxSteps:=1000000)(dsimp:=false)(disch:=omega) only [go_sem, Φa, hP, h3_0, h3_1, h3_5]
        · rfl
        · trivial
    · intro ss T4 L4 hI
      simp only [h3_0, h3_1, h3_5] at hI 
      obtain ⟨h4_15, h4_0, h4_1, h4_5, hL4, hinv⟩ := hI
      replace hL4 := hL4.symm
      subst hL4
      clear h3_0 h3_1 h3_5 T3
      refine RX.done ?_
      simp (maxSteps:=1000000)(dsimp:=false)(disch:=omega) only [go_sem, Φa, hP, h4_15, h4_0, h4_1, h4_5, hops]
      refine hK6 _ _ ?_
      try clear hK6 K6
      refine SX.cond_k fun X8 Y8 hX8 hY8 => ?_
      simp (maxSteps:=1000000)(dsimp:=false)(disch:=omega) only [go_sem, Φa, hP, h4_15, h4_0, h4_1, h4_5, condVC]
      refine ⟨fun hc15 => hX8 ?_, fun hc15 => hY8 ?_⟩
      · clear hX8 hY8 X8 Y8
        refine SX.skip ?_
        try simp only [andThen_normal, andThen_ret, andThen_exit, inBlk_normal, inBlk_ret, inBlk_exit, Nat.reduceEqDiff, if_true, if_false, ↓reduceIte]
        refine hK5 _ _ ?_
        try clear hK5 K5
        refine SX.seq_k fun K9 hK9 => ?_
        refine SX.block ?_
        refine SX.seq_k fun K10 hK10 => ?_
        have hil : i < l.length := by first | exact of_decide_eq_true hc15 | omega
        have hck := hA i _ (getD_get (d := default) hil)
        have kck := hB i _ (getD_get (d := default) hil)
        have hrc := ho _ (getD_mem hil)
        refine SX.quiet_d (hP ▸ T.mixed) (by kernel_rfl) [some 18, some 19, some 20, some 21, some 22, some 23, some 24, some 25, some 26] rfl (fun ops hops => ?_)
        unfold Dsts at hops
        simp (maxSteps:=1000000)(dsimp:=false)(disch:=omega) only [go_sem, Φa, hP, h4_15, h4_0, h4_1, h4_5, hops, ia_at e1, ia_at e2]
        refine ⟨_, hck 0 _ rfl, _, hck 1 _ rfl, _, hck 2 _ rfl, _, hck 3 _ rfl, _, hck 4 _ rfl, _, hck 5 _ rfl, _, hck 6 _ rfl, _, hck 7 _ rfl, ?_⟩
        try with_reducible refine stI ?_
        try simp (maxSteps:=1000000)(dsimp:=false)(disch:=omega) only [go_sem, Φa, hP, h4_15, h4_0, h4_1, h4_5, hops, ia_at e1, ia_at e2]
        refine ⟨_, kck 0 _ rfl, _, kck 1 _ rfl, _, kck 2 _ rfl, _, kck 3 _ rfl, _, kck 4 _ rfl, _, kck 5 _ rfl, _, kck 6 _ rfl, _, kck 7 _ rfl, ?_⟩
        try with_reducible refine stI ?_
        try simp (maxSteps:=1000000)(dsimp:=false)(disch:=omega) only [go_sem, Φa, hP, h4_15, h4_0, h4_1, h4_5, hops, ia_at e1, ia_at e2]
        refine aggEq_of eqT_29 (okV_Rc hrc) (okV_Rc hrc) (fun r hr => ?_)
        obtain rfl : r = true := hr.2 rfl
        try with_reducible refine stI ?_
        try simp (maxSteps:=1000000)(dsimp:=false)(disch:=omega) only [go_sem, Φa, hP, h4_15, h4_0, h4_1, h4_5, hops, ia_at e1, ia_at e2]
        refine hK10 _ _ ?_
        try clear hK10 K10
        refine SX.live [0, 1, 5, 26] (fun T5 hT5 => ?_)
        simp only [forall_mem_cons', forall_mem_nil', go_sem, Φa, hP, h4_15, h4_0, h4_1, h4_5] at hT5
        obtain ⟨h5_0, h5_1, h5_5, h5_26⟩ := hT5
        clear h4_15 h4_0 h4_1 h4_5 T4
        refine SX.cond_k fun X11 Y11 hX11 hY11 => ?_
        simp (maxSteps:=1000000)(dsimp:=false)(disch:=omega) only [go_sem, Φa, hP, h5_0, h5_1, h5_5, h5_26, condVC]
        refine hY11 ?_
        clear hX11 hY11 X11 Y11
        refine SX.skip ?_
        try simp only [andThen_normal, andThen_ret, andThen_exit, inBlk_normal, inBlk_ret, inBlk_exit, Nat.reduceEqDiff, if_true, if_false, ↓reduceIte]
        refine hK9 _ _ ?_
        try clear hK9 K9
        refine SX.region_d [some 16, some 17, some 5] rfl (fun ops hops => ?_)
        unfold Dsts at hops
        simp (maxSteps:=1000000)(dsimp:=false)(disch:=omega) only [go_sem, Φa, hP, h5_0, h5_1, h5_5, h5_26, hops]
        repeat' ((first | refine And.intro (by omega) ?_ | fail); try (with_reducible refine stI ?_); try simp (maxSteps:=1000000)(dsimp:=false)(disch:=omega) only [go_sem, Φa, hP, h5_0, h5_1, h5_5, h5_26, hops])
        refine hK4 (i + 1) _ (L) _ (by exact Less.refl _) ?_ ?_
        · try dsimp only
          refine ⟨?_, ?_, ?_, ?_, ?_⟩
          · simp (maxSteps:=1000000)(dsimp:=false)(disch:=omega) only [go_sem, Φa, hP, h5_0, h5_1, h5_5, h5_26]
            first | done | rfl | skip
          · simp (maxSteps:=1000000)(dsimp:=false)(disch:=omega) only [go_sem, Φa, hP, h5_0, h5_1, h5_5, h5_26]
          · simp (maxSteps:=1000000)(dsimp:=false)(disch:=omega) only [go_sem, Φa, hP, h5_0, h5_1, h5_5, h5_26]
          · rfl
          · omega
        · (try dsimp only); omega
      · clear hX8 hY8 X8 Y8
        refine SX.exit ?_
        try simp only [andThen_normal, andThen_ret, andThen_exit, inBlk_normal, inBlk_ret, inBlk_exit, Nat.reduceEqDiff, if_true, if_false, ↓reduceIte]
        refine hK2 _ _ ?_
        try clear hK2 K2
        refine SX.seq_k fun K12 hK12 => ?_
        refine SX.seq_k fun K13 hK13 => ?_
        refine SX.region_d [some 28, some 29, some 30, some 31, some 32] rfl (fun ops hops => ?_)
        unfold Dsts at hops
        simp (maxSteps:=1000000)(dsimp:=false)(disch:=omega) only [go_sem, Φa, hP, h4_15, h4_0, h4_1, h4_5, hops]
        repeat' ((first | refine And.intro (by omega) ?_ | fail); try (with_reducible refine stI ?_); try simp (maxSteps:=1000000)(dsimp:=false)(disch:=omega) only [go_sem, Φa, hP, h4_15, h4_0, h4_1, h4_5, hops])
        refine hK13 _ _ ?_
        try clear hK13 K13
        refine SX.cond_k fun X14 Y14 hX14 hY14 => ?_
        simp (maxSteps:=1000000)(dsimp:=false)(disch:=omega) only [go_sem, Φa, hP, h4_15, h4_0, h4_1, h4_5, condVC]
        refine hX14 ?_
        clear hX14 hY14 X14 Y14
        refine SX.seq_k fun K15 hK15 => ?_
        refine SX.region_d [some 4] rfl (fun ops hops => ?_)
        unfold Dsts at hops
        simp (maxSteps:=1000000)(dsimp:=false)(disch:=omega) only [go_sem, Φa, hP, h4_15, h4_0, h4_1, h4_5, hops]
        refine hK15 _ _ ?_
        try clear hK15 K15
        refine SX.ret ?_
        simp only [andThen_normal, andThen_ret, andThen_exit, inBlk_normal, inBlk_ret, inBlk_exit, Nat.reduceEqDiff, if_true, if_false, ↓reduceIte, retQ_ret]
        try simp only [res0, res1, res2, res3, stK_e, go_sem, Φa, hP, h4_15, h4_0, h4_1, h4_5]
        exact ⟨_, _, Less.refl _, rfl, rfl, rfl⟩

theorem own_recs (l : List Rc) : l.flatMap Rc.cells ++ ((List.replicate (l.length + 1) (default : Rc)).flatMap Rc.cells).drop (l.length * 8) = (l ++ [default]).flatMap Rc.cells := by
  rw [List.replicate_succ', List.flatMap_append, List.flatMap_append, List.drop_left' (by rw [flat_len Rc.len, List.length_replicate])]
theorem mark_set (l : List Rc) : setN ((l ++ [default]).flatMap Rc.cells) (l.length * 8) [.int .u8 77, .int .u16 0, .int .u8 0, .bool false, .bool false, .int .u8 0, .bool false, .int .u8 0] = (l ++ [markR]).flatMap Rc.cells := by
  rw [List.flatMap_append, List.flatMap_append, ← flat_len Rc.len l]
  exact setN_app [.int .u8 77, .int .u16 0, .int .u8 0, .bool false, .bool false, .int .u8 0, .bool false, .int .u8 0] (l.flatMap Rc.cells) ([(default : Rc)].flatMap Rc.cells) (Nat.le_refl 8) |>.trans (by rw [List.drop_of_length_le (Nat.le_refl 8), List.append_nil]; rfl)
theorem lessS {x r : Slot} {L : Hp} : Less (x :: r :: L) [r] := Less.sublist (.cons _ (.cons_cons _ (List.nil_sublist _)))
theorem lessS2 {s x r : Slot} {M L : Hp} : Less (s :: (M ++ (x :: r :: L))) [r] := (Less.sublist (.cons _ (List.sublist_append_right M _))).trans lessS
theorem lessZ {s3 s2 x r : Slot} {M3 M2 L : Hp} : Less (s3 :: (M3 ++ (s2 :: (M2 ++ (x :: r :: L))))) L := Less.sublist (.cons _ (List.Sublist.trans (.cons _ (List.Sublist.trans (.cons _ (.cons _ (List.Sublist.refl _))) (List.sublist_append_right M2 _))) (List.sublist_append_right M3 _)))
theorem mark_at (l : List Rc) : ((l ++ [markR]).flatMap Rc.cells)[l.length * 8]? = some (.int .u8 77) := by
  rw [List.flatMap_append, List.getElem?_append_right (by rw [flat_len Rc.len]; exact Nat.le_refl _), flat_len Rc.len, Nat.sub_self]
  rfl
theorem mark_sl {Γ : Ctx} {H : Hp} {l : List Rc} {gx : Nat} (h : some (gx, Obj.cells ((l ++ [markR]).flatMap Rc.cells).toArray 29 (0, 0)) ∈ H) (hl : l.length ≤ 2147483647) : SlC (Cell Γ H) (.slice (some ⟨gx, 0, none⟩) l.length (l.length + 1)) l := by
  obtain ⟨i, hi⟩ := List.mem_iff_getElem?.1 h
  have hr := Row.lit (e := 29) (sz := 8) (b := gx) (n := l.length + 1) (xs := (l ++ [markR]).flatMap Rc.cells) (by rw [flat_len Rc.len, List.length_append, List.length_singleton]) (by omega)
  have hr2 : RowL Rc.cells 29 8 (.slice (some ⟨gx, 0, none⟩) (l.length + 1) (l.length + 1)) (l ++ [markR]) (some (gx, Obj.cells ((l ++ [markR]).flatMap Rc.cells).toArray 29 (0, 0))) := by
    show Row 29 8 _ (l ++ [markR]).length _ _
    rw [List.length_append, List.length_singleton]
    exact hr
  have hs := RowL.sl (Γ := Γ) Rc.len hr2 hi
  have ht := Sl.take (k := l.length) hs (by omega)
  rwa [List.take_left' rfl] at ht
set_option maxHeartbeats 1000000 in
set_option maxRecDepth 100000 in
theorem FrameOf_spec {Γ : Ctx} (hP : Γ.P = Tryd.prog) {L : Hp} (S : SH Γ) {x : Ras} {v : Value} {l : List Rc} (hl : SlC (Cell Γ []) v l) (ho : ∀ r ∈ l, OkRc r) :
    SCall Γ 4 #[(.agg #[.int .i64 x.1, .int .i64 x.2.1, .bool x.2.2.1, .int .i64 x.2.2.2]), v] L (fun v L' => v = .bool true ∧ L' = L) := by
  obtain ⟨A, c, rfl, hc⟩ := Sl.shape hl
  obtain ⟨a1, e1, _, hA⟩ := Sl.at1 hl
  refine SCall.enter (n := 94) (res1 4) (hP ▸ Tryd.func4) rfl rfl (by simp) (res1_ok rfl) ?_
  refine SX.seq_k fun K1 hK1 => ?_
  refine SX.region_d [some 2, some 4] rfl (fun ops hops => ?_)
  unfold Dsts at hops
  simp (maxSteps:=1000000)(dsimp:=false)(disch:=omega) only [go_sem, Φa, hP, hops]
  intro bR
  try with_reducible refine stI ?_
  try simp (maxSteps:=1000000)(dsimp:=false)(disch:=omega) only [go_sem, Φa, hP, hops]
  refine hK1 _ _ ?_
  try clear hK1 K1
  refine SX.seq_k fun K2 hK2 => ?_
  refine SX.seq_k fun K3 hK3 => ?_
  refine SX.region_d [some 12, some 13, some 14] rfl (fun ops hops => ?_)
  unfold Dsts at hops
  simp (maxSteps:=1000000)(dsimp:=false)(disch:=omega) only [go_sem, Φa, hP, hops]
  repeat' ((first | refine And.intro (by omega) ?_ | fail); try (with_reducible refine stI ?_); try simp (maxSteps:=1000000)(dsimp:=false)(disch:=omega) only [go_sem, Φa, hP, hops])
  refine hK3 _ _ ?_
  try clear hK3 K3
  refine SX.cond_k fun X4 Y4 hX4 hY4 => ?_
  simp (maxSteps:=1000000)(dsimp:=false)(disch:=omega) only [go_sem, Φa, hP, condVC]
  refine ⟨fun hc14 => hX4 ?_, fun hc14 => hY4 ?_⟩
  · clear hX4 hY4 X4 Y4
    refine SX.seq_k fun K5 hK5 => ?_
    refine SX.region_d [some 4] rfl (fun ops hops => ?_)
    unfold Dsts at hops
    simp (maxSteps:=1000000)(dsimp:=false)(disch:=omega) only [go_sem, Φa, hP, hops]
    refine hK5 _ _ ?_
    try clear hK5 K5
    refine SX.ret ?_
    simp only [andThen_normal, andThen_ret, andThen_exit, inBlk_normal, inBlk_ret, inBlk_exit, Nat.reduceEqDiff, if_true, if_false, ↓reduceIte, retQ_ret]
    try simp only [res0, res1, res2, res3, stK_e, go_sem, Φa, hP]
    exact ⟨_, _, Less.drop _ _, rfl, rfl, rfl⟩
  · clear hX4 hY4 X4 Y4
    refine SX.skip ?_
    try simp only [andThen_normal, andThen_ret, andThen_exit, inBlk_normal, inBlk_ret, inBlk_exit, Nat.reduceEqDiff, if_true, if_false, ↓reduceIte]
    refine hK2 _ _ ?_
    try clear hK2 K2
    refine SX.seq_k fun K6 hK6 => ?_
    have hll : l.length ≤ 2147483647 := by omega
    have hn1 : ((l.length : Int) + 1).toNat = l.length + 1 := by omega
    refine SX.region_d [some 15, some 16, some 17, some 18, some 5] rfl (fun ops hops => ?_)
    unfold Dsts at hops
    simp (maxSteps:=1000000)(dsimp:=false)(disch:=omega) only [go_sem, Φa, hP, hops, hn1]
    intro gx
    try with_reducible refine stI ?_
    try simp (maxSteps:=1000000)(dsimp:=false)(disch:=omega) only [go_sem, Φa, hP, hops, hn1]
    rw [show ([Value.int .u8 0, .int .u16 0, .int .u8 0, .bool false, .bool false, .int .u8 0, .bool false, .int .u8 0] : List Value) = (default : Rc).cells from rfl, zerosV_flat]
    try with_reducible refine stI ?_
    try simp (maxSteps:=1000000)(dsimp:=false)(disch:=omega) only [go_sem, Φa, hP, hops, hn1]
    refine hK6 _ _ ?_
    try clear hK6 K6
    refine SX.live [1, 2, 5] (fun T1 hT1 => ?_)
    simp only [forall_mem_cons', forall_mem_nil', go_sem, Φa, hP] at hT1
    obtain ⟨h1_1, h1_2, h1_5⟩ := hT1
    refine SX.seq_k fun K7 hK7 => ?_
    refine SX.region_d [some 19, some 20, some 21] rfl (fun ops hops => ?_)
    unfold Dsts at hops
    simp (maxSteps:=1000000)(dsimp:=false)(disch:=omega) only [go_sem, Φa, hP, h1_1, h1_2, h1_5, hops]
    refine YCopy.flat (f := Rc.cells) (i := 0) (l := l) Rc.len (fun _ => rfl) (hP ▸ T.elS_25) (SlC.mono (fun a v h => Cell.any h) hl) rfl (by omega) (by rw [flat_len Rc.len, List.length_replicate]; omega) (.inr (Nat.zero_le _)) ?_
    rw [own_recs]
    try with_reducible refine stI ?_
    try simp (maxSteps:=1000000)(dsimp:=false)(disch:=omega) only [go_sem, Φa, hP, h1_1, h1_2, h1_5, hops]
    refine hK7 _ _ ?_
    try clear hK7 K7
    refine SX.seq_k fun K8 hK8 => ?_
    refine SX.region_d [some 22, some 23, some 24, some 25, some 26, none] rfl (fun ops hops => ?_)
    unfold Dsts at hops
    simp (maxSteps:=1000000)(dsimp:=false)(disch:=omega) only [go_sem, Φa, hP, h1_1, h1_2, h1_5, hops]
    refine ⟨0, _, _, _, rfl, (by rw [flat_len Rc.len, List.length_append, List.length_singleton]; omega), .inr (Nat.zero_le _), ?_⟩
    try with_reducible refine stI ?_
    try simp (maxSteps:=1000000)(dsimp:=false)(disch:=omega) only [go_sem, Φa, hP, h1_1, h1_2, h1_5, hops]
    have hms := mark_set l
    simp only [setN] at hms
    rw [hms]
    clear hms
    refine hK8 _ _ ?_
    try clear hK8 K8
    refine SX.seq_k fun K9 hK9 => ?_
    have hown6 : SlC (Cell Γ (some (gx, .cells ((l ++ [markR]).flatMap Rc.cells).toArray 29 (0, 0)) :: some (bR, .cells [.int .i64 x.1, .int .i64 x.2.1, .bool x.2.2.1, .int .i64 x.2.2.2].toArray 24 (0, 0)) :: L)) (.slice (some ⟨gx, 0, none⟩) l.length (l.length + 1)) l := mark_sl (List.mem_cons_self ..) hll
    refine SX.drawn_d [(0, .q), (1, .q), (2, .q), (3, .q), (4, .q), (5, .e), (6, .q), (7, .q), (8, .q), (9, .q), (10, .q)] (fun _ => [some (bR, .cells [.int .i64 x.1, .int .i64 x.2.1, .bool x.2.2.1, .int .i64 x.2.2.2].toArray 24 (0, 0))]) (hP ▸ T.mixed) (by kernel_rfl) (by exact lessS) [some 28, some 29, some 30, some 31, some 32, some 33, some 27, some 34, some 35, some 6, some 7] rfl (fun ops hops hopl => ?_)
    unfold Dsts at hops
    simp (maxSteps:=1000000)(dsimp:=false)(disch:=omega) only [go_sem, Φa, hP, h1_1, h1_2, h1_5, hops, hopl, cutA0, Nat.sub_zero]
    refine ⟨_, Cell.at 0 rfl rfl, _, Cell.at 0 rfl rfl, _, Cell.at 0 rfl rfl, _, Cell.at 0 rfl rfl, ?_⟩
    try with_reducible refine stI ?_
    try simp (maxSteps:=1000000)(dsimp:=false)(disch:=omega) only [go_sem, Φa, hP, h1_1, h1_2, h1_5, hops, hopl, cutA0, Nat.sub_zero]
    refine SCall.mono (Of_spec (l := l) hP hown6 (by omega) S) ?_
    rintro v_ L_ ⟨vo1, so1, fs1, rfl, rfl, hrow1, hfs1, hmap1⟩
    try with_reducible refine stI ?_
    try simp (maxSteps:=1000000)(dsimp:=false)(disch:=omega) only [go_sem, Φa, hP, h1_1, h1_2, h1_5, hops, hopl, cutA0, Nat.sub_zero]
    refine ⟨lessS2, ?_⟩
    try with_reducible refine stI ?_
    try simp (maxSteps:=1000000)(dsimp:=false)(disch:=omega) only [go_sem, Φa, hP, h1_1, h1_2, h1_5, hops, hopl, cutA0, Nat.sub_zero]
    refine hK9 _ _ ?_
    try clear hK9 K9
    refine SX.live [1, 2, 5, 6, 7] (fun T2 hT2 => ?_)
    simp only [forall_mem_cons', forall_mem_nil', go_sem, Φa, hP, h1_1, h1_2, h1_5] at hT2
    obtain ⟨h2_1, h2_2, h2_5, h2_6, h2_7⟩ := hT2
    clear h1_1 h1_2 h1_5 T1
    refine SX.seq_k fun K10 hK10 => ?_
    refine SX.seq_k fun K11 hK11 => ?_
    refine SX.region_xd [some 36, some 37, some 38, some 39, some 40, some 41, some 42, some 43, some 44, some 45, some 46, some 47, some 48, some 49, some 50, some 51] rfl (fun ops hops => ?_)
    unfold Dsts at hops
    refine RX.live [1, 2, 5, 6, 7] (fun T3 hT3 => ?_)
    simp only [forall_mem_cons', forall_mem_nil', go_sem, Φa, hP, h2_1, h2_2, h2_5, h2_6, h2_7] at hT3
    obtain ⟨h3_1, h3_2, h3_5, h3_6, h3_7⟩ := hT3
    clear h2_1 h2_2 h2_5 h2_6 h2_7 T2
    have hown7 : SlC (Cell Γ (so1 :: (segs fs1 ++ (some (gx, .cells ((l ++ [markR]).flatMap Rc.cells).toArray 29 (0, 0)) :: some (bR, .cells [.int .i64 x.1, .int .i64 x.2.1, .bool x.2.2.1, .int .i64 x.2.2.2].toArray 24 (0, 0)) :: L)))) (.slice (some ⟨gx, 0, none⟩) l.length (l.length + 1)) l := mark_sl (by simp) hll
    have harg7 : SlC (Cell Γ (so1 :: (segs fs1 ++ (some (gx, .cells ((l ++ [markR]).flatMap Rc.cells).toArray 29 (0, 0)) :: some (bR, .cells [.int .i64 x.1, .int .i64 x.2.1, .bool x.2.2.1, .int .i64 x.2.2.2].toArray 24 (0, 0)) :: L)))) (.slice A l.length c) l := SlC.mono (fun a v h => Cell.any h) hl
    have hmk := mark_at l
    refine RX.join 16 (fun (ss : Unit) T L' => T 51 = .bool (false) ∧ T 1 = T3 1 ∧ T 2 = T3 2 ∧ T 6 = T3 6 ∧ T 7 = T3 7 ∧ L' = so1 :: (segs fs1 ++ (some (gx, .cells ((l ++ [markR]).flatMap Rc.cells).toArray 29 (0, 0)) :: some (bR, .cells [.int .i64 x.1, .int .i64 x.2.1, .bool x.2.2.1, .int .i64 x.2.2.2].toArray 24 (0, 0)) :: L)) ∧ (True)) (fun K12 hK12 => ?_) ?_
    · simp only [h3_1, h3_2, h3_6, h3_7] at hK12
      simp (maxSteps:=1000000)(dsimp:=false)(disch:=omega) only [go_sem, Φa, hP, h3_1, h3_2, h3_5, h3_6, h3_7, hops, cutA0, Nat.sub_zero]
      repeat' (first | refine iteB (fun hg => ?_) (fun hg => ?_) | refine iteI (fun hg => ?_) (fun hg => ?_) | ((first | (refine SCall.mono (Apart_spec (l := l) hP hown7 harg7 ho (by omega)) ?_; rintro v_ L_ ⟨hv_, hL_⟩; rw [hv_, hL_]; clear hv_ hL_ v_ L_) | refine ⟨_, Cell.cons _ (Cell.app _ (Cell.at 0 rfl hmk)), ?_⟩ | refine And.intro (by omega) ?_ | refine ⟨_, Cell.at 0 rfl rfl, ?_⟩ | refine ⟨_, Cell.at 1 rfl rfl, ?_⟩ | refine ⟨_, Cell.at 2 rfl rfl, ?_⟩ | fail); try (with_reducible refine stI ?_); try simp (maxSteps:=1000000)(dsimp:=false)(disch:=omega) only [go_sem, Φa, hP, h3_1, h3_2, h3_5, h3_6, h3_7, hops, cutA0, Nat.sub_zero]) | fail)
      all_goals
        refine hK12 () _ (so1 :: (segs fs1 ++ (some (gx, .cells ((l ++ [markR]).flatMap Rc.cells).toArray 29 (0, 0)) :: some (bR, .cells [.int .i64 x.1, .int .i64 x.2.1, .bool x.2.2.1, .int .i64 x.2.2.2].toArray 24 (0, 0)) :: L))) _ (by first | exact Less.refl _ | exact Less.drop _ _ | exact Less.drops (Less.drop _ _) | exact Less.drops (Less.drops (Less.drop _ _)) | exact Less.drops (Less.drops (Less.drops (Less.drop _ _))) | exact Less.drops (Less.drops (Less.drops (Less.drops (Less.drop _ _))))) ?_
        try dsimp only
        refine ⟨?_, ?_, ?_, ?_, ?_, ?_, ?_⟩
        · simp (maxSteps:=1000000)(dsimp:=false)(disch:=omega) only [go_sem, Φa, hP, h3_1, h3_2, h3_5, h3_6, h3_7]
          first | done | rfl
        · simp (maxSteps:=1000000)(dsimp:=false)(disch:=omega) only [go_sem, Φa, hP, h3_1, h3_2, h3_5, h3_6, h3_7]
        · simp (maxSteps:=1000000)(dsimp:=false)(disch:=omega) only [go_sem, Φa, hP, h3_1, h3_2, h3_5, h3_6, h3_7]
        · simp (maxSteps:=1000000)(dsimp:=false)(disch:=omega) only [go_sem, Φa, hP, h3_1, h3_2, h3_5, h3_6, h3_7]
        · simp (maxSteps:=1000000)(dsimp:=false)(disch:=omega) only [go_sem, Φa, hP, h3_1, h3_2, h3_5, h3_6, h3_7]
        · rfl
        · trivial
    · intro ss T4 L4 hI
      simp only [h3_1, h3_2, h3_6, h3_7] at hI 
      obtain ⟨h4_51, h4_1, h4_2, h4_6, h4_7, hL4, hinv⟩ := hI
      replace hL4 := hL4.symm
      subst hL4
      clear h3_1 h3_2 h3_5 h3_6 h3_7 T3
      refine RX.done ?_
      simp (maxSteps:=1000000)(dsimp:=false)(disch:=omega) only [go_sem, Φa, hP, h4_51, h4_1, h4_2, h4_6, h4_7, hops]
      refine hK11 _ _ ?_
      try clear hK11 K11
      refine SX.cond_k fun X13 Y13 hX13 hY13 => ?_
      simp (maxSteps:=1000000)(dsimp:=false)(disch:=omega) only [go_sem, Φa, hP, h4_51, h4_1, h4_2, h4_6, h4_7, condVC]
      refine hY13 ?_
      clear hX13 hY13 X13 Y13
      refine SX.skip ?_
      try simp only [andThen_normal, andThen_ret, andThen_exit, inBlk_normal, inBlk_ret, inBlk_exit, Nat.reduceEqDiff, if_true, if_false, ↓reduceIte]
      refine hK10 _ _ ?_
      try clear hK10 K10
      refine SX.seq_k fun K14 hK14 => ?_
      refine SX.region_d [some 53, some 54, some 55, some 52, some 56, some 57, some 8, some 9] rfl (fun ops hops => ?_)
      unfold Dsts at hops
      simp (maxSteps:=1000000)(dsimp:=false)(disch:=omega) only [go_sem, Φa, hP, h4_51, h4_1, h4_2, h4_6, h4_7, hops]
      refine ⟨_, Cell.cons _ (Cell.app _ (Cell.at 1 rfl rfl)), _, Cell.cons _ (Cell.app _ (Cell.at 1 rfl rfl)), _, Cell.cons _ (Cell.app _ (Cell.at 1 rfl rfl)), _, Cell.cons _ (Cell.app _ (Cell.at 1 rfl rfl)), ?_⟩
      try with_reducible refine stI ?_
      try simp (maxSteps:=1000000)(dsimp:=false)(disch:=omega) only [go_sem, Φa, hP, h4_51, h4_1, h4_2, h4_6, h4_7, hops]
      refine SCall.mono (Of_spec (l := l) hP (SlC.mono (fun a v h => Cell.any h) hl) (by omega) S) ?_
      rintro v_ L_ ⟨vo2, so2, fs2, rfl, rfl, hrow2, hfs2, hmap2⟩
      try with_reducible refine stI ?_
      try simp (maxSteps:=1000000)(dsimp:=false)(disch:=omega) only [go_sem, Φa, hP, h4_51, h4_1, h4_2, h4_6, h4_7, hops]
      refine hK14 _ _ ?_
      try clear hK14 K14
      refine SX.seq_k fun K15 hK15 => ?_
      refine SX.region_d [some 59, some 60, some 61, some 58, some 62, some 63, some 10, some 11] rfl (fun ops hops => ?_)
      unfold Dsts at hops
      simp (maxSteps:=1000000)(dsimp:=false)(disch:=omega) only [go_sem, Φa, hP, h4_51, h4_1, h4_2, h4_6, h4_7, hops]
      refine ⟨_, Cell.cons _ (Cell.app _ (Cell.cons _ (Cell.app _ (Cell.at 1 rfl rfl)))), _, Cell.cons _ (Cell.app _ (Cell.cons _ (Cell.app _ (Cell.at 1 rfl rfl)))), _, Cell.cons _ (Cell.app _ (Cell.cons _ (Cell.app _ (Cell.at 1 rfl rfl)))), _, Cell.cons _ (Cell.app _ (Cell.cons _ (Cell.app _ (Cell.at 1 rfl rfl)))), ?_⟩
      try with_reducible refine stI ?_
      try simp (maxSteps:=1000000)(dsimp:=false)(disch:=omega) only [go_sem, Φa, hP, h4_51, h4_1, h4_2, h4_6, h4_7, hops]
      refine SCall.mono (refOf_spec (l := l) hP (SlC.mono (fun a v h => Cell.any h) hl) (by omega)) ?_
      rintro v_ L_ ⟨vo3, so3, fs3, rfl, rfl, hrow3, hfs3, hmap3⟩
      try with_reducible refine stI ?_
      try simp (maxSteps:=1000000)(dsimp:=false)(disch:=omega) only [go_sem, Φa, hP, h4_51, h4_1, h4_2, h4_6, h4_7, hops]
      refine hK15 _ _ ?_
      try clear hK15 K15
      refine SX.live [6, 7, 8, 9, 10, 11] (fun T5 hT5 => ?_)
      simp only [forall_mem_cons', forall_mem_nil', go_sem, Φa, hP, h4_51, h4_1, h4_2, h4_6, h4_7] at hT5
      obtain ⟨h5_6, h5_7, h5_8, h5_9, h5_10, h5_11⟩ := hT5
      clear h4_51 h4_1 h4_2 h4_6 h4_7 T4
      refine SX.seq_k fun K16 hK16 => ?_
      refine SX.seq_k fun K17 hK17 => ?_
      refine SX.region_xd [some 64, some 65, some 66, some 67, some 68, some 69, some 70, some 71, some 72, some 73, some 74, some 75, some 76, some 77, some 78, some 79, some 80, some 81, some 82, some 83] rfl (fun ops hops => ?_)
      unfold Dsts at hops
      refine RX.live [6, 7, 8, 9, 10, 11] (fun T6 hT6 => ?_)
      simp only [forall_mem_cons', forall_mem_nil', go_sem, Φa, hP, h5_6, h5_7, h5_8, h5_9, h5_10, h5_11] at hT6
      obtain ⟨h6_6, h6_7, h6_8, h6_9, h6_10, h6_11⟩ := hT6
      clear h5_6 h5_7 h5_8 h5_9 h5_10 h5_11 T5
      have ha1 : SlF (Cell Γ (so3 :: (segs fs3 ++ (so2 :: (segs fs2 ++ (so1 :: (segs fs1 ++ (some (gx, .cells ((l ++ [markR]).flatMap Rc.cells).toArray 29 (0, 0)) :: some (bR, .cells [.int .i64 x.1, .int .i64 x.2.1, .bool x.2.2.1, .int .i64 x.2.2.2].toArray 24 (0, 0)) :: L)))))))) vo1 (ofP x l).1 := hrow1.slM hfs1 hmap1 (by simp) (fun s hs => by simp [hs])
      have ha2 : SlF (Cell Γ (so3 :: (segs fs3 ++ (so2 :: (segs fs2 ++ (so1 :: (segs fs1 ++ (some (gx, .cells ((l ++ [markR]).flatMap Rc.cells).toArray 29 (0, 0)) :: some (bR, .cells [.int .i64 x.1, .int .i64 x.2.1, .bool x.2.2.1, .int .i64 x.2.2.2].toArray 24 (0, 0)) :: L)))))))) vo2 (ofP x l).1 := hrow2.slM hfs2 hmap2 (by simp) (fun s hs => by simp [hs])
      have ha3 : SlF (Cell Γ (so3 :: (segs fs3 ++ (so2 :: (segs fs2 ++ (so1 :: (segs fs1 ++ (some (gx, .cells ((l ++ [markR]).flatMap Rc.cells).toArray 29 (0, 0)) :: some (bR, .cells [.int .i64 x.1, .int .i64 x.2.1, .bool x.2.2.1, .int .i64 x.2.2.2].toArray 24 (0, 0)) :: L)))))))) vo3 (ofP x l).1 := hrow3.slM hfs3 hmap3 (by simp) (fun s hs => by simp [hs])
      refine RX.join 8 (fun (ss : Unit) T L' => T 71 = .bool (false) ∧ T 6 = T6 6 ∧ T 8 = T6 8 ∧ T 10 = T6 10 ∧ L' = so3 :: (segs fs3 ++ (so2 :: (segs fs2 ++ (so1 :: (segs fs1 ++ (some (gx, .cells ((l ++ [markR]).flatMap Rc.cells).toArray 29 (0, 0)) :: some (bR, .cells [.int .i64 x.1, .int .i64 x.2.1, .bool x.2.2.1, .int .i64 x.2.2.2].toArray 24 (0, 0)) :: L)))))) ∧ (True)) (fun K18 hK18 => ?_) ?_
      · simp only [h6_6, h6_8, h6_10] at hK18
        simp (maxSteps:=1000000)(dsimp:=false)(disch:=omega) only [go_sem, Φa, hP, h6_6, h6_7, h6_8, h6_9, h6_10, h6_11, hops]
        repeat' (first | refine iteB (fun hg => ?_) (fun hg => ?_) | refine iteI (fun hg => ?_) (fun hg => ?_) | ((first | (refine SCall.mono (SameAll_spec (l := (ofP x l).1) hP ha1 ha3 (ofP_bnd' _ _).1 (ofP_bnd' _ _).2) ?_; rintro v_ L_ ⟨hv_, hL_⟩; rw [hv_, hL_]; clear hv_ hL_ v_ L_) | (refine SCall.mono (SameAll_spec (l := (ofP x l).1) hP ha2 ha3 (ofP_bnd' _ _).1 (ofP_bnd' _ _).2) ?_; rintro v_ L_ ⟨hv_, hL_⟩; rw [hv_, hL_]; clear hv_ hL_ v_ L_) | refine And.intro (by omega) ?_ | refine ⟨_, Cell.at 0 rfl rfl, ?_⟩ | refine ⟨_, Cell.at 1 rfl rfl, ?_⟩ | refine ⟨_, Cell.at 2 rfl rfl, ?_⟩ | refine ⟨_, Cell.at 3 rfl rfl, ?_⟩ | refine ⟨_, Cell.at 4 rfl rfl, ?_⟩ | fail); try (with_reducible refine stI ?_); try simp (maxSteps:=1000000)(dsimp:=false)(disch:=omega) only [go_sem, Φa, hP, h6_6, h6_7, h6_8, h6_9, h6_10, h6_11, hops]) | fail)
        all_goals
          refine hK18 () _ (so3 :: (segs fs3 ++ (so2 :: (segs fs2 ++ (so1 :: (segs fs1 ++ (some (gx, .cells ((l ++ [markR]).flatMap Rc.cells).toArray 29 (0, 0)) :: some (bR, .cells [.int .i64 x.1, .int .i64 x.2.1, .bool x.2.2.1, .int .i64 x.2.2.2].toArray 24 (0, 0)) :: L))))))) _ (by first | exact Less.refl _ | exact Less.drop _ _ | exact Less.drops (Less.drop _ _) | exact Less.drops (Less.drops (Less.drop _ _)) | exact Less.drops (Less.drops (Less.drops (Less.drop _ _))) | exact Less.drops (Less.drops (Less.drops (Less.drops (Less.drop _ _))))) ?_
          try dsimp only
          refine ⟨?_, ?_, ?_, ?_, ?_, ?_⟩
          · simp (maxSteps:=1000000)(dsimp:=false)(disch:=omega) only [go_sem, Φa, hP, h6_6, h6_7, h6_8, h6_9, h6_10, h6_11]
            first | done | rfl | (refine congrArg Value.bool ?_; simp; done)
          · simp (maxSteps:=1000000)(dsimp:=false)(disch:=omega) only [go_sem, Φa, hP, h6_6, h6_7, h6_8, h6_9, h6_10, h6_11]
          · simp (maxSteps:=1000000)(dsimp:=false)(disch:=omega) only [go_sem, Φa, hP, h6_6, h6_7, h6_8, h6_9, h6_10, h6_11]
          · simp (maxSteps:=1000000)(dsimp:=false)(disch:=omega) only [go_sem, Φa, hP, h6_6, h6_7, h6_8, h6_9, h6_10, h6_11]
          · rfl
          · trivial
      · intro ss T7 L7 hI
        simp only [h6_6, h6_8, h6_10] at hI 
        obtain ⟨h7_71, h7_6, h7_8, h7_10, hL7, hinv⟩ := hI
        replace hL7 := hL7.symm
        subst hL7
        clear h6_6 h6_7 h6_8 h6_9 h6_10 h6_11 T6
        refine RX.live [6, 8, 10, 71] (fun T8 hT8 => ?_)
        simp only [forall_mem_cons', forall_mem_nil', go_sem, Φa, hP, h7_71, h7_6, h7_8, h7_10] at hT8
        obtain ⟨h8_6, h8_8, h8_10, h8_71⟩ := hT8
        clear h7_71 h7_6 h7_8 h7_10 T7
        refine RX.join 6 (fun (ss : Unit) T L' => T 77 = .bool (false) ∧ T 6 = T8 6 ∧ T 8 = T8 8 ∧ T 10 = T8 10 ∧ L' = so3 :: (segs fs3 ++ (so2 :: (segs fs2 ++ (so1 :: (segs fs1 ++ (some (gx, .cells ((l ++ [markR]).flatMap Rc.cells).toArray 29 (0, 0)) :: some (bR, .cells [.int .i64 x.1, .int .i64 x.2.1, .bool x.2.2.1, .int .i64 x.2.2.2].toArray 24 (0, 0)) :: L)))))) ∧ (True)) (fun K19 hK19 => ?_) ?_
        · simp only [h8_6, h8_8, h8_10] at hK19
          simp (maxSteps:=1000000)(dsimp:=false)(disch:=omega) only [go_sem, Φa, hP, h8_6, h8_8, h8_10, h8_71, hops]
          repeat' (first | refine iteB (fun hg => ?_) (fun hg => ?_) | refine iteI (fun hg => ?_) (fun hg => ?_) | ((first | (refine SCall.mono (SameAll_spec (l := (ofP x l).1) hP ha1 ha3 (ofP_bnd' _ _).1 (ofP_bnd' _ _).2) ?_; rintro v_ L_ ⟨hv_, hL_⟩; rw [hv_, hL_]; clear hv_ hL_ v_ L_) | (refine SCall.mono (SameAll_spec (l := (ofP x l).1) hP ha2 ha3 (ofP_bnd' _ _).1 (ofP_bnd' _ _).2) ?_; rintro v_ L_ ⟨hv_, hL_⟩; rw [hv_, hL_]; clear hv_ hL_ v_ L_) | refine And.intro (by omega) ?_ | refine ⟨_, Cell.at 0 rfl rfl, ?_⟩ | refine ⟨_, Cell.at 1 rfl rfl, ?_⟩ | refine ⟨_, Cell.at 2 rfl rfl, ?_⟩ | refine ⟨_, Cell.at 3 rfl rfl, ?_⟩ | refine ⟨_, Cell.at 4 rfl rfl, ?_⟩ | fail); try (with_reducible refine stI ?_); try simp (maxSteps:=1000000)(dsimp:=false)(disch:=omega) only [go_sem, Φa, hP, h8_6, h8_8, h8_10, h8_71, hops]) | fail)
          all_goals
            refine hK19 () _ (so3 :: (segs fs3 ++ (so2 :: (segs fs2 ++ (so1 :: (segs fs1 ++ (some (gx, .cells ((l ++ [markR]).flatMap Rc.cells).toArray 29 (0, 0)) :: some (bR, .cells [.int .i64 x.1, .int .i64 x.2.1, .bool x.2.2.1, .int .i64 x.2.2.2].toArray 24 (0, 0)) :: L))))))) _ (by first | exact Less.refl _ | exact Less.drop _ _ | exact Less.drops (Less.drop _ _) | exact Less.drops (Less.drops (Less.drop _ _)) | exact Less.drops (Less.drops (Less.drops (Less.drop _ _))) | exact Less.drops (Less.drops (Less.drops (Less.drops (Less.drop _ _))))) ?_
            try dsimp only
            refine ⟨?_, ?_, ?_, ?_, ?_, ?_⟩
            · simp (maxSteps:=1000000)(dsimp:=false)(disch:=omega) only [go_sem, Φa, hP, h8_6, h8_8, h8_10, h8_71]
              first | done | rfl | (refine congrArg Value.bool ?_; simp; done)
            · simp (maxSteps:=1000000)(dsimp:=false)(disch:=omega) only [go_sem, Φa, hP, h8_6, h8_8, h8_10, h8_71]
            · simp (maxSteps:=1000000)(dsimp:=false)(disch:=omega) only [go_sem, Φa, hP, h8_6, h8_8, h8_10, h8_71]
            · simp (maxSteps:=1000000)(dsimp:=false)(disch:=omega) only [go_sem, Φa, hP, h8_6, h8_8, h8_10, h8_71]
            · rfl
            · trivial
        · intro ss T9 L9 hI
          simp only [h8_6, h8_8, h8_10] at hI 
          obtain ⟨h9_77, h9_6, h9_8, h9_10, hL9, hinv⟩ := hI
          replace hL9 := hL9.symm
          subst hL9
          clear h8_6 h8_8 h8_10 h8_71 T8
          refine RX.live [6, 8, 10, 77] (fun T10 hT10 => ?_)
          simp only [forall_mem_cons', forall_mem_nil', go_sem, Φa, hP, h9_77, h9_6, h9_8, h9_10] at hT10
          obtain ⟨h10_6, h10_8, h10_10, h10_77⟩ := hT10
          clear h9_77 h9_6 h9_8 h9_10 T9
          refine RX.join 6 (fun (ss : Unit) T L' => T 83 = .bool (false) ∧ T 6 = T10 6 ∧ T 8 = T10 8 ∧ T 10 = T10 10 ∧ L' = so3 :: (segs fs3 ++ (so2 :: (segs fs2 ++ (so1 :: (segs fs1 ++ (some (gx, .cells ((l ++ [markR]).flatMap Rc.cells).toArray 29 (0, 0)) :: some (bR, .cells [.int .i64 x.1, .int .i64 x.2.1, .bool x.2.2.1, .int .i64 x.2.2.2].toArray 24 (0, 0)) :: L)))))) ∧ (True)) (fun K20 hK20 => ?_) ?_
          · simp only [h10_6, h10_8, h10_10] at hK20
            simp (maxSteps:=1000000)(dsimp:=false)(disch:=omega) only [go_sem, Φa, hP, h10_6, h10_8, h10_10, h10_77, hops]
            repeat' (first | refine iteB (fun hg => ?_) (fun hg => ?_) | refine iteI (fun hg => ?_) (fun hg => ?_) | ((first | (refine SCall.mono (SameAll_spec (l := (ofP x l).1) hP ha1 ha3 (ofP_bnd' _ _).1 (ofP_bnd' _ _).2) ?_; rintro v_ L_ ⟨hv_, hL_⟩; rw [hv_, hL_]; clear hv_ hL_ v_ L_) | (refine SCall.mono (SameAll_spec (l := (ofP x l).1) hP ha2 ha3 (ofP_bnd' _ _).1 (ofP_bnd' _ _).2) ?_; rintro v_ L_ ⟨hv_, hL_⟩; rw [hv_, hL_]; clear hv_ hL_ v_ L_) | refine And.intro (by omega) ?_ | refine ⟨_, Cell.at 0 rfl rfl, ?_⟩ | refine ⟨_, Cell.at 1 rfl rfl, ?_⟩ | refine ⟨_, Cell.at 2 rfl rfl, ?_⟩ | refine ⟨_, Cell.at 3 rfl rfl, ?_⟩ | refine ⟨_, Cell.at 4 rfl rfl, ?_⟩ | fail); try (with_reducible refine stI ?_); try simp (maxSteps:=1000000)(dsimp:=false)(disch:=omega) only [go_sem, Φa, hP, h10_6, h10_8, h10_10, h10_77, hops]) | fail)
            all_goals
              refine hK20 () _ (so3 :: (segs fs3 ++ (so2 :: (segs fs2 ++ (so1 :: (segs fs1 ++ (some (gx, .cells ((l ++ [markR]).flatMap Rc.cells).toArray 29 (0, 0)) :: some (bR, .cells [.int .i64 x.1, .int .i64 x.2.1, .bool x.2.2.1, .int .i64 x.2.2.2].toArray 24 (0, 0)) :: L))))))) _ (by first | exact Less.refl _ | exact Less.drop _ _ | exact Less.drops (Less.drop _ _) | exact Less.drops (Less.drops (Less.drop _ _)) | exact Less.drops (Less.drops (Less.drops (Less.drop _ _))) | exact Less.drops (Less.drops (Less.drops (Less.drops (Less.drop _ _))))) ?_
              try dsimp only
              refine ⟨?_, ?_, ?_, ?_, ?_, ?_⟩
              · simp (maxSteps:=1000000)(dsimp:=false)(disch:=omega) only [go_sem, Φa, hP, h10_6, h10_8, h10_10, h10_77]
                first | done | rfl | (refine congrArg Value.bool ?_; simp; done)
              · simp (maxSteps:=1000000)(dsimp:=false)(disch:=omega) only [go_sem, Φa, hP, h10_6, h10_8, h10_10, h10_77]
              · simp (maxSteps:=1000000)(dsimp:=false)(disch:=omega) only [go_sem, Φa, hP, h10_6, h10_8, h10_10, h10_77]
              · simp (maxSteps:=1000000)(dsimp:=false)(disch:=omega) only [go_sem, Φa, hP, h10_6, h10_8, h10_10, h10_77]
              · rfl
              · trivial
          · intro ss T11 L11 hI
            simp only [h10_6, h10_8, h10_10] at hI 
            obtain ⟨h11_83, h11_6, h11_8, h11_10, hL11, hinv⟩ := hI
            replace hL11 := hL11.symm
            subst hL11
            clear h10_6 h10_8 h10_10 h10_77 T10
            refine RX.done ?_
            simp (maxSteps:=1000000)(dsimp:=false)(disch:=omega) only [go_sem, Φa, hP, h11_83, h11_6, h11_8, h11_10, hops]
            refine hK17 _ _ ?_
            try clear hK17 K17
            refine SX.cond_k fun X21 Y21 hX21 hY21 => ?_
            simp (maxSteps:=1000000)(dsimp:=false)(disch:=omega) only [go_sem, Φa, hP, h11_83, h11_6, h11_8, h11_10, condVC]
            refine hY21 ?_
            clear hX21 hY21 X21 Y21
            refine SX.skip ?_
            try simp only [andThen_normal, andThen_ret, andThen_exit, inBlk_normal, inBlk_ret, inBlk_exit, Nat.reduceEqDiff, if_true, if_false, ↓reduceIte]
            refine hK16 _ _ ?_
            try clear hK16 K16
            refine SX.seq_k fun K22 hK22 => ?_
            refine SX.region_xd [some 84, some 85, some 86, some 87, some 88, some 89, some 90, some 91, some 92, some 93, some 4] rfl (fun ops hops => ?_)
            unfold Dsts at hops
            refine RX.live [6, 8, 10] (fun T12 hT12 => ?_)
            simp only [forall_mem_cons', forall_mem_nil', go_sem, Φa, hP, h11_83, h11_6, h11_8, h11_10] at hT12
            obtain ⟨h12_6, h12_8, h12_10⟩ := hT12
            clear h11_83 h11_6 h11_8 h11_10 T11
            have hbf := ofP_bnd x l
            have hfl : fs1.length ≤ 4194304 := by have := congrArg List.length hmap1; rw [List.length_map] at this; omega
            have hbw : ∀ w ∈ fs1.flatMap rsOf, w.l.length ≤ 1099511627776 := fun w hw => Nat.le_trans (rows_bnd (m := 4194304) (fun f hf => by rw [hmap1] at hf; exact hbf.2 f hf) w hw) (by decide)
            have hb2 : SlF (Cell Γ (so3 :: (segs fs3 ++ (so2 :: (segs fs2 ++ (some (gx, .cells ((l ++ [markR]).flatMap Rc.cells).toArray 29 (0, 0)) :: some (bR, .cells [.int .i64 x.1, .int .i64 x.2.1, .bool x.2.2.1, .int .i64 x.2.2.2].toArray 24 (0, 0)) :: L)))))) vo2 (ofP x l).1 := hrow2.slM hfs2 hmap2 (by simp) (fun s hs => by simp [hs])
            have hb3 : SlF (Cell Γ (so3 :: (segs fs3 ++ (so2 :: (segs fs2 ++ (some (gx, .cells ((l ++ [markR]).flatMap Rc.cells).toArray 29 (0, 0)) :: some (bR, .cells [.int .i64 x.1, .int .i64 x.2.1, .bool x.2.2.1, .int .i64 x.2.2.2].toArray 24 (0, 0)) :: L)))))) vo3 (ofP x l).1 := hrow3.slM hfs3 hmap3 (by simp) (fun s hs => by simp [hs])
            refine RX.join 7 (fun (ss : Unit) T L' => T 90 = .bool (true) ∧ L' = so3 :: (segs fs3 ++ (so2 :: (segs fs2 ++ (some (gx, .cells ((l ++ [markR]).flatMap Rc.cells).toArray 29 (0, 0)) :: some (bR, .cells [.int .i64 x.1, .int .i64 x.2.1, .bool x.2.2.1, .int .i64 x.2.2.2].toArray 24 (0, 0)) :: L)))) ∧ (True)) (fun K23 hK23 => ?_) ?_
            · simp (maxSteps:=1000000)(dsimp:=false)(disch:=omega) only [go_sem, Φa, hP, h12_6, h12_8, h12_10, hops]
              repeat' (first | refine iteB (fun hg => ?_) (fun hg => ?_) | refine iteI (fun hg => ?_) (fun hg => ?_) | ((first | (refine SCall.mono (SCall.pre (lessO2 hfs1) (lists_spec (gs := fs1.map gOf) (rws := fs1.flatMap rsOf) hP (gOf_rowG hrow1) (gOf_ok hfs1) (rowsG_map fs1).symm (rows_rws hfs1) (by rw [rows_len]; omega) hbw (by rw [List.length_map]; omega))) ?_; rintro v_ L_ ⟨hv_, hL_⟩; rw [hv_, hL_]; clear hv_ hL_ v_ L_) | (refine SCall.mono (SameAll_spec (l := (ofP x l).1) hP hb2 hb3 (ofP_bnd' _ _).1 (ofP_bnd' _ _).2) ?_; rintro v_ L_ ⟨hv_, hL_⟩; rw [hv_, hL_]; clear hv_ hL_ v_ L_) | (refine SCall.mono (awake_spec hP S) ?_; rintro v_ L_ ⟨hv_, hL_⟩; rw [hv_, hL_]; clear hv_ hL_ v_ L_) | refine And.intro (by omega) ?_ | refine ⟨_, Cell.at 0 rfl rfl, ?_⟩ | refine ⟨_, Cell.at 1 rfl rfl, ?_⟩ | refine ⟨_, Cell.at 2 rfl rfl, ?_⟩ | refine ⟨_, Cell.at 3 rfl rfl, ?_⟩ | fail); try (with_reducible refine stI ?_); try simp (maxSteps:=1000000)(dsimp:=false)(disch:=omega) only [go_sem, Φa, hP, h12_6, h12_8, h12_10, hops]) | fail)
              all_goals
                refine hK23 () _ (so3 :: (segs fs3 ++ (so2 :: (segs fs2 ++ (some (gx, .cells ((l ++ [markR]).flatMap Rc.cells).toArray 29 (0, 0)) :: some (bR, .cells [.int .i64 x.1, .int .i64 x.2.1, .bool x.2.2.1, .int .i64 x.2.2.2].toArray 24 (0, 0)) :: L))))) _ (by first | exact Less.refl _ | exact Less.drop _ _ | exact Less.drops (Less.drop _ _) | exact Less.drops (Less.drops (Less.drop _ _)) | exact Less.drops (Less.drops (Less.drops (Less.drop _ _))) | exact Less.drops (Less.drops (Less.drops (Less.drops (Less.drop _ _))))) ?_
                try dsimp only
                refine ⟨?_, ?_, ?_⟩
                · simp (maxSteps:=1000000)(dsimp:=false)(disch:=omega) only [go_sem, Φa, hP, h12_6, h12_8, h12_10]
                  first | done | rfl | (refine congrArg Value.bool ?_; simp; done)
                · rfl
                · trivial
            · intro ss T13 L13 hI
              obtain ⟨h13_90, hL13, hinv⟩ := hI
              replace hL13 := hL13.symm
              subst hL13
              clear h12_6 h12_8 h12_10 T12
              refine RX.live [90] (fun T14 hT14 => ?_)
              simp only [forall_mem_cons', forall_mem_nil', go_sem, Φa, hP, h13_90] at hT14
              have h14_90 := hT14; clear hT14
              clear h13_90 T13
              refine RX.join 3 (fun (ss : Unit) T L' => T 93 = .bool (true) ∧ L' = so3 :: (segs fs3 ++ (so2 :: (segs fs2 ++ (some (gx, .cells ((l ++ [markR]).flatMap Rc.cells).toArray 29 (0, 0)) :: some (bR, .cells [.int .i64 x.1, .int .i64 x.2.1, .bool x.2.2.1, .int .i64 x.2.2.2].toArray 24 (0, 0)) :: L)))) ∧ (True)) (fun K24 hK24 => ?_) ?_
              · simp (maxSteps:=1000000)(dsimp:=false)(disch:=omega) only [go_sem, Φa, hP, h14_90, hops]
                repeat' (first | refine iteB (fun hg => ?_) (fun hg => ?_) | refine iteI (fun hg => ?_) (fun hg => ?_) | ((first | (refine SCall.mono (SCall.pre (lessO2 hfs1) (lists_spec (gs := fs1.map gOf) (rws := fs1.flatMap rsOf) hP (gOf_rowG hrow1) (gOf_ok hfs1) (rowsG_map fs1).symm (rows_rws hfs1) (by rw [rows_len]; omega) hbw (by rw [List.length_map]; omega))) ?_; rintro v_ L_ ⟨hv_, hL_⟩; rw [hv_, hL_]; clear hv_ hL_ v_ L_) | (refine SCall.mono (SameAll_spec (l := (ofP x l).1) hP hb2 hb3 (ofP_bnd' _ _).1 (ofP_bnd' _ _).2) ?_; rintro v_ L_ ⟨hv_, hL_⟩; rw [hv_, hL_]; clear hv_ hL_ v_ L_) | (refine SCall.mono (awake_spec hP S) ?_; rintro v_ L_ ⟨hv_, hL_⟩; rw [hv_, hL_]; clear hv_ hL_ v_ L_) | refine And.intro (by omega) ?_ | refine ⟨_, Cell.at 0 rfl rfl, ?_⟩ | refine ⟨_, Cell.at 1 rfl rfl, ?_⟩ | refine ⟨_, Cell.at 2 rfl rfl, ?_⟩ | refine ⟨_, Cell.at 3 rfl rfl, ?_⟩ | fail); try (with_reducible refine stI ?_); try simp (maxSteps:=1000000)(dsimp:=false)(disch:=omega) only [go_sem, Φa, hP, h14_90, hops]) | fail)
                all_goals
                  refine hK24 () _ (so3 :: (segs fs3 ++ (so2 :: (segs fs2 ++ (some (gx, .cells ((l ++ [markR]).flatMap Rc.cells).toArray 29 (0, 0)) :: some (bR, .cells [.int .i64 x.1, .int .i64 x.2.1, .bool x.2.2.1, .int .i64 x.2.2.2].toArray 24 (0, 0)) :: L))))) _ (by first | exact Less.refl _ | exact Less.drop _ _ | exact Less.drops (Less.drop _ _) | exact Less.drops (Less.drops (Less.drop _ _)) | exact Less.drops (Less.drops (Less.drops (Less.drop _ _))) | exact Less.drops (Less.drops (Less.drops (Less.drops (Less.drop _ _))))) ?_
                  try dsimp only
                  refine ⟨?_, ?_, ?_⟩
                  · simp (maxSteps:=1000000)(dsimp:=false)(disch:=omega) only [go_sem, Φa, hP, h14_90]
                    first | done | rfl | (refine congrArg Value.bool ?_; simp; done)
                  · rfl
                  · trivial
              · intro ss T15 L15 hI
                obtain ⟨h15_93, hL15, hinv⟩ := hI
                replace hL15 := hL15.symm
                subst hL15
                clear h14_90 T14
                refine RX.done ?_
                simp (maxSteps:=1000000)(dsimp:=false)(disch:=omega) only [go_sem, Φa, hP, h15_93, hops]
                refine hK22 _ _ ?_
                try clear hK22 K22
                refine SX.ret ?_
                simp only [andThen_normal, andThen_ret, andThen_exit, inBlk_normal, inBlk_ret, inBlk_exit, Nat.reduceEqDiff, if_true, if_false, ↓reduceIte, retQ_ret]
                try simp only [res0, res1, res2, res3, stK_e, go_sem, Φa, hP, h15_93]
                exact ⟨_, _, lessZ, rfl, rfl, rfl⟩

end Go.Proofs.YtpakphgeichopaaDoor
