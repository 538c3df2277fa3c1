/- A part of a proof: contracts and plain facts that it stands on. -/
import Derived.Test.YtpakphgeichopaaDoorCC
set_option linter.unusedVariables false
set_option linter.unusedSimpArgs false
namespace Go.Proofs.YtpakphgeichopaaDoor
open Go.RowKit Go.SX Go.Proofs
open Go.SX renaming ia_someH → Φa
set_option maxHeartbeats 1000000 in
set_option maxRecDepth 100000 in
theorem ShowB_spec {Γ : Ctx} (hP : Γ.P = Tryd.prog) {L : Hp} (ho : Γ.own = []) {v : Value} {f : Fm} (hr : SlR (Cell Γ []) v f.rows) (hm : cnt f.rows ≤ 9000000000000000000) (hrl : f.rows.length ≤ 9000000000000000000) (hby : ∀ i, i < f.rows.length → ∀ j, j < (f.rows.getD i []).length → 0 ≤ (f.rows.getD i []).getD j 0 ∧ (f.rows.getD i []).getD j 0 ≤ 255) :
    SCall Γ 18 #[(.agg (f.cells v).toArray)] ([]) (fun v L' => v = .tuple #[.string (showS f).1, .int .i64 (showS f).2] ∧ L' = []) := by
  obtain ⟨A, c, rfl, hc⟩ := Sl.shape hr
  obtain ⟨a1, e1, _, hA⟩ := slR_at hr
  refine SCall.enter (n := 41) (res2 2 3) (hP ▸ Tryd.func18) rfl rfl (by simp) (res2_ok rfl) ?_
  refine SX.seq_k fun K1 hK1 => ?_
  refine SX.region_d [some 1, some 2, some 3] rfl (fun ops hops => ?_)
  unfold Dsts at hops
  simp (maxSteps:=1000000)(dsimp:=false)(disch:=omega) only [go_sem, Φa, hP, hops]
  intro b0
  try with_reducible refine stI ?_
  try simp (maxSteps:=1000000)(dsimp:=false)(disch:=omega) only [go_sem, Φa, hP, hops]
  refine hK1 _ _ ?_
  try clear hK1 K1
  refine SX.seq_k fun K2 hK2 => ?_
  refine SX.seq_k fun K3 hK3 => ?_
  refine SX.region_d [some 10, some 11, some 12] rfl (fun ops hops => ?_)
  unfold Dsts at hops
  simp (maxSteps:=1000000)(dsimp:=false)(disch:=omega) only [go_sem, Φa, hP, hops]
  refine ⟨_, Cell.at 0 rfl (show (Fm.cells _ _)[0]? = _ from rfl), _, Cell.at 0 rfl (show (Fm.cells _ _)[1]? = _ from rfl), _, Cell.at 0 rfl (show (Fm.cells _ _)[2]? = _ from rfl), ?_⟩
  try with_reducible refine stI ?_
  try simp (maxSteps:=1000000)(dsimp:=false)(disch:=omega) only [go_sem, Φa, hP, hops]
  refine SCall.mono (check_spec (f := f) hP (SlR.mono (fun a v h => Cell.any h) hr) hm hrl) ?_
  rintro v_ L_ ⟨hv_, hL_⟩
  rw [hv_, hL_]
  clear hv_ hL_ v_ L_
  try with_reducible refine stI ?_
  try simp (maxSteps:=1000000)(dsimp:=false)(disch:=omega) only [go_sem, Φa, hP, hops]
  refine hK3 _ _ ?_
  try clear hK3 K3
  refine SX.cond_k fun X4 Y4 hX4 hY4 => ?_
  simp (maxSteps:=1000000)(dsimp:=false)(disch:=omega) only [go_sem, Φa, hP, condVC]
  refine ⟨fun hc12 => hX4 ?_, fun hc12 => hY4 ?_⟩
  · clear hX4 hY4 X4 Y4
    refine SX.seq_k fun K5 hK5 => ?_
    refine SX.region_d [some 2, some 3] rfl (fun ops hops => ?_)
    unfold Dsts at hops
    simp (maxSteps:=1000000)(dsimp:=false)(disch:=omega) only [go_sem, Φa, hP, hops]
    refine hK5 _ _ ?_
    try clear hK5 K5
    refine SX.ret ?_
    simp only [andThen_normal, andThen_ret, andThen_exit, inBlk_normal, inBlk_ret, inBlk_exit, Nat.reduceEqDiff, if_true, if_false, ↓reduceIte, retQ_ret]
    try simp only [res0, res1, res2, res3, stK_e, go_sem, Φa, hP]
    refine ⟨_, _, Less.drop _ _, rfl, ?_, rfl⟩
    have h0 : mayF f = false := by simpa using hc12
    unfold showS
    rw [if_neg (by rw [h0]; exact Bool.false_ne_true)]
    rfl
  · clear hX4 hY4 X4 Y4
    refine SX.skip ?_
    try simp only [andThen_normal, andThen_ret, andThen_exit, inBlk_normal, inBlk_ret, inBlk_exit, Nat.reduceEqDiff, if_true, if_false, ↓reduceIte]
    refine hK2 _ _ ?_
    try clear hK2 K2
    refine SX.seq_k fun K6 hK6 => ?_
    have hmt : mayF f = true := by simpa using hc12
    have hmf := of_mayF hmt
    refine SX.region_d [some 4] rfl (fun ops hops => ?_)
    unfold Dsts at hops
    simp (maxSteps:=1000000)(dsimp:=false)(disch:=omega) only [go_sem, Φa, hP, hops]
    intro bb
    try with_reducible refine stI ?_
    try simp (maxSteps:=1000000)(dsimp:=false)(disch:=omega) only [go_sem, Φa, hP, hops]
    refine hK6 _ _ ?_
    try clear hK6 K6
    refine SX.seq_k fun K7 hK7 => ?_
    refine SX.seq_k fun K8 hK8 => ?_
    refine SX.less less_ins ?_
    refine SX.region_d [some 13, some 14, some 15, some 16] rfl (fun ops hops => ?_)
    unfold Dsts at hops
    simp (maxSteps:=1000000)(dsimp:=false)(disch:=omega) only [go_sem, Φa, hP, hops]
    refine ⟨_, Cell.at 2 rfl (show (Fm.cells _ _)[1]? = _ from rfl), ?_⟩
    try with_reducible refine stI ?_
    try simp (maxSteps:=1000000)(dsimp:=false)(disch:=omega) only [go_sem, Φa, hP, hops]
    refine hK8 _ _ ?_
    try clear hK8 K8
    refine SX.live [4, 14, 15, 16] (fun T1 hT1 => ?_)
    simp only [forall_mem_cons', forall_mem_nil', go_sem, Φa, hP] at hT1
    obtain ⟨h1_4, h1_14, h1_15, h1_16⟩ := hT1
    refine SX.block ?_
    refine SX.live [4, 14, 15, 16] (fun T2 hT2 => ?_)
    simp only [forall_mem_cons', forall_mem_nil', go_sem, Φa, hP, h1_4, h1_14, h1_15, h1_16] at hT2
    obtain ⟨h2_4, h2_14, h2_15, h2_16⟩ := hT2
    clear h1_4 h1_14 h1_15 h1_16 T1
    refine SX.loop_k (fun (ss : (Nat) × (Value) × (Value) × (Slot)) T L' => (fun (i : Nat) (p : Value) (vb : Value) (sb : Slot) => T 16 = .int .i64 (i : Int) ∧ T 4 = T2 4 ∧ T 14 = T2 14 ∧ T 15 = T2 15 ∧ L' = BD bb p vb :: sb :: some (b0, .cells (f.cells (.slice A f.rows.length c)).toArray 41 (0, 0)) :: [] ∧ (i ≤ f.rows.length ∧ Ptr bb p ∧ RowI .u8 5 vb (rowsL (f.rows.take i)) sb)) (ss.1) (ss.2.1) (ss.2.2.1) (ss.2.2.2)) (fun (ss : (Nat) × (Value) × (Value) × (Slot)) => (fun (i : Nat) (p : Value) (vb : Value) (sb : Slot) => f.rows.length - i) (ss.1) (ss.2.1) (ss.2.2.1) (ss.2.2.2)) (0, .pointer none, .slice none 0 0, none) ?_ ?_
    · try dsimp only
      refine ⟨?_, ?_, ?_, ?_, ?_, ?_⟩
      · first | exact h2_16 | (rw [h2_16]; rfl) | (rw [h2_16]; simp; done)
      · rfl
      · rfl
      · rfl
      · rfl
      · exact ⟨Nat.zero_le _, .inl rfl, RowI.nil _ _⟩
    · intro ss T3 L3 hI K9 hK9
      obtain ⟨i, p, vb, sb⟩ := ss
      try dsimp only at hI hK9
      simp only [h2_4, h2_14, h2_15] at hI hK9
      obtain ⟨h3_16, h3_4, h3_14, h3_15, hL3, ⟨hi, hp, hrow⟩⟩ := hI
      replace hL3 := hL3.symm
      subst hL3
      clear h2_4 h2_14 h2_15 h2_16 T2
      refine SX.seq_k fun K10 hK10 => ?_
      refine SX.region_d [some 17] rfl (fun ops hops => ?_)
      unfold Dsts at hops
      simp (maxSteps:=1000000)(dsimp:=false)(disch:=omega) only [go_sem, Φa, hP, h3_16, h3_4, h3_14, h3_15, hops]
      repeat' ((first | refine And.intro (by omega) ?_ | fail); try (with_reducible refine stI ?_); try simp (maxSteps:=1000000)(dsimp:=false)(disch:=omega) only [go_sem, Φa, hP, h3_16, h3_4, h3_14, h3_15, hops])
      refine hK10 _ _ ?_
      try clear hK10 K10
      refine SX.seq_k fun K11 hK11 => ?_
      refine SX.cond_k fun X12 Y12 hX12 hY12 => ?_
      simp (maxSteps:=1000000)(dsimp:=false)(disch:=omega) only [go_sem, Φa, hP, h3_16, h3_4, h3_14, h3_15, condVC]
      refine ⟨fun hc17 => hX12 ?_, fun hc17 => hY12 ?_⟩
      · clear hX12 hY12 X12 Y12
        refine SX.skip ?_
        try simp only [andThen_normal, andThen_ret, andThen_exit, inBlk_normal, inBlk_ret, inBlk_exit, Nat.reduceEqDiff, if_true, if_false, ↓reduceIte]
        refine hK11 _ _ ?_
        try clear hK11 K11
        refine SX.seq_k fun K13 hK13 => ?_
        refine SX.block ?_
        refine SX.seq_k fun K14 hK14 => ?_
        have hil : i < f.rows.length := by omega
        obtain ⟨Ai, ci, hci, hcil, hsi⟩ := hA i hil
        obtain ⟨a2, e2, _, hB⟩ := sl_at hsi
        have hr8 := hmf.2.2.2 i hil
        have hlr := rowsL_len hmf.2.2.2 i (by omega)
        refine SX.region_d [some 18, some 19, some 6] rfl (fun ops hops => ?_)
        unfold Dsts at hops
        simp (maxSteps:=1000000)(dsimp:=false)(disch:=omega) only [go_sem, Φa, hP, h3_16, h3_4, h3_14, h3_15, hops, ia_at e1]
        refine ⟨_, Cell.any hci, ?_⟩
        try with_reducible refine stI ?_
        try simp (maxSteps:=1000000)(dsimp:=false)(disch:=omega) only [go_sem, Φa, hP, h3_16, h3_4, h3_14, h3_15, hops, ia_at e1]
        refine hK14 _ _ ?_
        try clear hK14 K14
        refine SX.seq_k fun K15 hK15 => ?_
        refine SX.seq_k fun K16 hK16 => ?_
        refine SX.region_d [some 20, some 21, some 22] rfl (fun ops hops => ?_)
        unfold Dsts at hops
        simp (maxSteps:=1000000)(dsimp:=false)(disch:=omega) only [go_sem, Φa, hP, h3_16, h3_4, h3_14, h3_15, hops]
        repeat' ((first | refine And.intro (by omega) ?_ | fail); try (with_reducible refine stI ?_); try simp (maxSteps:=1000000)(dsimp:=false)(disch:=omega) only [go_sem, Φa, hP, h3_16, h3_4, h3_14, h3_15, hops])
        refine hK16 _ _ ?_
        try clear hK16 K16
        refine SX.block ?_
        refine SX.live [4, 14, 15, 16, 20, 21, 22] (fun T4 hT4 => ?_)
        simp only [forall_mem_cons', forall_mem_nil', go_sem, Φa, hP, h3_16, h3_4, h3_14, h3_15] at hT4
        obtain ⟨h4_4, h4_14, h4_15, h4_16, h4_20, h4_21, h4_22⟩ := hT4
        clear h3_16 h3_4 h3_14 h3_15 T3
        refine SX.loop_k (fun (ss : (Nat) × (Value) × (Value) × (Slot)) T L' => (fun (j : Nat) (p2 : Value) (vb2 : Value) (sb2 : Slot) => T 22 = .int .i64 (j : Int) ∧ T 4 = T4 4 ∧ T 14 = T4 14 ∧ T 15 = T4 15 ∧ T 16 = T4 16 ∧ T 20 = T4 20 ∧ T 21 = T4 21 ∧ L' = BD bb p2 vb2 :: sb2 :: some (b0, .cells (f.cells (.slice A f.rows.length c)).toArray 41 (0, 0)) :: [] ∧ (j ≤ (f.rows.getD i []).length ∧ Ptr bb p2 ∧ RowI .u8 5 vb2 (rowsL (f.rows.take i) ++ rowL ((f.rows.getD i []).take j)) sb2)) (ss.1) (ss.2.1) (ss.2.2.1) (ss.2.2.2)) (fun (ss : (Nat) × (Value) × (Value) × (Slot)) => (fun (j : Nat) (p2 : Value) (vb2 : Value) (sb2 : Slot) => (f.rows.getD i []).length - j) (ss.1) (ss.2.1) (ss.2.2.1) (ss.2.2.2)) (0, p, vb, sb) ?_ ?_
        · try dsimp only
          refine ⟨?_, ?_, ?_, ?_, ?_, ?_, ?_, ?_, ?_⟩
          · first | exact h4_22 | (rw [h4_22]; rfl) | (rw [h4_22]; simp; done)
          · rfl
          · rfl
          · rfl
          · rfl
          · rfl
          · rfl
          · rfl
          · refine ⟨Nat.zero_le _, hp, ?_⟩
            rw [List.take_zero]
            show RowI .u8 5 vb (_ ++ []) sb
            rw [List.append_nil]
            exact hrow
        · intro ss T5 L5 hI K17 hK17
          obtain ⟨j, p2, vb2, sb2⟩ := ss
          try dsimp only at hI hK17
          simp only [h4_4, h4_14, h4_15, h4_16, h4_20, h4_21] at hI hK17
          obtain ⟨h5_22, h5_4, h5_14, h5_15, h5_16, h5_20, h5_21, hL5, ⟨hj, hp2, hrow2⟩⟩ := hI
          replace hL5 := hL5.symm
          subst hL5
          clear h4_4 h4_14 h4_15 h4_16 h4_20 h4_21 h4_22 T4
          refine SX.seq_k fun K18 hK18 => ?_
          refine SX.region_d [some 23] rfl (fun ops hops => ?_)
          unfold Dsts at hops
          simp (maxSteps:=1000000)(dsimp:=false)(disch:=omega) only [go_sem, Φa, hP, h5_22, h5_4, h5_14, h5_15, h5_16, h5_20, h5_21, hops]
          repeat' ((first | refine And.intro (by omega) ?_ | fail); try (with_reducible refine stI ?_); try simp (maxSteps:=1000000)(dsimp:=false)(disch:=omega) only [go_sem, Φa, hP, h5_22, h5_4, h5_14, h5_15, h5_16, h5_20, h5_21, hops])
          refine hK18 _ _ ?_
          try clear hK18 K18
          refine SX.seq_k fun K19 hK19 => ?_
          refine SX.cond_k fun X20 Y20 hX20 hY20 => ?_
          simp (maxSteps:=1000000)(dsimp:=false)(disch:=omega) only [go_sem, Φa, hP, h5_22, h5_4, h5_14, h5_15, h5_16, h5_20, h5_21, condVC]
          refine ⟨fun hc23 => hX20 ?_, fun hc23 => hY20 ?_⟩
          · clear hX20 hY20 X20 Y20
            refine SX.skip ?_
            try simp only [andThen_normal, andThen_ret, andThen_exit, inBlk_normal, inBlk_ret, inBlk_exit, Nat.reduceEqDiff, if_true, if_false, ↓reduceIte]
            refine hK19 _ _ ?_
            try clear hK19 K19
            refine SX.seq_k fun K21 hK21 => ?_
            refine SX.block ?_
            refine SX.seq_k fun K22 hK22 => ?_
            have hjl : j < (f.rows.getD i []).length := by omega
            have hbj := hB j hjl
            have hbb := hby i hil j hjl
            refine SX.region_d [some 24, some 25, some 8] rfl (fun ops hops => ?_)
            unfold Dsts at hops
            simp (maxSteps:=1000000)(dsimp:=false)(disch:=omega) only [go_sem, Φa, hP, h5_22, h5_4, h5_14, h5_15, h5_16, h5_20, h5_21, hops, ia_at e2]
            refine ⟨_, Cell.any hbj, ?_⟩
            try with_reducible refine stI ?_
            try simp (maxSteps:=1000000)(dsimp:=false)(disch:=omega) only [go_sem, Φa, hP, h5_22, h5_4, h5_14, h5_15, h5_16, h5_20, h5_21, hops, ia_at e2]
            refine hK22 _ _ ?_
            try clear hK22 K22
            refine SX.seq_k fun K23 hK23 => ?_
            refine SX.region_d [some 26] rfl (fun ops hops => ?_)
            unfold Dsts at hops
            simp (maxSteps:=1000000)(dsimp:=false)(disch:=omega) only [go_sem, Φa, hP, h5_22, h5_4, h5_14, h5_15, h5_16, h5_20, h5_21, hops]
            refine hK23 _ _ ?_
            try clear hK23 K23
            refine SX.block ?_
            refine SX.live [4, 8, 14, 15, 16, 20, 21, 22, 26] (fun T6 hT6 => ?_)
            simp only [forall_mem_cons', forall_mem_nil', go_sem, Φa, hP, h5_22, h5_4, h5_14, h5_15, h5_16, h5_20, h5_21] at hT6
            obtain ⟨h6_4, h6_8, h6_14, h6_15, h6_16, h6_20, h6_21, h6_22, h6_26⟩ := hT6
            clear h5_22 h5_4 h5_14 h5_15 h5_16 h5_20 h5_21 T5
            refine SX.loop_k (fun (ss : (Nat) × (Value) × (Value) × (Slot)) T L' => (fun (k : Nat) (p3 : Value) (vb3 : Value) (sb3 : Slot) => T 26 = .int .i64 (k : Int) ∧ T 4 = T6 4 ∧ T 8 = T6 8 ∧ T 14 = T6 14 ∧ T 15 = T6 15 ∧ T 16 = T6 16 ∧ T 20 = T6 20 ∧ T 21 = T6 21 ∧ T 22 = T6 22 ∧ L' = BD bb p3 vb3 :: sb3 :: some (b0, .cells (f.cells (.slice A f.rows.length c)).toArray 41 (0, 0)) :: [] ∧ (k ≤ 8 ∧ Ptr bb p3 ∧ RowI .u8 5 vb3 (rowsL (f.rows.take i) ++ rowL ((f.rows.getD i []).take j) ++ (List.range k).map (bitL ((f.rows.getD i []).getD j 0))) sb3)) (ss.1) (ss.2.1) (ss.2.2.1) (ss.2.2.2)) (fun (ss : (Nat) × (Value) × (Value) × (Slot)) => (fun (k : Nat) (p3 : Value) (vb3 : Value) (sb3 : Slot) => 8 - k) (ss.1) (ss.2.1) (ss.2.2.1) (ss.2.2.2)) (0, p2, vb2, sb2) ?_ ?_
            · try dsimp only
              refine ⟨?_, ?_, ?_, ?_, ?_, ?_, ?_, ?_, ?_, ?_, ?_⟩
              · first | exact h6_26 | (rw [h6_26]; rfl) | (rw [h6_26]; simp; done)
              · rfl
              · rfl
              · rfl
              · rfl
              · rfl
              · rfl
              · rfl
              · rfl
              · rfl
              · refine ⟨Nat.zero_le _, hp2, ?_⟩
                rw [List.range_zero, List.map_nil, List.append_nil]
                exact hrow2
            · intro ss T7 L7 hI K24 hK24
              obtain ⟨k, p3, vb3, sb3⟩ := ss
              try dsimp only at hI hK24
              simp only [h6_4, h6_8, h6_14, h6_15, h6_16, h6_20, h6_21, h6_22] at hI hK24
              obtain ⟨h7_26, h7_4, h7_8, h7_14, h7_15, h7_16, h7_20, h7_21, h7_22, hL7, ⟨hk, hp3, hrow3⟩⟩ := hI
              replace hL7 := hL7.symm
              subst hL7
              clear h6_4 h6_8 h6_14 h6_15 h6_16 h6_20 h6_21 h6_22 h6_26 T6
              refine SX.seq_k fun K25 hK25 => ?_
              refine SX.region_d [some 27] rfl (fun ops hops => ?_)
              unfold Dsts at hops
              simp (maxSteps:=1000000)(dsimp:=false)(disch:=omega) only [go_sem, Φa, hP, h7_26, h7_4, h7_8, h7_14, h7_15, h7_16, h7_20, h7_21, h7_22, hops]
              repeat' ((first | refine And.intro (by omega) ?_ | fail); try (with_reducible refine stI ?_); try simp (maxSteps:=1000000)(dsimp:=false)(disch:=omega) only [go_sem, Φa, hP, h7_26, h7_4, h7_8, h7_14, h7_15, h7_16, h7_20, h7_21, h7_22, hops])
              refine hK25 _ _ ?_
              try clear hK25 K25
              refine SX.seq_k fun K26 hK26 => ?_
              refine SX.cond_k fun X27 Y27 hX27 hY27 => ?_
              simp (maxSteps:=1000000)(dsimp:=false)(disch:=omega) only [go_sem, Φa, hP, h7_26, h7_4, h7_8, h7_14, h7_15, h7_16, h7_20, h7_21, h7_22, condVC]
              refine ⟨fun hc27 => hX27 ?_, fun hc27 => hY27 ?_⟩
              · clear hX27 hY27 X27 Y27
                refine SX.skip ?_
                try simp only [andThen_normal, andThen_ret, andThen_exit, inBlk_normal, inBlk_ret, inBlk_exit, Nat.reduceEqDiff, if_true, if_false, ↓reduceIte]
                refine hK26 _ _ ?_
                try clear hK26 K26
                refine SX.seq_k fun K28 hK28 => ?_
                refine SX.block ?_
                refine SX.seq_k fun K29 hK29 => ?_
                refine SX.region_d [some 28, some 9] rfl (fun ops hops => ?_)
                unfold Dsts at hops
                simp (maxSteps:=1000000)(dsimp:=false)(disch:=omega) only [go_sem, Φa, hP, h7_26, h7_4, h7_8, h7_14, h7_15, h7_16, h7_20, h7_21, h7_22, hops]
                refine hK29 _ _ ?_
                try clear hK29 K29
                refine SX.seq_k fun K30 hK30 => ?_
                have hk8 : k < 8 := by omega
                have hmin : min k 8 = k := by omega
                refine SX.region_d [some 29, some 30, some 31, some 32, some 33] rfl (fun ops hops => ?_)
                unfold Dsts at hops
                simp (maxSteps:=1000000)(dsimp:=false)(disch:=omega) only [go_sem, Φa, hP, h7_26, h7_4, h7_8, h7_14, h7_15, h7_16, h7_20, h7_21, h7_22, hops, hmin, bit_test hbb hk8]
                repeat' ((first | refine And.intro (by omega) ?_ | fail); try (with_reducible refine stI ?_); try simp (maxSteps:=1000000)(dsimp:=false)(disch:=omega) only [go_sem, Φa, hP, h7_26, h7_4, h7_8, h7_14, h7_15, h7_16, h7_20, h7_21, h7_22, hops, hmin, bit_test hbb hk8])
                refine hK30 _ _ ?_
                try clear hK30 K30
                refine SX.cond_k fun X31 Y31 hX31 hY31 => ?_
                simp (maxSteps:=1000000)(dsimp:=false)(disch:=omega) only [go_sem, Φa, hP, h7_26, h7_4, h7_8, h7_14, h7_15, h7_16, h7_20, h7_21, h7_22, condVC]
                refine ⟨fun hc33 => hX31 ?_, fun hc33 => hY31 ?_⟩
                · clear hX31 hY31 X31 Y31
                  refine SX.region_d [some 34] rfl (fun ops hops => ?_)
                  unfold Dsts at hops
                  simp (maxSteps:=1000000)(dsimp:=false)(disch:=omega) only [go_sem, Φa, hP, h7_26, h7_4, h7_8, h7_14, h7_15, h7_16, h7_20, h7_21, h7_22, hops]
                  refine SCall.mono (WriteByte_spec hP hp3 hrow3 (by simp only [List.length_append, rowL_len, List.length_map, List.length_range, List.length_take]; omega)) ?_
                  rintro v_ L_ ⟨rfl, vb', sb', rfl, hrow'⟩
                  try with_reducible refine stI ?_
                  try simp (maxSteps:=1000000)(dsimp:=false)(disch:=omega) only [go_sem, Φa, hP, h7_26, h7_4, h7_8, h7_14, h7_15, h7_16, h7_20, h7_21, h7_22, hops]
                  refine hK28 _ _ ?_
                  try clear hK28 K28
                  refine SX.live [4, 8, 14, 15, 16, 20, 21, 22, 26] (fun T8 hT8 => ?_)
                  simp only [forall_mem_cons', forall_mem_nil', go_sem, Φa, hP, h7_26, h7_4, h7_8, h7_14, h7_15, h7_16, h7_20, h7_21, h7_22] at hT8
                  obtain ⟨h8_4, h8_8, h8_14, h8_15, h8_16, h8_20, h8_21, h8_22, h8_26⟩ := hT8
                  clear h7_26 h7_4 h7_8 h7_14 h7_15 h7_16 h7_20 h7_21 h7_22 T7
                  refine SX.region_d [some 36, some 26] rfl (fun ops hops => ?_)
                  unfold Dsts at hops
                  simp (maxSteps:=1000000)(dsimp:=false)(disch:=omega) only [go_sem, Φa, hP, h8_4, h8_8, h8_14, h8_15, h8_16, h8_20, h8_21, h8_22, h8_26, hops]
                  repeat' ((first | refine And.intro (by omega) ?_ | fail); try (with_reducible refine stI ?_); try simp (maxSteps:=1000000)(dsimp:=false)(disch:=omega) only [go_sem, Φa, hP, h8_4, h8_8, h8_14, h8_15, h8_16, h8_20, h8_21, h8_22, h8_26, hops])
                  refine hK24 (k + 1, selfP bb, vb', sb') _ (BD bb (selfP bb) vb' :: sb' :: some (b0, .cells (f.cells (.slice A f.rows.length c)).toArray 41 (0, 0)) :: []) _ (by first | exact Less.refl _ | exact Less.drop _ _ | exact Less.drops (Less.drop _ _) | exact Less.drops (Less.drops (Less.drop _ _)) | exact Less.drops (Less.drops (Less.drops (Less.drop _ _))) | exact Less.drops (Less.drops (Less.drops (Less.drops (Less.drop _ _))))) ?_ ?_
                  · try dsimp only
                    refine ⟨?_, ?_, ?_, ?_, ?_, ?_, ?_, ?_, ?_, ?_, ?_⟩
                    · simp (maxSteps:=1000000)(dsimp:=false)(disch:=omega) only [go_sem, Φa, hP, h8_4, h8_8, h8_14, h8_15, h8_16, h8_20, h8_21, h8_22, h8_26]
                      first | done | rfl | skip
                    · simp (maxSteps:=1000000)(dsimp:=false)(disch:=omega) only [go_sem, Φa, hP, h8_4, h8_8, h8_14, h8_15, h8_16, h8_20, h8_21, h8_22, h8_26]
                    · simp (maxSteps:=1000000)(dsimp:=false)(disch:=omega) only [go_sem, Φa, hP, h8_4, h8_8, h8_14, h8_15, h8_16, h8_20, h8_21, h8_22, h8_26]
                    · simp (maxSteps:=1000000)(dsimp:=false)(disch:=omega) only [go_sem, Φa, hP, h8_4, h8_8, h8_14, h8_15, h8_16, h8_20, h8_21, h8_22, h8_26]
                    · simp (maxSteps:=1000000)(dsimp:=false)(disch:=omega) only [go_sem, Φa, hP, h8_4, h8_8, h8_14, h8_15, h8_16, h8_20, h8_21, h8_22, h8_26]
                    · simp (maxSteps:=1000000)(dsimp:=false)(disch:=omega) only [go_sem, Φa, hP, h8_4, h8_8, h8_14, h8_15, h8_16, h8_20, h8_21, h8_22, h8_26]
                    · simp (maxSteps:=1000000)(dsimp:=false)(disch:=omega) only [go_sem, Φa, hP, h8_4, h8_8, h8_14, h8_15, h8_16, h8_20, h8_21, h8_22, h8_26]
                    · simp (maxSteps:=1000000)(dsimp:=false)(disch:=omega) only [go_sem, Φa, hP, h8_4, h8_8, h8_14, h8_15, h8_16, h8_20, h8_21, h8_22, h8_26]
                    · simp (maxSteps:=1000000)(dsimp:=false)(disch:=omega) only [go_sem, Φa, hP, h8_4, h8_8, h8_14, h8_15, h8_16, h8_20, h8_21, h8_22, h8_26]
                    · rfl
                    · refine ⟨by omega, .inr rfl, ?_⟩
                      rw [range_bit, ← List.append_assoc, show bitL ((f.rows.getD i []).getD j 0) k = 35 from if_pos (by simpa using hc33)]
                      exact hrow'
                  · (try dsimp only); omega
                · clear hX31 hY31 X31 Y31
                  refine SX.region_d [some 35] rfl (fun ops hops => ?_)
                  unfold Dsts at hops
                  simp (maxSteps:=1000000)(dsimp:=false)(disch:=omega) only [go_sem, Φa, hP, h7_26, h7_4, h7_8, h7_14, h7_15, h7_16, h7_20, h7_21, h7_22, hops]
                  refine SCall.mono (WriteByte_spec hP hp3 hrow3 (by simp only [List.length_append, rowL_len, List.length_map, List.length_range, List.length_take]; omega)) ?_
                  rintro v_ L_ ⟨rfl, vb', sb', rfl, hrow'⟩
                  try with_reducible refine stI ?_
                  try simp (maxSteps:=1000000)(dsimp:=false)(disch:=omega) only [go_sem, Φa, hP, h7_26, h7_4, h7_8, h7_14, h7_15, h7_16, h7_20, h7_21, h7_22, hops]
                  refine hK28 _ _ ?_
                  try clear hK28 K28
                  refine SX.live [4, 8, 14, 15, 16, 20, 21, 22, 26] (fun T9 hT9 => ?_)
                  simp only [forall_mem_cons', forall_mem_nil', go_sem, Φa, hP, h7_26, h7_4, h7_8, h7_14, h7_15, h7_16, h7_20, h7_21, h7_22] at hT9
                  obtain ⟨h9_4, h9_8, h9_14, h9_15, h9_16, h9_20, h9_21, h9_22, h9_26⟩ := hT9
                  clear h7_26 h7_4 h7_8 h7_14 h7_15 h7_16 h7_20 h7_21 h7_22 T7
                  refine SX.region_d [some 36, some 26] rfl (fun ops hops => ?_)
                  unfold Dsts at hops
                  simp (maxSteps:=1000000)(dsimp:=false)(disch:=omega) only [go_sem, Φa, hP, h9_4, h9_8, h9_14, h9_15, h9_16, h9_20, h9_21, h9_22, h9_26, hops]
                  repeat' ((first | refine And.intro (by omega) ?_ | fail); try (with_reducible refine stI ?_); try simp (maxSteps:=1000000)(dsimp:=false)(disch:=omega) only [go_sem, Φa, hP, h9_4, h9_8, h9_14, h9_15, h9_16, h9_20, h9_21, h9_22, h9_26, hops])
                  refine hK24 (k + 1, selfP bb, vb', sb') _ (BD bb (selfP bb) vb' :: sb' :: some (b0, .cells (f.cells (.slice A f.rows.length c)).toArray 41 (0, 0)) :: []) _ (by first | exact Less.refl _ | exact Less.drop _ _ | exact Less.drops (Less.drop _ _) | exact Less.drops (Less.drops (Less.drop _ _)) | exact Less.drops (Less.drops (Less.drops (Less.drop _ _))) | exact Less.drops (Less.drops (Less.drops (Less.drops (Less.drop _ _))))) ?_ ?_
                  · try dsimp only
                    refine ⟨?_, ?_, ?_, ?_, ?_, ?_, ?_, ?_, ?_, ?_, ?_⟩
                    · simp (maxSteps:=1000000)(dsimp:=false)(disch:=omega) only [go_sem, Φa, hP, h9_4, h9_8, h9_14, h9_15, h9_16, h9_20, h9_21, h9_22, h9_26]
                      first | done | rfl | skip
                    · simp (maxSteps:=1000000)(dsimp:=false)(disch:=omega) only [go_sem, Φa, hP, h9_4, h9_8, h9_14, h9_15, h9_16, h9_20, h9_21, h9_22, h9_26]
                    · simp (maxSteps:=1000000)(dsimp:=false)(disch:=omega) only [go_sem, Φa, hP, h9_4, h9_8, h9_14, h9_15, h9_16, h9_20, h9_21, h9_22, h9_26]
                    · simp (maxSteps:=1000000)(dsimp:=false)(disch:=omega) only [go_sem, Φa, hP, h9_4, h9_8, h9_14, h9_15, h9_16, h9_20, h9_21, h9_22, h9_26]
                    · simp (maxSteps:=1000000)(dsimp:=false)(disch:=omega) only [go_sem, Φa, hP, h9_4, h9_8, h9_14, h9_15, h9_16, h9_20, h9_21, h9_22, h9_26]
                    · simp (maxSteps:=1000000)(dsimp:=false)(disch:=omega) only [go_sem, Φa, hP, h9_4, h9_8, h9_14, h9_15, h9_16, h9_20, h9_21, h9_22, h9_26]
                    · simp (maxSteps:=1000000)(dsimp:=false)(disch:=omega) only [go_sem, Φa, hP, h9_4, h9_8, h9_14, h9_15, h9_16, h9_20, h9_21, h9_22, h9_26]
                    · simp (maxSteps:=1000000)(dsimp:=false)(disch:=omega) only [go_sem, Φa, hP, h9_4, h9_8, h9_14, h9_15, h9_16, h9_20, h9_21, h9_22, h9_26]
                    · simp (maxSteps:=1000000)(dsimp:=false)(disch:=omega) only [go_sem, Φa, hP, h9_4, h9_8, h9_14, h9_15, h9_16, h9_20, h9_21, h9_22, h9_26]
                    · rfl
                    · refine ⟨by omega, .inr rfl, ?_⟩
                      rw [range_bit, ← List.append_assoc, show bitL ((f.rows.getD i []).getD j 0) k = 46 from if_neg (by simpa using hc33)]
                      exact hrow'
                  · (try dsimp only); omega
              · clear hX27 hY27 X27 Y27
                refine SX.exit ?_
                try simp only [andThen_normal, andThen_ret, andThen_exit, inBlk_normal, inBlk_ret, inBlk_exit, Nat.reduceEqDiff, if_true, if_false, ↓reduceIte]
                refine hK21 _ _ ?_
                try clear hK21 K21
                refine SX.region_d [some 37, some 22] rfl (fun ops hops => ?_)
                unfold Dsts at hops
                simp (maxSteps:=1000000)(dsimp:=false)(disch:=omega) only [go_sem, Φa, hP, h7_26, h7_4, h7_8, h7_14, h7_15, h7_16, h7_20, h7_21, h7_22, hops]
                repeat' ((first | refine And.intro (by omega) ?_ | fail); try (with_reducible refine stI ?_); try simp (maxSteps:=1000000)(dsimp:=false)(disch:=omega) only [go_sem, Φa, hP, h7_26, h7_4, h7_8, h7_14, h7_15, h7_16, h7_20, h7_21, h7_22, hops])
                refine hK17 (j + 1, p3, vb3, sb3) _ (BD bb p3 vb3 :: sb3 :: some (b0, .cells (f.cells (.slice A f.rows.length c)).toArray 41 (0, 0)) :: []) _ (by first | exact Less.refl _ | exact Less.drop _ _ | exact Less.drops (Less.drop _ _) | exact Less.drops (Less.drops (Less.drop _ _)) | exact Less.drops (Less.drops (Less.drops (Less.drop _ _))) | exact Less.drops (Less.drops (Less.drops (Less.drops (Less.drop _ _))))) ?_ ?_
                · try dsimp only
                  refine ⟨?_, ?_, ?_, ?_, ?_, ?_, ?_, ?_, ?_⟩
                  · simp (maxSteps:=1000000)(dsimp:=false)(disch:=omega) only [go_sem, Φa, hP, h7_26, h7_4, h7_8, h7_14, h7_15, h7_16, h7_20, h7_21, h7_22]
                    first | done | rfl | skip
                  · simp (maxSteps:=1000000)(dsimp:=false)(disch:=omega) only [go_sem, Φa, hP, h7_26, h7_4, h7_8, h7_14, h7_15, h7_16, h7_20, h7_21, h7_22]
                  · simp (maxSteps:=1000000)(dsimp:=false)(disch:=omega) only [go_sem, Φa, hP, h7_26, h7_4, h7_8, h7_14, h7_15, h7_16, h7_20, h7_21, h7_22]
                  · simp (maxSteps:=1000000)(dsimp:=false)(disch:=omega) only [go_sem, Φa, hP, h7_26, h7_4, h7_8, h7_14, h7_15, h7_16, h7_20, h7_21, h7_22]
                  · simp (maxSteps:=1000000)(dsimp:=false)(disch:=omega) only [go_sem, Φa, hP, h7_26, h7_4, h7_8, h7_14, h7_15, h7_16, h7_20, h7_21, h7_22]
                  · simp (maxSteps:=1000000)(dsimp:=false)(disch:=omega) only [go_sem, Φa, hP, h7_26, h7_4, h7_8, h7_14, h7_15, h7_16, h7_20, h7_21, h7_22]
                  · simp (maxSteps:=1000000)(dsimp:=false)(disch:=omega) only [go_sem, Φa, hP, h7_26, h7_4, h7_8, h7_14, h7_15, h7_16, h7_20, h7_21, h7_22]
                  · rfl
                  · refine ⟨by omega, hp3, ?_⟩
                    obtain rfl : k = 8 := by omega
                    rw [rowL_take hjl, ← List.append_assoc]
                    exact hrow3
                · (try dsimp only); omega
          · clear hX20 hY20 X20 Y20
            refine SX.exit ?_
            try simp only [andThen_normal, andThen_ret, andThen_exit, inBlk_normal, inBlk_ret, inBlk_exit, Nat.reduceEqDiff, if_true, if_false, ↓reduceIte]
            refine hK15 _ _ ?_
            try clear hK15 K15
            refine SX.region_d [some 38] rfl (fun ops hops => ?_)
            unfold Dsts at hops
            simp (maxSteps:=1000000)(dsimp:=false)(disch:=omega) only [go_sem, Φa, hP, h5_22, h5_4, h5_14, h5_15, h5_16, h5_20, h5_21, hops]
            refine SCall.mono (WriteByte_spec hP hp2 hrow2 (by simp only [List.length_append, rowL_len, List.length_map, List.length_range, List.length_take]; omega)) ?_
            rintro v_ L_ ⟨rfl, vb', sb', rfl, hrow'⟩
            try with_reducible refine stI ?_
            try simp (maxSteps:=1000000)(dsimp:=false)(disch:=omega) only [go_sem, Φa, hP, h5_22, h5_4, h5_14, h5_15, h5_16, h5_20, h5_21, hops]
            refine hK13 _ _ ?_
            try clear hK13 K13
            refine SX.region_d [some 39, some 16] rfl (fun ops hops => ?_)
            unfold Dsts at hops
            simp (maxSteps:=1000000)(dsimp:=false)(disch:=omega) only [go_sem, Φa, hP, h5_22, h5_4, h5_14, h5_15, h5_16, h5_20, h5_21, hops]
            repeat' ((first | refine And.intro (by omega) ?_ | fail); try (with_reducible refine stI ?_); try simp (maxSteps:=1000000)(dsimp:=false)(disch:=omega) only [go_sem, Φa, hP, h5_22, h5_4, h5_14, h5_15, h5_16, h5_20, h5_21, hops])
            refine hK9 (i + 1, selfP bb, vb', sb') _ (BD bb (selfP bb) vb' :: sb' :: some (b0, .cells (f.cells (.slice A f.rows.length c)).toArray 41 (0, 0)) :: []) _ (by first | exact Less.refl _ | exact Less.drop _ _ | exact Less.drops (Less.drop _ _) | exact Less.drops (Less.drops (Less.drop _ _)) | exact Less.drops (Less.drops (Less.drops (Less.drop _ _))) | exact Less.drops (Less.drops (Less.drops (Less.drops (Less.drop _ _))))) ?_ ?_
            · try dsimp only
              refine ⟨?_, ?_, ?_, ?_, ?_, ?_⟩
              · simp (maxSteps:=1000000)(dsimp:=false)(disch:=omega) only [go_sem, Φa, hP, h5_22, h5_4, h5_14, h5_15, h5_16, h5_20, h5_21]
                first | done | rfl | skip
              · simp (maxSteps:=1000000)(dsimp:=false)(disch:=omega) only [go_sem, Φa, hP, h5_22, h5_4, h5_14, h5_15, h5_16, h5_20, h5_21]
              · simp (maxSteps:=1000000)(dsimp:=false)(disch:=omega) only [go_sem, Φa, hP, h5_22, h5_4, h5_14, h5_15, h5_16, h5_20, h5_21]
              · simp (maxSteps:=1000000)(dsimp:=false)(disch:=omega) only [go_sem, Φa, hP, h5_22, h5_4, h5_14, h5_15, h5_16, h5_20, h5_21]
              · rfl
              · refine ⟨by omega, .inr rfl, ?_⟩
                rw [rowsL_take hil]
                obtain rfl : j = (f.rows.getD i []).length := by omega
                rw [List.take_of_length_le (Nat.le_refl _)] at hrow'
                exact hrow'
            · (try dsimp only); omega
      · clear hX12 hY12 X12 Y12
        refine SX.exit ?_
        try simp only [andThen_normal, andThen_ret, andThen_exit, inBlk_normal, inBlk_ret, inBlk_exit, Nat.reduceEqDiff, if_true, if_false, ↓reduceIte]
        refine hK7 _ _ ?_
        try clear hK7 K7
        refine SX.seq_k fun K32 hK32 => ?_
        refine SX.region_d [some 40, some 2, some 3] rfl (fun ops hops => ?_)
        unfold Dsts at hops
        simp (maxSteps:=1000000)(dsimp:=false)(disch:=omega) only [go_sem, Φa, hP, h3_16, h3_4, h3_14, h3_15, hops]
        obtain rfl : i = f.rows.length := by omega
        rw [List.take_length] at hrow
        refine SCall.mono (String_spec hP ho hp hrow (rowsL_byte _)) ?_
        rintro v_ L_ ⟨hv_, hL_⟩
        rw [hv_, hL_]
        clear hv_ hL_ v_ L_
        try with_reducible refine stI ?_
        try simp (maxSteps:=1000000)(dsimp:=false)(disch:=omega) only [go_sem, Φa, hP, h3_16, h3_4, h3_14, h3_15, hops]
        refine hK32 _ _ ?_
        try clear hK32 K32
        refine SX.ret ?_
        simp only [andThen_normal, andThen_ret, andThen_exit, inBlk_normal, inBlk_ret, inBlk_exit, Nat.reduceEqDiff, if_true, if_false, ↓reduceIte, retQ_ret]
        try simp only [res0, res1, res2, res3, stK_e, go_sem, Φa, hP, h3_16, h3_4, h3_14, h3_15]
        refine ⟨_, _, Less.refl _, rfl, ?_, rfl⟩
        unfold showS
        rw [if_pos hmt]

end Go.Proofs.YtpakphgeichopaaDoor
set_option linter.unusedVariables false
set_option linter.unusedSimpArgs false
namespace Go.Proofs.YtpakphgeichopaaDoor
open Go.RowKit Go.SX Go.Proofs

end Go.Proofs.YtpakphgeichopaaDoor
set_option linter.unusedVariables false
set_option linter.unusedSimpArgs false
namespace Go.Proofs.YtpakphgeichopaaDoor
open Go.RowKit Go.SX Go.Proofs
theorem Show_spec {Γ : Ctx} (hP : Γ.P = Tryd.prog) {L : Hp} {v : Value} {f : Fm} (hr : SlR (Cell Γ L) v f.rows) (hm : cnt f.rows ≤ 9000000000000000000) (hrl : f.rows.length ≤ 9000000000000000000) (hby : ∀ i, i < f.rows.length → ∀ j, j < (f.rows.getD i []).length → 0 ≤ (f.rows.getD i []).getD j 0 ∧ (f.rows.getD i []).getD j 0 ≤ 255) :
    SCall Γ 18 #[(.agg (f.cells v).toArray)] L (fun v L' => v = .tuple #[.string (showS f).1, .int .i64 (showS f).2] ∧ L' = L) :=
  SCall.lift fun w hi => ShowB_spec (Γ := ⟨Γ.P, w, []⟩) (L := []) hP rfl (SlR.mono (fun a v h => Cell.lift hi h) hr) hm hrl hby

end Go.Proofs.YtpakphgeichopaaDoor
set_option linter.unusedVariables false
set_option linter.unusedSimpArgs false
namespace Go.Proofs.YtpakphgeichopaaDoor
open Go.RowKit Go.SX Go.Proofs

theorem less_mid1 {a b : Slot} {L : Hp} : Less (a :: b :: L) (a :: L) := Less.sublist (.cons_cons _ (.cons _ (List.Sublist.refl _)))
theorem zerosV_flat {α : Type} (f : α → List Value) (x : α) (n : Nat) : zerosV (f x) n = (List.replicate n x).flatMap f := by
  unfold zerosV
  induction n with
  | zero => rfl
  | succ n ih => rw [List.replicate_succ, List.flatten_cons, ih, List.replicate_succ, List.flatMap_cons]
theorem Sl.take {α : Type} {sz : Nat} {R : (Addr → Value → Prop) → Addr → α → Prop} {C : Addr → Value → Prop} {A : Option Addr} {n c k : Nat} {xs : List α} (h : Sl sz R C (.slice A n c) xs) (hk : k ≤ n) : Sl sz R C (.slice A k c) (xs.take k) := by
  obtain ⟨A', c', he, hc, hA⟩ := h
  injection he with e1 e2 e3
  subst e1 e2 e3
  refine ⟨A, c, by rw [List.length_take, Nat.min_eq_left hk], by rw [List.length_take]; omega, fun j x hj => ?_⟩
  rw [List.getElem?_take] at hj
  split at hj
  · exact hA j x hj
  · cases hj
theorem cutA0 (b : Option Addr) (sz m : Nat) : cutA b sz m 0 = b := by
  unfold cutA
  split
  · rfl
  · cases b <;> simp [Addr.add_zero']
/-! A trace in which nothing is asked. -/
def pos (p : Nat) : Ras := ((p / 14 : Nat), (p % 14 : Nat), false, 0)
theorem pos_ok {p : Nat} (h : p < 3668) : okR (pos p) = true := by
  show okB ((p / 14 : Nat) : Int) ((p % 14 : Nat) : Int) 0 = true
  exact okB_of (by omega)
theorem idle_step {l c : Int} (h : okB l c 0 = true) : rasN (l, c, false, 0) default = if c + 1 = 14 then (if l + 1 = 262 then 0 else l + 1, 0, false, 0) else (l, c + 1, false, 0) := by
  show step l c false 0 0 0 false false 0 = _
  unfold step
  rw [if_pos ⟨h, by decide⟩]
  simp [tB, wB, onB]
theorem pos_step {p : Nat} (h : p < 3668) : rasN (pos p) default = if p + 1 = 3668 then pos 0 else pos (p + 1) := by
  have hs := idle_step (l := ((p / 14 : Nat) : Int)) (c := ((p % 14 : Nat) : Int)) (pos_ok h)
  have hp : rasN (pos p) default = _ := hs
  rw [hp]
  by_cases h1 : p % 14 = 13
  · rw [if_pos (by omega)]
    by_cases h2 : p + 1 = 3668
    · rw [if_pos h2, if_pos (by omega)]; rfl
    · rw [if_neg h2, if_neg (by omega)]
      have e1 : (p + 1) / 14 = p / 14 + 1 := by omega
      have e2 : (p + 1) % 14 = 0 := by omega
      unfold pos
      rw [e1, e2]; rfl
  · rw [if_neg (by omega), if_neg (by omega)]
    have e1 : (p + 1) / 14 = p / 14 := by omega
    have e2 : (p + 1) % 14 = p % 14 + 1 := by omega
    unfold pos
    rw [e1, e2]; simp
theorem pos_atZ {p : Nat} : atZ (pos p) = decide (p = 0) := by
  unfold atZ pos
  simp only
  rw [Bool.eq_iff_iff]
  simp only [Bool.and_eq_true, decide_eq_true_eq]
  omega
theorem rep_getD_default {α : Type} [Inhabited α] (n k : Nat) : (List.replicate n (default : α)).getD k default = default := by
  rw [List.getD_eq_getElem?_getD, List.getElem?_replicate]
  split <;> rfl
theorem took_none {p : Nat} {rows : List (List Int)} : tookN (pos p) default rows = rows := by
  unfold tookN
  rw [if_neg (by simp [takesN, tB, wB, pos])]
theorem still_at {n : Nat} : ∀ k, k + 1 < 3668 → stAt (pos 0) (List.replicate n default) (k + 1) = ⟨pos (k + 1), some (0, List.replicate 128 []), []⟩
  | 0, _ => by
    rw [stAt, rep_getD_default]
    show stF ⟨pos 0, none, []⟩ _ _ = _
    have hs := pos_step (p := 0) (by decide)
    rw [if_neg (by decide)] at hs
    rw [stF_go (a := 0) (rows := List.replicate 128 []) rfl (by rw [hs, pos_atZ]; rfl), took_none, hs]
  | k + 1, hk => by
    have hs := pos_step (p := k + 1) (by omega)
    rw [if_neg (by omega)] at hs
    rw [stAt, rep_getD_default, still_at k (by omega), stF_go (a := 0) (rows := List.replicate 128 []) (by unfold begunN; rw [if_neg (by rw [pos_atZ]; simp)]) (by rw [hs, pos_atZ]; simp), took_none, hs]
theorem zChk {n : Nat} (h : n ≤ 4194304) : chkL (List.replicate n default) = 0 := chkL_good (by rw [List.length_replicate]; omega) fun j hj => by rw [rep_getD_default]; rfl
theorem ofP_short : ofP (pos 0) (List.replicate 3667 default) = ([], 0) := by
  rw [ofP_ok (pos_ok (by decide)) (zChk (by decide)), List.length_replicate, still_at 3666 (by decide)]
theorem ofP_one : ofP (pos 0) (List.replicate 3668 default) = ([⟨0, List.replicate 128 [], true⟩], 0) := by
  rw [ofP_ok (pos_ok (by decide)) (zChk (by decide)), List.length_replicate, stAt, rep_getD_default, still_at 3666 (by decide)]
  have hs := pos_step (p := 3667) (by decide)
  rw [if_pos rfl] at hs
  rw [stF_fin (a := 0) (rows := List.replicate 128 []) (by unfold begunN; rw [if_neg (by rw [pos_atZ]; simp)]) (by rw [hs, pos_atZ]; rfl), took_none]
  simp only [List.nil_append, shortB, cnt_rep]
  rfl
/-! The frame of one byte. -/
def oneF : Fm := ⟨0, [129] :: List.replicate 127 [], true⟩
theorem oneF_sl {Γ : Ctx} {L : Hp} {g h c : Nat} (hg : some (g, Obj.cells ((List.replicate 128 (Value.slice none 0 0)).set 0 (.slice (some ⟨h, 0, none⟩) 1 c)).toArray 50 (0, 0)) ∈ L) (hh : some (h, Obj.cells [Value.int .u8 129].toArray 5 (0, 0)) ∈ L) (hc : 1 ≤ c) : SlR (Cell Γ L) (.slice (some ⟨g, 0, none⟩) 128 128) oneF.rows := by
  obtain ⟨i, hi⟩ := List.mem_iff_getElem?.1 hg
  obtain ⟨i2, hi2⟩ := List.mem_iff_getElem?.1 hh
  have hl128 : oneF.rows.length = 128 := by rw [oneF]; simp only [List.length_cons, List.length_replicate]
  refine ⟨_, 128, by rw [hl128], by rw [hl128]; exact Nat.le_refl _, fun j r hj => ⟨_, rfl, ?_⟩⟩
  have hjl : j < 128 := by have := (List.getElem?_eq_some_iff.1 hj).1; omega
  rw [Nat.mul_one, Addr.add_lit, Nat.zero_add]
  cases j with
  | zero =>
    simp only [oneF, List.getElem?_cons_zero, Option.some.injEq] at hj
    subst hj
    exact ⟨_, Cell.at i hi rfl, SlI.own (xs := [129]) i2 hi2 rfl hc⟩
  | succ j =>
    simp only [oneF, List.getElem?_cons_succ] at hj
    rw [List.getElem?_replicate] at hj
    split at hj
    · cases hj
      refine ⟨.slice none 0 0, Cell.at i hi ?_, ⟨none, 0, rfl, Nat.le_refl _, fun j x hj => by simp at hj⟩⟩
      rw [List.getElem?_set, if_neg (by omega), List.getElem?_replicate, if_pos hjl]
    · cases hj
theorem oneF_may : mayF oneF = true := by decide +kernel
theorem oneF_len : (txt (rowsL oneF.rows)).size = 136 := by decide +kernel
theorem oneF_head : (txt (rowsL oneF.rows)).extract 0 9 = ⟨#[35, 46, 46, 46, 46, 46, 46, 35, 10]⟩ := by decide +kernel
theorem oneF_show : showS oneF = (txt (rowsL oneF.rows), 0) := if_pos oneF_may
set_option maxHeartbeats 1000000 in
set_option maxRecDepth 100000 in
theorem empty_spec {Γ : Ctx} (hP : Γ.P = Tryd.prog) {L : Hp} {h n c : Nat} :
    SCall Γ 26 #[(.slice (some ⟨h, 0, none⟩) n c)] L (fun v L' => ∃ g, v = .agg #[.int .i64 0, .slice (some ⟨g, 0, none⟩) 128 128, .bool true] ∧ L' = some (g, .cells ((List.replicate 128 (.slice none 0 0)).set 0 (.slice (some ⟨h, 0, none⟩) n c)).toArray 50 (0, 0)) :: L) := by
  refine SCall.enter (n := 11) (resX Γ [.cell 2 41]) (hP ▸ Tryd.func26) rfl rfl (by simp) (resX_ok rfl) ?_
  refine SX.seq_k fun K1 hK1 => ?_
  refine SX.region_d [some 2] rfl (fun ops hops => ?_)
  unfold Dsts at hops
  simp (maxSteps := 1000000) (dsimp := false) (disch := omega) only [go_sem, ia_someH, hP, hops]
  intro b2
  try with_reducible refine stI ?_
  try simp (maxSteps := 1000000) (dsimp := false) (disch := omega) only [go_sem, ia_someH, hP, hops]
  refine hK1 _ _ ?_
  try clear hK1 K1
  refine SX.seq_k fun K2 hK2 => ?_
  refine SX.region_d [some 4, some 5, some 3, none] rfl (fun ops hops => ?_)
  unfold Dsts at hops
  simp (maxSteps := 1000000) (dsimp := false) (disch := omega) only [go_sem, ia_someH, hP, hops]
  intro g
  try with_reducible refine stI ?_
  try simp (maxSteps := 1000000) (dsimp := false) (disch := omega) only [go_sem, ia_someH, hP, hops]
  rw [zerosV_one]
  try with_reducible refine stI ?_
  try simp (maxSteps := 1000000) (dsimp := false) (disch := omega) only [go_sem, ia_someH, hP, hops]
  intro b3
  try with_reducible refine stI ?_
  try simp (maxSteps := 1000000) (dsimp := false) (disch := omega) only [go_sem, ia_someH, hP, hops]
  refine ⟨0, _, _, _, rfl, (by simp), .inr (by decide), ?_⟩
  try with_reducible refine stI ?_
  try simp (maxSteps := 1000000) (dsimp := false) (disch := omega) only [go_sem, ia_someH, hP, hops]
  refine hK2 _ _ ?_
  try clear hK2 K2
  refine SX.seq_k fun K3 hK3 => ?_
  refine SX.region_d [some 6, some 7, some 8, some 9, none] rfl (fun ops hops => ?_)
  unfold Dsts at hops
  simp (maxSteps := 1000000) (dsimp := false) (disch := omega) only [go_sem, ia_someH, hP, hops]
  refine ⟨_, Cell.at 0 rfl rfl, ?_⟩
  try with_reducible refine stI ?_
  try simp (maxSteps := 1000000) (dsimp := false) (disch := omega) only [go_sem, ia_someH, hP, hops]
  refine ⟨1, _, _, _, rfl, (by simp), .inr (by decide), ?_⟩
  try with_reducible refine stI ?_
  try simp (maxSteps := 1000000) (dsimp := false) (disch := omega) only [go_sem, ia_someH, hP, hops]
  refine hK3 _ _ ?_
  try clear hK3 K3
  refine SX.seq_k fun K4 hK4 => ?_
  refine SX.region_d [some 10, none] rfl (fun ops hops => ?_)
  unfold Dsts at hops
  simp (maxSteps := 1000000) (dsimp := false) (disch := omega) only [go_sem, ia_someH, hP, hops]
  refine ⟨_, Cell.at 0 rfl rfl, _, Cell.at 0 rfl rfl, _, Cell.at 0 rfl rfl, ?_⟩
  try with_reducible refine stI ?_
  try simp (maxSteps := 1000000) (dsimp := false) (disch := omega) only [go_sem, ia_someH, hP, hops]
  refine ⟨2, _, _, _, rfl, (by simp), .inr (by decide), ?_⟩
  try with_reducible refine stI ?_
  try simp (maxSteps := 1000000) (dsimp := false) (disch := omega) only [go_sem, ia_someH, hP, hops]
  refine hK4 _ _ ?_
  try clear hK4 K4
  refine SX.ret ?_
  simp only [andThen_normal, andThen_ret, andThen_exit, inBlk_normal, inBlk_ret, inBlk_exit, Nat.reduceEqDiff, if_true, if_false, ↓reduceIte, retQ_ret]
  try simp only [res0, res1, res2, res3, stK_e, resX, resK, oneOr, ld_ptr, loadVC, loadN, List.nil_append, List.cons_append, Nat.reduceAdd, Nat.add_zero, Nat.zero_add, Addr.add_lit, Addr.add_zero', add_addS, T.elA_41, T.lay_41, T.szA_41, T.zr_41, Tryd.underlying41, go_sem, ia_someH, hP]
  exact ⟨_, _, Less.drops (less_mid1), ⟨_, Cell.at 2 rfl rfl, _, Cell.at 2 rfl rfl, _, Cell.at 2 rfl rfl, rfl⟩, g, rfl, rfl⟩

end Go.Proofs.YtpakphgeichopaaDoor
set_option linter.unusedVariables false
set_option linter.unusedSimpArgs false
namespace Go.Proofs.YtpakphgeichopaaDoor
open Go.RowKit Go.SX Go.Proofs
open Go.SX renaming ia_someH → Φa

theorem map_one {α β : Type} {f : α → β} {l : List α} {b : β} (h : l.map f = [b]) : ∃ p, l = [p] ∧ f p = b := by
  match l, h with
  | [p], h => exact ⟨p, rfl, by simpa using h⟩
theorem oneF_by : ∀ i, i < oneF.rows.length → ∀ j, j < (oneF.rows.getD i []).length → 0 ≤ (oneF.rows.getD i []).getD j 0 ∧ (oneF.rows.getD i []).getD j 0 ≤ 255 := by
  intro i hi j hj
  cases i with
  | zero =>
    have : j = 0 := by simp [oneF] at hj; omega
    subst this
    exact ⟨by decide, by decide⟩
  | succ i =>
    exfalso
    have hl : oneF.rows.length = 128 := by rw [oneF]; simp only [List.length_cons, List.length_replicate]
    have h0 : oneF.rows.getD (i + 1) [] = [] := by
      show (List.replicate 127 []).getD i [] = _
      exact rep_getD (by omega)
    rw [h0] at hj
    simp at hj
theorem oneF_cnt : cnt oneF.rows = 1 := by decide +kernel
theorem zSl {Γ : Ctx} {L : Hp} {g : Nat} {Z : List Rc} {n : Nat} (hl : Z.length = n) (hn : n ≤ 9223372036854775807) : SlC (Cell Γ (some (g, .cells (Z.flatMap Rc.cells).toArray 29 (0, 0)) :: L)) (.slice (some ⟨g, 0, none⟩) n n) Z := by
  refine RowL.sl (i := 0) Rc.len (e := 29) (s := some (g, .cells (Z.flatMap Rc.cells).toArray 29 (0, 0))) ?_ rfl
  show Row 29 8 _ Z.length _ _
  rw [hl]
  exact Row.lit (by rw [flat_len Rc.len, hl]) hn
set_option maxHeartbeats 1000000 in
set_option maxRecDepth 100000 in
theorem awake_spec {Γ : Ctx} (hP : Γ.P = Tryd.prog) {L : Hp} (S : SH Γ) :
    SCall Γ 11 #[] L (fun v L' => v = .bool true ∧ L' = L) := by
  refine SCall.enter (n := 72) (res1 0) (hP ▸ Tryd.func11) rfl rfl (by simp) (res1_ok rfl) ?_
  refine SX.seq_k fun K1 hK1 => ?_
  refine SX.region_d [some 0] rfl (fun ops hops => ?_)
  unfold Dsts at hops
  simp (maxSteps:=1000000)(dsimp:=false)(disch:=omega) only [go_sem, Φa, hP, hops]
  refine hK1 _ _ ?_
  try clear hK1 K1
  refine SX.seq_k fun K2 hK2 => ?_
  refine SX.region_d [some 8, some 1] rfl (fun ops hops => ?_)
  unfold Dsts at hops
  simp (maxSteps:=1000000)(dsimp:=false)(disch:=omega) only [go_sem, Φa, hP, hops]
  intro g1
  try with_reducible refine stI ?_
  try simp (maxSteps:=1000000)(dsimp:=false)(disch:=omega) only [go_sem, Φa, hP, hops]
  rw [show zerosV [.int .u8 0, .int .u16 0, .int .u8 0, .bool false, .bool false, .int .u8 0, .bool false, .int .u8 0] 3668 = (List.replicate 3668 (default : Rc)).flatMap Rc.cells from zerosV_flat Rc.cells default 3668]
  try with_reducible refine stI ?_
  try simp (maxSteps:=1000000)(dsimp:=false)(disch:=omega) only [go_sem, Φa, hP, hops]
  refine hK2 _ _ ?_
  try clear hK2 K2
  refine SX.seq_k fun K3 hK3 => ?_
  have hO1 := ofP_one
  have hO2 := ofP_short
  have hZl : (List.replicate 3668 (default : Rc)).length = 3668 := List.length_replicate ..
  rw [show List.replicate 3667 (default : Rc) = (List.replicate 3668 default).take 3667 by rw [List.take_replicate]; rfl] at hO2
  generalize List.replicate 3668 (default : Rc) = Z at hO1 hO2 hZl ⊢
  generalize List.replicate 128 ([] : List Int) = R at hO1
  have hS1 : SlC (Cell Γ (some (g1, .cells (Z.flatMap Rc.cells).toArray 29 (0, 0)) :: L)) (.slice (some ⟨g1, 0, none⟩) 3668 3668) Z := zSl hZl (by decide)
  refine SX.region_d [some 10, some 11, some 12, some 9, some 13, some 14, some 2, some 3] rfl (fun ops hops => ?_)
  unfold Dsts at hops
  simp (maxSteps:=1000000)(dsimp:=false)(disch:=omega) only [go_sem, Φa, hP, hops]
  refine SCall.mono (Of_spec (x := pos 0) (l := Z) hP hS1 (by rw [hZl]; decide) S) ?_
  rintro v_ L_ ⟨vo1, so1, fs1, rfl, rfl, hrow1, hfs1, hmap1⟩
  rw [hO1] at hmap1 ⊢
  obtain ⟨⟨f1, d1⟩, rfl, hp1⟩ := map_one hmap1
  dsimp only at hp1
  subst hp1
  obtain ⟨gA, capA, junkA, rfl, rfl, hcA, _⟩ := RowL.form hrow1 (by simp)
  try with_reducible refine stI ?_
  try simp (maxSteps:=1000000)(dsimp:=false)(disch:=omega) only [go_sem, Φa, hP, hops]
  refine hK3 _ _ ?_
  try clear hK3 K3
  refine SX.live [1, 2, 3] (fun T1 hT1 => ?_)
  simp only [forall_mem_cons', forall_mem_nil', go_sem, Φa, hP] at hT1
  obtain ⟨h1_1, h1_2, h1_3⟩ := hT1
  refine SX.seq_k fun K4 hK4 => ?_
  have hS2 : SlC (Cell Γ (some (gA, .cells ([((⟨0, R, true⟩ : Fm), d1)].flatMap fval ++ junkA).toArray 41 (0, 0)) :: (segs [((⟨0, R, true⟩ : Fm), d1)] ++ (some (g1, .cells (Z.flatMap Rc.cells).toArray 29 (0, 0)) :: L)))) (.slice (some ⟨g1, 0, none⟩) 3667 3668) (Z.take 3667) := Sl.take (SlC.mono (fun a v h => Cell.cons _ (Cell.app _ h)) hS1) (by decide)
  refine SX.region_d [some 16, some 17, some 18, some 19, some 15, some 20, some 21, some 4, some 5] rfl (fun ops hops => ?_)
  unfold Dsts at hops
  simp (maxSteps:=1000000)(dsimp:=false)(disch:=omega) only [go_sem, Φa, hP, h1_1, h1_2, h1_3, hops, cutA0, Nat.sub_zero]
  refine SCall.mono (Of_spec (x := pos 0) (l := Z.take 3667) hP hS2 (by rw [List.length_take, hZl]; decide) S) ?_
  rintro v_ L_ ⟨vo2, so2, fs2, rfl, rfl, hrow2, hfs2, hmap2⟩
  rw [hO2] at hmap2 ⊢
  obtain rfl := List.map_eq_nil_iff.1 hmap2
  obtain ⟨A2, c2, rfl, hc2, _⟩ := Row.form hrow2
  simp only [segs, List.nil_append]
  try with_reducible refine stI ?_
  try simp (maxSteps:=1000000)(dsimp:=false)(disch:=omega) only [go_sem, Φa, hP, h1_1, h1_2, h1_3, hops, cutA0, Nat.sub_zero]
  refine hK4 _ _ ?_
  try clear hK4 K4
  refine SX.live [2, 3, 4, 5] (fun T2 hT2 => ?_)
  simp only [forall_mem_cons', forall_mem_nil', go_sem, Φa, hP, h1_1, h1_2, h1_3] at hT2
  obtain ⟨h2_2, h2_3, h2_4, h2_5⟩ := hT2
  clear h1_1 h1_2 h1_3 T1
  refine SX.seq_k fun K5 hK5 => ?_
  refine SX.region_d [some 23, some 24, some 25, some 22, some 26, some 27, some 6, some 7] rfl (fun ops hops => ?_)
  unfold Dsts at hops
  simp (maxSteps:=1000000)(dsimp:=false)(disch:=omega) only [go_sem, Φa, hP, h2_2, h2_3, h2_4, h2_5, hops]
  intro g4
  try with_reducible refine stI ?_
  try simp (maxSteps:=1000000)(dsimp:=false)(disch:=omega) only [go_sem, Φa, hP, h2_2, h2_3, h2_4, h2_5, hops]
  refine SCall.mono (empty_spec hP) ?_
  rintro v_ L_ ⟨g5, rfl, rfl⟩
  try with_reducible refine stI ?_
  try simp (maxSteps:=1000000)(dsimp:=false)(disch:=omega) only [go_sem, Φa, hP, h2_2, h2_3, h2_4, h2_5, hops]
  refine SCall.mono (Show_spec (f := oneF) hP (oneF_sl (g := g5) (h := g4) (c := 1) (List.mem_cons_self ..) (List.mem_cons_of_mem _ (List.mem_cons_self ..)) (Nat.le_refl _)) (by rw [oneF_cnt]; decide) (by decide +kernel) oneF_by) ?_
  rintro v_ L_ ⟨rfl, rfl⟩
  rw [oneF_show]
  try with_reducible refine stI ?_
  try simp (maxSteps:=1000000)(dsimp:=false)(disch:=omega) only [go_sem, Φa, hP, h2_2, h2_3, h2_4, h2_5, hops]
  refine hK5 _ _ ?_
  try clear hK5 K5
  refine SX.seq_k fun K6 hK6 => ?_
  refine SX.region_xd [some 28, some 29, some 30, some 31, some 32, some 33, some 34, some 35, some 36, some 37, some 38, some 39, some 40, some 41, some 42, some 43, some 44, some 45, some 46, some 47, some 48, some 49, some 50, some 51, some 52, some 53, some 54, some 55, some 56, some 57, some 58, some 59, some 60, some 61, some 62, some 63, some 64, some 65, some 66, some 67, some 68, some 69, some 70, some 71, some 0] rfl (fun ops hops => ?_)
  unfold Dsts at hops
  refine RX.live [2, 3, 4, 5, 6, 7] (fun T3 hT3 => ?_)
  simp only [forall_mem_cons', forall_mem_nil', go_sem, Φa, hP, h2_2, h2_3, h2_4, h2_5] at hT3
  obtain ⟨h3_2, h3_3, h3_4, h3_5, h3_6, h3_7⟩ := hT3
  clear h2_2 h2_3 h2_4 h2_5 T2
  have hs1 := oneF_len
  have hs2 := oneF_head
  refine RX.join 7 (fun (ss : Unit) T L' => T 34 = .bool (true) ∧ T 2 = T3 2 ∧ T 4 = T3 4 ∧ T 5 = T3 5 ∧ T 6 = T3 6 ∧ T 7 = T3 7 ∧ L' = some (g5, .cells ((List.replicate 128 (.slice none 0 0)).set 0 (.slice (some ⟨g4, 0, none⟩) 1 1)).toArray 50 (0, 0)) :: some (g4, .cells [.int .u8 129].toArray 5 (0, 0)) :: so2 :: some (gA, .cells ([((⟨0, R, true⟩ : Fm), d1)].flatMap fval ++ junkA).toArray 41 (0, 0)) :: (segs [((⟨0, R, true⟩ : Fm), d1)] ++ (some (g1, .cells (Z.flatMap Rc.cells).toArray 29 (0, 0)) :: L)) ∧ (True)) (fun K7 hK7 => ?_) ?_
  · simp only [h3_2, h3_4, h3_5, h3_6, h3_7] at hK7
    simp (maxSteps:=1000000)(dsimp:=false)(disch:=omega) only [go_sem, Φa, hP, h3_2, h3_3, h3_4, h3_5, h3_6, h3_7, hops, hs1, hs2]
    repeat' (first | refine iteB (fun hg => ?_) (fun hg => ?_) | refine iteI (fun hg => ?_) (fun hg => ?_) | ((first | refine ⟨_, Cell.at 3 rfl rfl, ?_⟩ | refine And.intro (by omega) ?_ | refine ⟨_, Cell.at 0 rfl rfl, ?_⟩ | refine ⟨_, Cell.at 1 rfl rfl, ?_⟩ | refine ⟨_, Cell.at 2 rfl rfl, ?_⟩ | refine ⟨_, Cell.at 3 rfl rfl, ?_⟩ | refine ⟨_, Cell.at 4 rfl rfl, ?_⟩ | fail); try (with_reducible refine stI ?_); try simp (maxSteps:=1000000)(dsimp:=false)(disch:=omega) only [go_sem, Φa, hP, h3_2, h3_3, h3_4, h3_5, h3_6, h3_7, hops, hs1, hs2]) | fail)
    all_goals
      refine hK7 () _ (some (g5, .cells ((List.replicate 128 (.slice none 0 0)).set 0 (.slice (some ⟨g4, 0, none⟩) 1 1)).toArray 50 (0, 0)) :: some (g4, .cells [.int .u8 129].toArray 5 (0, 0)) :: so2 :: some (gA, .cells ([((⟨0, R, true⟩ : Fm), d1)].flatMap fval ++ junkA).toArray 41 (0, 0)) :: (segs [((⟨0, R, true⟩ : Fm), d1)] ++ (some (g1, .cells (Z.flatMap Rc.cells).toArray 29 (0, 0)) :: L))) _ (by first | exact Less.refl _ | exact Less.drop _ _ | exact Less.drops (Less.drop _ _) | exact Less.drops (Less.drops (Less.drop _ _)) | exact Less.drops (Less.drops (Less.drops (Less.drop _ _))) | exact Less.drops (Less.drops (Less.drops (Less.drops (Less.drop _ _))))) ?_
      try dsimp only
      refine ⟨?_, ?_, ?_, ?_, ?_, ?_, ?_, ?_⟩
      · simp (maxSteps:=1000000)(dsimp:=false)(disch:=omega) only [go_sem, Φa, hP, h3_2, h3_3, h3_4, h3_5, h3_6, h3_7]
        first | done | rfl
      · simp (maxSteps:=1000000)(dsimp:=false)(disch:=omega) only [go_sem, Φa, hP, h3_2, h3_3, h3_4, h3_5, h3_6, h3_7]
      · simp (maxSteps:=1000000)(dsimp:=false)(disch:=omega) only [go_sem, Φa, hP, h3_2, h3_3, h3_4, h3_5, h3_6, h3_7]
      · simp (maxSteps:=1000000)(dsimp:=false)(disch:=omega) only [go_sem, Φa, hP, h3_2, h3_3, h3_4, h3_5, h3_6, h3_7]
      · simp (maxSteps:=1000000)(dsimp:=false)(disch:=omega) only [go_sem, Φa, hP, h3_2, h3_3, h3_4, h3_5, h3_6, h3_7]
      · simp (maxSteps:=1000000)(dsimp:=false)(disch:=omega) only [go_sem, Φa, hP, h3_2, h3_3, h3_4, h3_5, h3_6, h3_7]
      · rfl
      · trivial
  · intro ss T4 L4 hI
    simp only [h3_2, h3_4, h3_5, h3_6, h3_7] at hI 
    obtain ⟨h4_34, h4_2, h4_4, h4_5, h4_6, h4_7, hL4, hinv⟩ := hI
    replace hL4 := hL4.symm
    subst hL4
    clear h3_2 h3_3 h3_4 h3_5 h3_6 h3_7 T3
    refine RX.live [2, 4, 5, 6, 7, 34] (fun T5 hT5 => ?_)
    simp only [forall_mem_cons', forall_mem_nil', go_sem, Φa, hP, h4_34, h4_2, h4_4, h4_5, h4_6, h4_7] at hT5
    obtain ⟨h5_2, h5_4, h5_5, h5_6, h5_7, h5_34⟩ := hT5
    clear h4_34 h4_2 h4_4 h4_5 h4_6 h4_7 T4
    refine RX.join 6 (fun (ss : Unit) T L' => T 40 = .bool (true) ∧ T 2 = T5 2 ∧ T 4 = T5 4 ∧ T 5 = T5 5 ∧ T 6 = T5 6 ∧ T 7 = T5 7 ∧ L' = some (g5, .cells ((List.replicate 128 (.slice none 0 0)).set 0 (.slice (some ⟨g4, 0, none⟩) 1 1)).toArray 50 (0, 0)) :: some (g4, .cells [.int .u8 129].toArray 5 (0, 0)) :: so2 :: some (gA, .cells ([((⟨0, R, true⟩ : Fm), d1)].flatMap fval ++ junkA).toArray 41 (0, 0)) :: (segs [((⟨0, R, true⟩ : Fm), d1)] ++ (some (g1, .cells (Z.flatMap Rc.cells).toArray 29 (0, 0)) :: L)) ∧ (True)) (fun K8 hK8 => ?_) ?_
    · simp only [h5_2, h5_4, h5_5, h5_6, h5_7] at hK8
      simp (maxSteps:=1000000)(dsimp:=false)(disch:=omega) only [go_sem, Φa, hP, h5_2, h5_4, h5_5, h5_6, h5_7, h5_34, hops, hs1, hs2]
      repeat' (first | refine iteB (fun hg => ?_) (fun hg => ?_) | refine iteI (fun hg => ?_) (fun hg => ?_) | ((first | refine ⟨_, Cell.at 3 rfl rfl, ?_⟩ | refine And.intro (by omega) ?_ | refine ⟨_, Cell.at 0 rfl rfl, ?_⟩ | refine ⟨_, Cell.at 1 rfl rfl, ?_⟩ | refine ⟨_, Cell.at 2 rfl rfl, ?_⟩ | refine ⟨_, Cell.at 3 rfl rfl, ?_⟩ | refine ⟨_, Cell.at 4 rfl rfl, ?_⟩ | fail); try (with_reducible refine stI ?_); try simp (maxSteps:=1000000)(dsimp:=false)(disch:=omega) only [go_sem, Φa, hP, h5_2, h5_4, h5_5, h5_6, h5_7, h5_34, hops, hs1, hs2]) | fail)
      all_goals
        refine hK8 () _ (some (g5, .cells ((List.replicate 128 (.slice none 0 0)).set 0 (.slice (some ⟨g4, 0, none⟩) 1 1)).toArray 50 (0, 0)) :: some (g4, .cells [.int .u8 129].toArray 5 (0, 0)) :: so2 :: some (gA, .cells ([((⟨0, R, true⟩ : Fm), d1)].flatMap fval ++ junkA).toArray 41 (0, 0)) :: (segs [((⟨0, R, true⟩ : Fm), d1)] ++ (some (g1, .cells (Z.flatMap Rc.cells).toArray 29 (0, 0)) :: L))) _ (by first | exact Less.refl _ | exact Less.drop _ _ | exact Less.drops (Less.drop _ _) | exact Less.drops (Less.drops (Less.drop _ _)) | exact Less.drops (Less.drops (Less.drops (Less.drop _ _))) | exact Less.drops (Less.drops (Less.drops (Less.drops (Less.drop _ _))))) ?_
        try dsimp only
        refine ⟨?_, ?_, ?_, ?_, ?_, ?_, ?_, ?_⟩
        · simp (maxSteps:=1000000)(dsimp:=false)(disch:=omega) only [go_sem, Φa, hP, h5_2, h5_4, h5_5, h5_6, h5_7, h5_34]
          first | done | rfl
        · simp (maxSteps:=1000000)(dsimp:=false)(disch:=omega) only [go_sem, Φa, hP, h5_2, h5_4, h5_5, h5_6, h5_7, h5_34]
        · simp (maxSteps:=1000000)(dsimp:=false)(disch:=omega) only [go_sem, Φa, hP, h5_2, h5_4, h5_5, h5_6, h5_7, h5_34]
        · simp (maxSteps:=1000000)(dsimp:=false)(disch:=omega) only [go_sem, Φa, hP, h5_2, h5_4, h5_5, h5_6, h5_7, h5_34]
        · simp (maxSteps:=1000000)(dsimp:=false)(disch:=omega) only [go_sem, Φa, hP, h5_2, h5_4, h5_5, h5_6, h5_7, h5_34]
        · simp (maxSteps:=1000000)(dsimp:=false)(disch:=omega) only [go_sem, Φa, hP, h5_2, h5_4, h5_5, h5_6, h5_7, h5_34]
        · rfl
        · trivial
    · intro ss T6 L6 hI
      simp only [h5_2, h5_4, h5_5, h5_6, h5_7] at hI 
      obtain ⟨h6_40, h6_2, h6_4, h6_5, h6_6, h6_7, hL6, hinv⟩ := hI
      replace hL6 := hL6.symm
      subst hL6
      clear h5_2 h5_4 h5_5 h5_6 h5_7 h5_34 T5
      refine RX.live [2, 4, 5, 6, 7, 40] (fun T7 hT7 => ?_)
      simp only [forall_mem_cons', forall_mem_nil', go_sem, Φa, hP, h6_40, h6_2, h6_4, h6_5, h6_6, h6_7] at hT7
      obtain ⟨h7_2, h7_4, h7_5, h7_6, h7_7, h7_40⟩ := hT7
      clear h6_40 h6_2 h6_4 h6_5 h6_6 h6_7 T6
      refine RX.join 8 (fun (ss : Unit) T L' => T 48 = .bool (true) ∧ T 4 = T7 4 ∧ T 5 = T7 5 ∧ T 6 = T7 6 ∧ T 7 = T7 7 ∧ L' = some (g5, .cells ((List.replicate 128 (.slice none 0 0)).set 0 (.slice (some ⟨g4, 0, none⟩) 1 1)).toArray 50 (0, 0)) :: some (g4, .cells [.int .u8 129].toArray 5 (0, 0)) :: so2 :: some (gA, .cells ([((⟨0, R, true⟩ : Fm), d1)].flatMap fval ++ junkA).toArray 41 (0, 0)) :: (segs [((⟨0, R, true⟩ : Fm), d1)] ++ (some (g1, .cells (Z.flatMap Rc.cells).toArray 29 (0, 0)) :: L)) ∧ (True)) (fun K9 hK9 => ?_) ?_
      · simp only [h7_4, h7_5, h7_6, h7_7] at hK9
        simp (maxSteps:=1000000)(dsimp:=false)(disch:=omega) only [go_sem, Φa, hP, h7_2, h7_4, h7_5, h7_6, h7_7, h7_40, hops, hs1, hs2]
        repeat' (first | refine iteB (fun hg => ?_) (fun hg => ?_) | refine iteI (fun hg => ?_) (fun hg => ?_) | ((first | refine ⟨_, Cell.at 3 rfl rfl, ?_⟩ | refine And.intro (by omega) ?_ | refine ⟨_, Cell.at 0 rfl rfl, ?_⟩ | refine ⟨_, Cell.at 1 rfl rfl, ?_⟩ | refine ⟨_, Cell.at 2 rfl rfl, ?_⟩ | refine ⟨_, Cell.at 3 rfl rfl, ?_⟩ | refine ⟨_, Cell.at 4 rfl rfl, ?_⟩ | fail); try (with_reducible refine stI ?_); try simp (maxSteps:=1000000)(dsimp:=false)(disch:=omega) only [go_sem, Φa, hP, h7_2, h7_4, h7_5, h7_6, h7_7, h7_40, hops, hs1, hs2]) | fail)
        all_goals
          refine hK9 () _ (some (g5, .cells ((List.replicate 128 (.slice none 0 0)).set 0 (.slice (some ⟨g4, 0, none⟩) 1 1)).toArray 50 (0, 0)) :: some (g4, .cells [.int .u8 129].toArray 5 (0, 0)) :: so2 :: some (gA, .cells ([((⟨0, R, true⟩ : Fm), d1)].flatMap fval ++ junkA).toArray 41 (0, 0)) :: (segs [((⟨0, R, true⟩ : Fm), d1)] ++ (some (g1, .cells (Z.flatMap Rc.cells).toArray 29 (0, 0)) :: L))) _ (by first | exact Less.refl _ | exact Less.drop _ _ | exact Less.drops (Less.drop _ _) | exact Less.drops (Less.drops (Less.drop _ _)) | exact Less.drops (Less.drops (Less.drops (Less.drop _ _))) | exact Less.drops (Less.drops (Less.drops (Less.drops (Less.drop _ _))))) ?_
          try dsimp only
          refine ⟨?_, ?_, ?_, ?_, ?_, ?_, ?_⟩
          · simp (maxSteps:=1000000)(dsimp:=false)(disch:=omega) only [go_sem, Φa, hP, h7_2, h7_4, h7_5, h7_6, h7_7, h7_40]
            first | done | rfl
          · simp (maxSteps:=1000000)(dsimp:=false)(disch:=omega) only [go_sem, Φa, hP, h7_2, h7_4, h7_5, h7_6, h7_7, h7_40]
          · simp (maxSteps:=1000000)(dsimp:=false)(disch:=omega) only [go_sem, Φa, hP, h7_2, h7_4, h7_5, h7_6, h7_7, h7_40]
          · simp (maxSteps:=1000000)(dsimp:=false)(disch:=omega) only [go_sem, Φa, hP, h7_2, h7_4, h7_5, h7_6, h7_7, h7_40]
          · simp (maxSteps:=1000000)(dsimp:=false)(disch:=omega) only [go_sem, Φa, hP, h7_2, h7_4, h7_5, h7_6, h7_7, h7_40]
          · rfl
          · trivial
      · intro ss T8 L8 hI
        simp only [h7_4, h7_5, h7_6, h7_7] at hI 
        obtain ⟨h8_48, h8_4, h8_5, h8_6, h8_7, hL8, hinv⟩ := hI
        replace hL8 := hL8.symm
        subst hL8
        clear h7_2 h7_4 h7_5 h7_6 h7_7 h7_40 T7
        refine RX.live [4, 5, 6, 7, 48] (fun T9 hT9 => ?_)
        simp only [forall_mem_cons', forall_mem_nil', go_sem, Φa, hP, h8_48, h8_4, h8_5, h8_6, h8_7] at hT9
        obtain ⟨h9_4, h9_5, h9_6, h9_7, h9_48⟩ := hT9
        clear h8_48 h8_4 h8_5 h8_6 h8_7 T8
        refine RX.join 4 (fun (ss : Unit) T L' => T 52 = .bool (true) ∧ T 4 = T9 4 ∧ T 6 = T9 6 ∧ T 7 = T9 7 ∧ L' = some (g5, .cells ((List.replicate 128 (.slice none 0 0)).set 0 (.slice (some ⟨g4, 0, none⟩) 1 1)).toArray 50 (0, 0)) :: some (g4, .cells [.int .u8 129].toArray 5 (0, 0)) :: so2 :: some (gA, .cells ([((⟨0, R, true⟩ : Fm), d1)].flatMap fval ++ junkA).toArray 41 (0, 0)) :: (segs [((⟨0, R, true⟩ : Fm), d1)] ++ (some (g1, .cells (Z.flatMap Rc.cells).toArray 29 (0, 0)) :: L)) ∧ (True)) (fun K10 hK10 => ?_) ?_
        · simp only [h9_4, h9_6, h9_7] at hK10
          simp (maxSteps:=1000000)(dsimp:=false)(disch:=omega) only [go_sem, Φa, hP, h9_4, h9_5, h9_6, h9_7, h9_48, hops, hs1, hs2]
          repeat' (first | refine iteB (fun hg => ?_) (fun hg => ?_) | refine iteI (fun hg => ?_) (fun hg => ?_) | ((first | refine ⟨_, Cell.at 3 rfl rfl, ?_⟩ | refine And.intro (by omega) ?_ | refine ⟨_, Cell.at 0 rfl rfl, ?_⟩ | refine ⟨_, Cell.at 1 rfl rfl, ?_⟩ | refine ⟨_, Cell.at 2 rfl rfl, ?_⟩ | refine ⟨_, Cell.at 3 rfl rfl, ?_⟩ | refine ⟨_, Cell.at 4 rfl rfl, ?_⟩ | fail); try (with_reducible refine stI ?_); try simp (maxSteps:=1000000)(dsimp:=false)(disch:=omega) only [go_sem, Φa, hP, h9_4, h9_5, h9_6, h9_7, h9_48, hops, hs1, hs2]) | fail)
          all_goals
            refine hK10 () _ (some (g5, .cells ((List.replicate 128 (.slice none 0 0)).set 0 (.slice (some ⟨g4, 0, none⟩) 1 1)).toArray 50 (0, 0)) :: some (g4, .cells [.int .u8 129].toArray 5 (0, 0)) :: so2 :: some (gA, .cells ([((⟨0, R, true⟩ : Fm), d1)].flatMap fval ++ junkA).toArray 41 (0, 0)) :: (segs [((⟨0, R, true⟩ : Fm), d1)] ++ (some (g1, .cells (Z.flatMap Rc.cells).toArray 29 (0, 0)) :: L))) _ (by first | exact Less.refl _ | exact Less.drop _ _ | exact Less.drops (Less.drop _ _) | exact Less.drops (Less.drops (Less.drop _ _)) | exact Less.drops (Less.drops (Less.drops (Less.drop _ _))) | exact Less.drops (Less.drops (Less.drops (Less.drops (Less.drop _ _))))) ?_
            try dsimp only
            refine ⟨?_, ?_, ?_, ?_, ?_, ?_⟩
            · simp (maxSteps:=1000000)(dsimp:=false)(disch:=omega) only [go_sem, Φa, hP, h9_4, h9_5, h9_6, h9_7, h9_48]
              first | done | rfl
            · simp (maxSteps:=1000000)(dsimp:=false)(disch:=omega) only [go_sem, Φa, hP, h9_4, h9_5, h9_6, h9_7, h9_48]
            · simp (maxSteps:=1000000)(dsimp:=false)(disch:=omega) only [go_sem, Φa, hP, h9_4, h9_5, h9_6, h9_7, h9_48]
            · simp (maxSteps:=1000000)(dsimp:=false)(disch:=omega) only [go_sem, Φa, hP, h9_4, h9_5, h9_6, h9_7, h9_48]
            · rfl
            · trivial
        · intro ss T10 L10 hI
          simp only [h9_4, h9_6, h9_7] at hI 
          obtain ⟨h10_52, h10_4, h10_6, h10_7, hL10, hinv⟩ := hI
          replace hL10 := hL10.symm
          subst hL10
          clear h9_4 h9_5 h9_6 h9_7 h9_48 T9
          refine RX.live [4, 6, 7, 52] (fun T11 hT11 => ?_)
          simp only [forall_mem_cons', forall_mem_nil', go_sem, Φa, hP, h10_52, h10_4, h10_6, h10_7] at hT11
          obtain ⟨h11_4, h11_6, h11_7, h11_52⟩ := hT11
          clear h10_52 h10_4 h10_6 h10_7 T10
          refine RX.join 5 (fun (ss : Unit) T L' => T 57 = .bool (true) ∧ T 6 = T11 6 ∧ T 7 = T11 7 ∧ L' = some (g5, .cells ((List.replicate 128 (.slice none 0 0)).set 0 (.slice (some ⟨g4, 0, none⟩) 1 1)).toArray 50 (0, 0)) :: some (g4, .cells [.int .u8 129].toArray 5 (0, 0)) :: so2 :: some (gA, .cells ([((⟨0, R, true⟩ : Fm), d1)].flatMap fval ++ junkA).toArray 41 (0, 0)) :: (segs [((⟨0, R, true⟩ : Fm), d1)] ++ (some (g1, .cells (Z.flatMap Rc.cells).toArray 29 (0, 0)) :: L)) ∧ (True)) (fun K11 hK11 => ?_) ?_
          · simp only [h11_6, h11_7] at hK11
            simp (maxSteps:=1000000)(dsimp:=false)(disch:=omega) only [go_sem, Φa, hP, h11_4, h11_6, h11_7, h11_52, hops, hs1, hs2]
            repeat' (first | refine iteB (fun hg => ?_) (fun hg => ?_) | refine iteI (fun hg => ?_) (fun hg => ?_) | ((first | refine ⟨_, Cell.at 3 rfl rfl, ?_⟩ | refine And.intro (by omega) ?_ | refine ⟨_, Cell.at 0 rfl rfl, ?_⟩ | refine ⟨_, Cell.at 1 rfl rfl, ?_⟩ | refine ⟨_, Cell.at 2 rfl rfl, ?_⟩ | refine ⟨_, Cell.at 3 rfl rfl, ?_⟩ | refine ⟨_, Cell.at 4 rfl rfl, ?_⟩ | fail); try (with_reducible refine stI ?_); try simp (maxSteps:=1000000)(dsimp:=false)(disch:=omega) only [go_sem, Φa, hP, h11_4, h11_6, h11_7, h11_52, hops, hs1, hs2]) | fail)
            all_goals
              refine hK11 () _ (some (g5, .cells ((List.replicate 128 (.slice none 0 0)).set 0 (.slice (some ⟨g4, 0, none⟩) 1 1)).toArray 50 (0, 0)) :: some (g4, .cells [.int .u8 129].toArray 5 (0, 0)) :: so2 :: some (gA, .cells ([((⟨0, R, true⟩ : Fm), d1)].flatMap fval ++ junkA).toArray 41 (0, 0)) :: (segs [((⟨0, R, true⟩ : Fm), d1)] ++ (some (g1, .cells (Z.flatMap Rc.cells).toArray 29 (0, 0)) :: L))) _ (by first | exact Less.refl _ | exact Less.drop _ _ | exact Less.drops (Less.drop _ _) | exact Less.drops (Less.drops (Less.drop _ _)) | exact Less.drops (Less.drops (Less.drops (Less.drop _ _))) | exact Less.drops (Less.drops (Less.drops (Less.drops (Less.drop _ _))))) ?_
              try dsimp only
              refine ⟨?_, ?_, ?_, ?_, ?_⟩
              · simp (maxSteps:=1000000)(dsimp:=false)(disch:=omega) only [go_sem, Φa, hP, h11_4, h11_6, h11_7, h11_52]
                first | done | rfl
              · simp (maxSteps:=1000000)(dsimp:=false)(disch:=omega) only [go_sem, Φa, hP, h11_4, h11_6, h11_7, h11_52]
              · simp (maxSteps:=1000000)(dsimp:=false)(disch:=omega) only [go_sem, Φa, hP, h11_4, h11_6, h11_7, h11_52]
              · rfl
              · trivial
          · intro ss T12 L12 hI
            simp only [h11_6, h11_7] at hI 
            obtain ⟨h12_57, h12_6, h12_7, hL12, hinv⟩ := hI
            replace hL12 := hL12.symm
            subst hL12
            clear h11_4 h11_6 h11_7 h11_52 T11
            refine RX.live [6, 7, 57] (fun T13 hT13 => ?_)
            simp only [forall_mem_cons', forall_mem_nil', go_sem, Φa, hP, h12_57, h12_6, h12_7] at hT13
            obtain ⟨h13_6, h13_7, h13_57⟩ := hT13
            clear h12_57 h12_6 h12_7 T12
            refine RX.join 4 (fun (ss : Unit) T L' => T 61 = .bool (true) ∧ T 6 = T13 6 ∧ L' = some (g5, .cells ((List.replicate 128 (.slice none 0 0)).set 0 (.slice (some ⟨g4, 0, none⟩) 1 1)).toArray 50 (0, 0)) :: some (g4, .cells [.int .u8 129].toArray 5 (0, 0)) :: so2 :: some (gA, .cells ([((⟨0, R, true⟩ : Fm), d1)].flatMap fval ++ junkA).toArray 41 (0, 0)) :: (segs [((⟨0, R, true⟩ : Fm), d1)] ++ (some (g1, .cells (Z.flatMap Rc.cells).toArray 29 (0, 0)) :: L)) ∧ (True)) (fun K12 hK12 => ?_) ?_
            · simp only [h13_6] at hK12
              simp (maxSteps:=1000000)(dsimp:=false)(disch:=omega) only [go_sem, Φa, hP, h13_6, h13_7, h13_57, hops, hs1, hs2]
              repeat' (first | refine iteB (fun hg => ?_) (fun hg => ?_) | refine iteI (fun hg => ?_) (fun hg => ?_) | ((first | refine ⟨_, Cell.at 3 rfl rfl, ?_⟩ | refine And.intro (by omega) ?_ | refine ⟨_, Cell.at 0 rfl rfl, ?_⟩ | refine ⟨_, Cell.at 1 rfl rfl, ?_⟩ | refine ⟨_, Cell.at 2 rfl rfl, ?_⟩ | refine ⟨_, Cell.at 3 rfl rfl, ?_⟩ | refine ⟨_, Cell.at 4 rfl rfl, ?_⟩ | fail); try (with_reducible refine stI ?_); try simp (maxSteps:=1000000)(dsimp:=false)(disch:=omega) only [go_sem, Φa, hP, h13_6, h13_7, h13_57, hops, hs1, hs2]) | fail)
              all_goals
                refine hK12 () _ (some (g5, .cells ((List.replicate 128 (.slice none 0 0)).set 0 (.slice (some ⟨g4, 0, none⟩) 1 1)).toArray 50 (0, 0)) :: some (g4, .cells [.int .u8 129].toArray 5 (0, 0)) :: so2 :: some (gA, .cells ([((⟨0, R, true⟩ : Fm), d1)].flatMap fval ++ junkA).toArray 41 (0, 0)) :: (segs [((⟨0, R, true⟩ : Fm), d1)] ++ (some (g1, .cells (Z.flatMap Rc.cells).toArray 29 (0, 0)) :: L))) _ (by first | exact Less.refl _ | exact Less.drop _ _ | exact Less.drops (Less.drop _ _) | exact Less.drops (Less.drops (Less.drop _ _)) | exact Less.drops (Less.drops (Less.drops (Less.drop _ _))) | exact Less.drops (Less.drops (Less.drops (Less.drops (Less.drop _ _))))) ?_
                try dsimp only
                refine ⟨?_, ?_, ?_, ?_⟩
                · simp (maxSteps:=1000000)(dsimp:=false)(disch:=omega) only [go_sem, Φa, hP, h13_6, h13_7, h13_57]
                  first | done | rfl
                · simp (maxSteps:=1000000)(dsimp:=false)(disch:=omega) only [go_sem, Φa, hP, h13_6, h13_7, h13_57]
                · rfl
                · trivial
            · intro ss T14 L14 hI
              simp only [h13_6] at hI 
              obtain ⟨h14_61, h14_6, hL14, hinv⟩ := hI
              replace hL14 := hL14.symm
              subst hL14
              clear h13_6 h13_7 h13_57 T13
              refine RX.live [6, 61] (fun T15 hT15 => ?_)
              simp only [forall_mem_cons', forall_mem_nil', go_sem, Φa, hP, h14_61, h14_6] at hT15
              obtain ⟨h15_6, h15_61⟩ := hT15
              clear h14_61 h14_6 T14
              refine RX.join 5 (fun (ss : Unit) T L' => T 66 = .bool (true) ∧ T 6 = T15 6 ∧ L' = some (g5, .cells ((List.replicate 128 (.slice none 0 0)).set 0 (.slice (some ⟨g4, 0, none⟩) 1 1)).toArray 50 (0, 0)) :: some (g4, .cells [.int .u8 129].toArray 5 (0, 0)) :: so2 :: some (gA, .cells ([((⟨0, R, true⟩ : Fm), d1)].flatMap fval ++ junkA).toArray 41 (0, 0)) :: (segs [((⟨0, R, true⟩ : Fm), d1)] ++ (some (g1, .cells (Z.flatMap Rc.cells).toArray 29 (0, 0)) :: L)) ∧ (True)) (fun K13 hK13 => ?_) ?_
              · simp only [h15_6] at hK13
                simp (maxSteps:=1000000)(dsimp:=false)(disch:=omega) only [go_sem, Φa, hP, h15_6, h15_61, hops, hs1, hs2]
                repeat' (first | refine iteB (fun hg => ?_) (fun hg => ?_) | refine iteI (fun hg => ?_) (fun hg => ?_) | ((first | refine ⟨_, Cell.at 3 rfl rfl, ?_⟩ | refine And.intro (by omega) ?_ | refine ⟨_, Cell.at 0 rfl rfl, ?_⟩ | refine ⟨_, Cell.at 1 rfl rfl, ?_⟩ | refine ⟨_, Cell.at 2 rfl rfl, ?_⟩ | refine ⟨_, Cell.at 3 rfl rfl, ?_⟩ | refine ⟨_, Cell.at 4 rfl rfl, ?_⟩ | fail); try (with_reducible refine stI ?_); try simp (maxSteps:=1000000)(dsimp:=false)(disch:=omega) only [go_sem, Φa, hP, h15_6, h15_61, hops, hs1, hs2]) | fail)
                all_goals
                  refine hK13 () _ (some (g5, .cells ((List.replicate 128 (.slice none 0 0)).set 0 (.slice (some ⟨g4, 0, none⟩) 1 1)).toArray 50 (0, 0)) :: some (g4, .cells [.int .u8 129].toArray 5 (0, 0)) :: so2 :: some (gA, .cells ([((⟨0, R, true⟩ : Fm), d1)].flatMap fval ++ junkA).toArray 41 (0, 0)) :: (segs [((⟨0, R, true⟩ : Fm), d1)] ++ (some (g1, .cells (Z.flatMap Rc.cells).toArray 29 (0, 0)) :: L))) _ (by first | exact Less.refl _ | exact Less.drop _ _ | exact Less.drops (Less.drop _ _) | exact Less.drops (Less.drops (Less.drop _ _)) | exact Less.drops (Less.drops (Less.drops (Less.drop _ _))) | exact Less.drops (Less.drops (Less.drops (Less.drops (Less.drop _ _))))) ?_
                  try dsimp only
                  refine ⟨?_, ?_, ?_, ?_⟩
                  · simp (maxSteps:=1000000)(dsimp:=false)(disch:=omega) only [go_sem, Φa, hP, h15_6, h15_61]
                    first | done | rfl
                  · simp (maxSteps:=1000000)(dsimp:=false)(disch:=omega) only [go_sem, Φa, hP, h15_6, h15_61]
                  · rfl
                  · trivial
              · intro ss T16 L16 hI
                simp only [h15_6] at hI 
                obtain ⟨h16_66, h16_6, hL16, hinv⟩ := hI
                replace hL16 := hL16.symm
                subst hL16
                clear h15_6 h15_61 T15
                refine RX.live [6, 66] (fun T17 hT17 => ?_)
                simp only [forall_mem_cons', forall_mem_nil', go_sem, Φa, hP, h16_66, h16_6] at hT17
                obtain ⟨h17_6, h17_66⟩ := hT17
                clear h16_66 h16_6 T16
                refine RX.join 5 (fun (ss : Unit) T L' => T 71 = .bool (true) ∧ L' = some (g5, .cells ((List.replicate 128 (.slice none 0 0)).set 0 (.slice (some ⟨g4, 0, none⟩) 1 1)).toArray 50 (0, 0)) :: some (g4, .cells [.int .u8 129].toArray 5 (0, 0)) :: so2 :: some (gA, .cells ([((⟨0, R, true⟩ : Fm), d1)].flatMap fval ++ junkA).toArray 41 (0, 0)) :: (segs [((⟨0, R, true⟩ : Fm), d1)] ++ (some (g1, .cells (Z.flatMap Rc.cells).toArray 29 (0, 0)) :: L)) ∧ (True)) (fun K14 hK14 => ?_) ?_
                · simp (maxSteps:=1000000)(dsimp:=false)(disch:=omega) only [go_sem, Φa, hP, h17_6, h17_66, hops, hs1, hs2]
                  repeat' (first | refine iteB (fun hg => ?_) (fun hg => ?_) | refine iteI (fun hg => ?_) (fun hg => ?_) | ((first | refine ⟨_, Cell.at 3 rfl rfl, ?_⟩ | refine And.intro (by omega) ?_ | refine ⟨_, Cell.at 0 rfl rfl, ?_⟩ | refine ⟨_, Cell.at 1 rfl rfl, ?_⟩ | refine ⟨_, Cell.at 2 rfl rfl, ?_⟩ | refine ⟨_, Cell.at 3 rfl rfl, ?_⟩ | refine ⟨_, Cell.at 4 rfl rfl, ?_⟩ | fail); try (with_reducible refine stI ?_); try simp (maxSteps:=1000000)(dsimp:=false)(disch:=omega) only [go_sem, Φa, hP, h17_6, h17_66, hops, hs1, hs2]) | fail)
                  all_goals
                    refine hK14 () _ (some (g5, .cells ((List.replicate 128 (.slice none 0 0)).set 0 (.slice (some ⟨g4, 0, none⟩) 1 1)).toArray 50 (0, 0)) :: some (g4, .cells [.int .u8 129].toArray 5 (0, 0)) :: so2 :: some (gA, .cells ([((⟨0, R, true⟩ : Fm), d1)].flatMap fval ++ junkA).toArray 41 (0, 0)) :: (segs [((⟨0, R, true⟩ : Fm), d1)] ++ (some (g1, .cells (Z.flatMap Rc.cells).toArray 29 (0, 0)) :: L))) _ (by first | exact Less.refl _ | exact Less.drop _ _ | exact Less.drops (Less.drop _ _) | exact Less.drops (Less.drops (Less.drop _ _)) | exact Less.drops (Less.drops (Less.drops (Less.drop _ _))) | exact Less.drops (Less.drops (Less.drops (Less.drops (Less.drop _ _))))) ?_
                    try dsimp only
                    refine ⟨?_, ?_, ?_⟩
                    · simp (maxSteps:=1000000)(dsimp:=false)(disch:=omega) only [go_sem, Φa, hP, h17_6, h17_66]
                      first | done | rfl
                    · rfl
                    · trivial
                · intro ss T18 L18 hI
                  obtain ⟨h18_71, hL18, hinv⟩ := hI
                  replace hL18 := hL18.symm
                  subst hL18
                  clear h17_6 h17_66 T17
                  refine RX.done ?_
                  simp (maxSteps:=1000000)(dsimp:=false)(disch:=omega) only [go_sem, Φa, hP, h18_71, hops]
                  refine hK6 _ _ ?_
                  try clear hK6 K6
                  refine SX.ret ?_
                  simp only [andThen_normal, andThen_ret, andThen_exit, inBlk_normal, inBlk_ret, inBlk_exit, Nat.reduceEqDiff, if_true, if_false, ↓reduceIte, retQ_ret]
                  try simp only [res0, res1, res2, res3, stK_e, go_sem, Φa, hP, h18_71]
                  exact ⟨_, _, Less.drops (Less.drops (Less.drops (Less.drops (Less.sublist ((List.sublist_cons_self _ _).trans (List.sublist_append_right _ _)))))), rfl, rfl, rfl⟩

end Go.Proofs.YtpakphgeichopaaDoor
set_option linter.unusedVariables false
set_option linter.unusedSimpArgs false
namespace Go.Proofs.YtpakphgeichopaaDoor
open Go.RowKit Go.SX
/-! A frame out of its text: a row's bytes, the text's lines. -/
def sh7 (m : Nat) : Int := (128 : Int).fdiv (2 ^ min m 8)
def rowAt (c : List Int) : Nat → List Int
  | 0 => List.replicate (c.length / 8) 0
  | i + 1 => if c.getD i 0 = 35 then (rowAt c i).set (i / 8) (bits .or .u8 ((rowAt c i).getD (i / 8) 0) (sh7 (i % 8))) else rowAt c i
def rowP (c : List Int) : List Int := rowAt c (c.length / 8 * 8)
theorem rowAt_len (c : List Int) : ∀ i, (rowAt c i).length = c.length / 8
  | 0 => List.length_replicate ..
  | i + 1 => by
    rw [rowAt]
    split
    · rw [List.length_set, rowAt_len c i]
    · exact rowAt_len c i
def partA (c : List Int) (j : Nat) : Nat → Int
  | 0 => 0
  | m + 1 => if c.getD (8 * j + m) 0 = 35 then bits .or .u8 (partA c j m) (sh7 m) else partA c j m
theorem rowAt_getD {c : List Int} {j : Nat} (hj : j < c.length / 8) : ∀ i, (rowAt c i).getD j 0 = partA c j (min 8 (i - 8 * j))
  | 0 => by rw [rowAt, rep_getD hj, Nat.zero_sub, Nat.min_zero]; rfl
  | i + 1 => by
    have ih := rowAt_getD hj i
    rw [rowAt]
    by_cases h : i / 8 = j
    · have h1 : min 8 (i - 8 * j) = i % 8 := by omega
      have h2 : min 8 (i + 1 - 8 * j) = i % 8 + 1 := by omega
      rw [h1] at ih
      rw [h2, partA, show 8 * j + i % 8 = i by omega, ← ih]
      split
      · rw [set_getD, rowAt_len, if_pos ⟨h, by omega⟩, h]
      · rfl
    · have h2 : min 8 (i + 1 - 8 * j) = min 8 (i - 8 * j) := by omega
      rw [h2, ← ih]
      split
      · rw [set_getD, if_neg (fun hh => h hh.1)]
      · rfl
theorem or_byte (x y : Int) : 0 ≤ bits .or .u8 x y ∧ bits .or .u8 x y ≤ 255 := by
  have h : bits .or .u8 x y = IntKind.u8.wrap (((BitVec.ofInt 8 x) ||| (BitVec.ofInt 8 y)).toNat : Int) := rfl
  rw [h, wu8 (by have := ((BitVec.ofInt 8 x) ||| (BitVec.ofInt 8 y)).isLt; omega)]
  have := ((BitVec.ofInt 8 x) ||| (BitVec.ofInt 8 y)).isLt
  omega
theorem partA_byte (c : List Int) (j : Nat) : ∀ m, 0 ≤ partA c j m ∧ partA c j m ≤ 255
  | 0 => by rw [partA]; omega
  | m + 1 => by
    rw [partA]
    split
    · exact or_byte _ _
    · exact partA_byte c j m
theorem rowP_len (c : List Int) : (rowP c).length = c.length / 8 := rowAt_len _ _
theorem rowP_getD {c : List Int} {j : Nat} (hj : j < c.length / 8) : (rowP c).getD j 0 = partA c j 8 := by
  rw [rowP, rowAt_getD hj, show min 8 (c.length / 8 * 8 - 8 * j) = 8 by omega]
theorem rowP_byte (c : List Int) : Byte (rowP c) := fun x hx => by
  obtain ⟨j, hj⟩ := List.mem_iff_getElem?.1 hx
  have hl := (List.getElem?_eq_some_iff.1 hj).1
  rw [rowP_len] at hl
  have h1 := rowP_getD hl
  rw [List.getD_eq_getElem?_getD, hj] at h1
  have h2 : x = partA c j 8 := h1
  rw [h2]
  exact partA_byte c j 8
def partB (b : Int) : Nat → Int
  | 0 => 0
  | m + 1 => if bitL b m = 35 then bits .or .u8 (partB b m) (sh7 m) else partB b m
theorem partB_all : ∀ b : Fin 256, partB (b.1 : Int) 8 = (b.1 : Int) := by decide +kernel
theorem partB_eq {b : Int} (hb : 0 ≤ b ∧ b ≤ 255) : partB b 8 = b := by
  have h := partB_all ⟨b.toNat, by omega⟩
  rw [show ((b.toNat : Nat) : Int) = b by omega] at h
  exact h
theorem rowL_getD {m : Nat} (hm : m < 8) : ∀ {r : List Int} {j : Nat}, j < r.length → (rowL r).getD (8 * j + m) 0 = bitL (r.getD j 0) m
  | [], j, h => by simp at h
  | b :: r, 0, _ => by
    show (byteL b ++ rowL r).getD _ _ = _
    rw [List.getD_eq_getElem?_getD, List.getElem?_append_left (by rw [byteL_len]; omega)]
    unfold byteL
    rw [List.getElem?_map, List.getElem?_range (by omega)]
    simp
  | b :: r, j + 1, h => by
    show (byteL b ++ rowL r).getD _ _ = _
    rw [List.getD_eq_getElem?_getD, List.getElem?_append_right (by rw [byteL_len]; omega), byteL_len, show 8 * (j + 1) + m - 8 = 8 * j + m by omega, ← List.getD_eq_getElem?_getD]
    rw [List.getD_cons_succ]
    exact rowL_getD hm (by simpa using h)
theorem rowP_rowL {r : List Int} (hb : Byte r) : rowP (rowL r) = r := by
  have hl : (rowL r).length / 8 = r.length := by rw [rowL_len]; omega
  refine List.ext_getElem? fun j => ?_
  by_cases hj : j < r.length
  · rw [getD_get (d := 0) (by rw [rowP_len, hl]; exact hj), getD_get (d := 0) hj, rowP_getD (by rw [hl]; exact hj)]
    congr 1
    have hp : ∀ m, m ≤ 8 → partA (rowL r) j m = partB (r.getD j 0) m := by
      intro m
      induction m with
      | zero => intro _; rfl
      | succ m ih => intro h; rw [partA, partB, rowL_getD (by omega) hj, ih (by omega)]
    rw [hp 8 (Nat.le_refl _)]
    exact partB_eq (hb _ (List.mem_of_getElem? (getD_get (d := 0) hj)))
  · rw [List.getElem?_eq_none (by rw [rowP_len, hl]; omega), List.getElem?_eq_none (by omega)]
def cL (s : ByteArray) : ByteArray := ⟨(Lib.cut s.data.toList [10]).1.toArray⟩
def cR (s : ByteArray) : ByteArray := ⟨(Lib.cut s.data.toList [10]).2.1.toArray⟩
theorem cL_size (s : ByteArray) : (cL s).size ≤ s.size := by
  show (Lib.cut s.data.toList [10]).1.length ≤ s.data.toList.length
  unfold Lib.cut
  split
  · exact List.length_take_le' ..
  · exact Nat.le_refl _
theorem cR_size (s : ByteArray) : (cR s).size ≤ s.size := by
  show (Lib.cut s.data.toList [10]).2.1.length ≤ s.data.toList.length
  unfold Lib.cut
  split
  · rw [List.length_drop]; omega
  · exact Nat.zero_le _
def restAt (s : ByteArray) : Nat → ByteArray
  | 0 => s
  | i + 1 => cR (restAt s i)
theorem restAt_size (s : ByteArray) : ∀ i, (restAt s i).size ≤ s.size
  | 0 => Nat.le_refl _
  | i + 1 => Nat.le_trans (cR_size _) (restAt_size s i)
def lineAt (s : ByteArray) (j : Nat) : List Int := rowP (nums8 (cL (restAt s j)))
def rowsAt (s : ByteArray) (n : Nat) : List (List Int) := (List.range n).map (lineAt s)
theorem rowsAt_succ (s : ByteArray) (n : Nat) : rowsAt s (n + 1) = rowsAt s n ++ [lineAt s n] := by
  unfold rowsAt
  rw [List.range_succ, List.map_append]
  rfl
theorem rowsAt_len (s : ByteArray) (n : Nat) : (rowsAt s n).length = n := by unfold rowsAt; rw [List.length_map, List.length_range]
theorem rowsAt_mem {s : ByteArray} {n : Nat} {r : List Int} (h : r ∈ rowsAt s n) : Byte r ∧ r.length ≤ s.size := by
  unfold rowsAt at h
  obtain ⟨j, _, rfl⟩ := List.mem_map.1 h
  refine ⟨rowP_byte _, ?_⟩
  unfold lineAt
  rw [rowP_len, nums8_length]
  have h1 := cL_size (restAt s j)
  have h2 := restAt_size s j
  omega
theorem cnt_le {m : Nat} : ∀ {l : List (List Int)}, (∀ r ∈ l, r.length ≤ m) → cnt l ≤ m * l.length
  | [], _ => Nat.le_refl _
  | r :: l, h => by
    have h1 := h r (List.mem_cons_self ..)
    have h2 := cnt_le (l := l) fun r hr => h r (List.mem_cons_of_mem _ hr)
    rw [cnt, List.length_cons, Nat.mul_succ]
    omega
theorem rowsAt_cnt {s : ByteArray} (hs : s.size ≤ 8320) : cnt (rowsAt s 128) ≤ 1064960 := by
  have h := cnt_le (m := s.size) (l := rowsAt s 128) fun r hr => (rowsAt_mem hr).2
  rw [rowsAt_len] at h
  omega
theorem rowsAt_by {s : ByteArray} {n : Nat} : ∀ i, i < (rowsAt s n).length → ∀ j, j < ((rowsAt s n).getD i []).length → 0 ≤ ((rowsAt s n).getD i []).getD j 0 ∧ ((rowsAt s n).getD i []).getD j 0 ≤ 255 := fun i hi j hj =>
  (rowsAt_mem (List.mem_of_getElem? (getD_get (d := []) hi))).1 _ (List.mem_of_getElem? (getD_get (d := 0) hj))
theorem index_nl : ∀ {x : List UInt8} (y : List UInt8), (10 : UInt8) ∉ x → Lib.index (x ++ 10 :: y) [10] = x.length
  | [], y, _ => by
    show Lib.index (10 :: y) [10] = _
    rw [Lib.index, if_pos (by simp [List.isPrefixOf])]
    rfl
  | a :: x, y, h => by
    have ih := index_nl (x := x) y fun hh => h (List.mem_cons_of_mem _ hh)
    have ha : (10 : UInt8) ≠ a := fun hh => h (hh ▸ List.mem_cons_self ..)
    show Lib.index (a :: (x ++ 10 :: y)) [10] = _
    rw [Lib.index, if_neg (by simp [List.isPrefixOf, ha]), ih, if_neg (by simp), List.length_cons]
    omega
theorem cut_nl {x : List UInt8} (y : List UInt8) (h : (10 : UInt8) ∉ x) : Lib.cut (x ++ 10 :: y) [10] = (x, y, true) := by
  unfold Lib.cut
  rw [index_nl y h, if_pos (Int.natCast_nonneg _), Int.toNat_natCast, List.take_left']
  · rw [List.length_singleton, List.drop_append, Nat.add_sub_cancel_left, List.drop_of_length_le (by omega)]
    rfl
  · rfl
theorem toU8_ne {n : Int} (h : n = 35 ∨ n = 46) : (10 : UInt8) ≠ UInt8.ofNat n.toNat := by rcases h with rfl | rfl <;> decide
theorem rowL_dot {r : List Int} {x : Int} (hx : x ∈ rowL r) : x = 35 ∨ x = 46 := by
  unfold rowL byteL at hx
  obtain ⟨b, _, hb⟩ := List.mem_flatMap.1 hx
  obtain ⟨k, _, rfl⟩ := List.mem_map.1 hb
  unfold bitL
  split
  · exact .inl rfl
  · exact .inr rfl
theorem cut_rows (r : List Int) (l : List (List Int)) : Lib.cut (txt (rowsL (r :: l))).data.toList [10] = ((txt (rowL r)).data.toList, (txt (rowsL l)).data.toList, true) := by
  have e : (txt (rowsL (r :: l))).data.toList = (txt (rowL r)).data.toList ++ 10 :: (txt (rowsL l)).data.toList := by
    unfold txt
    rw [rowsL]
    simp
  rw [e]
  refine cut_nl _ fun h => ?_
  have h1 : (10 : UInt8) ∈ (rowL r).map fun n : Int => UInt8.ofNat n.toNat := by simpa [txt] using h
  obtain ⟨x, hx, he⟩ := List.mem_map.1 h1
  exact toU8_ne (rowL_dot hx) he.symm
theorem cL_rows (r : List Int) (l : List (List Int)) : cL (txt (rowsL (r :: l))) = txt (rowL r) := by
  unfold cL
  rw [cut_rows]
theorem cR_rows (r : List Int) (l : List (List Int)) : cR (txt (rowsL (r :: l))) = txt (rowsL l) := by
  unfold cR
  rw [cut_rows]
theorem restAt_rows {l : List (List Int)} : ∀ i, i ≤ l.length → restAt (txt (rowsL l)) i = txt (rowsL (l.drop i))
  | 0, _ => rfl
  | i + 1, h => by
    rw [restAt, restAt_rows i (by omega), List.drop_eq_getElem_cons (by omega), cR_rows]
theorem rowsAt_rows {l : List (List Int)} (hb : ∀ r ∈ l, Byte r) : rowsAt (txt (rowsL l)) l.length = l := by
  refine List.ext_getElem? fun j => ?_
  by_cases hj : j < l.length
  · unfold rowsAt lineAt
    rw [List.getElem?_map, List.getElem?_range hj]
    show some (rowP (nums8 (cL (restAt (txt (rowsL l)) j)))) = _
    rw [restAt_rows j (by omega), List.drop_eq_getElem_cons hj, cL_rows, nums8_txt (rowL_byte _), rowP_rowL (hb _ (List.getElem_mem hj)), List.getElem?_eq_getElem hj]
  · rw [List.getElem?_eq_none (by rw [rowsAt_len]; omega), List.getElem?_eq_none (by omega)]
abbrev zF : Fm := ⟨0, [], false⟩
def readF (s : ByteArray) : Fm := ⟨0, rowsAt s 128, shortB (rowsAt s 128)⟩
def readP (s : ByteArray) : Fm × Int := if 8320 < s.size then (zF, 100) else if showS (readF s) = (s, 0) then (readF s, 0) else (zF, 100)
theorem readP_show {f : Fm} (hm : mayF f = true) (hb : ∀ r ∈ f.rows, Byte r) : readP (showS f).1 = (⟨0, f.rows, f.sh⟩, 0) := by
  obtain ⟨h1, h2, h3, h4⟩ := of_mayF hm
  have hs : showS f = (txt (rowsL f.rows), 0) := if_pos hm
  have hr := rowsAt_rows hb
  rw [h2] at hr
  have hF : readF (txt (rowsL f.rows)) = ⟨0, f.rows, f.sh⟩ := by
    unfold readF
    rw [hr, h3]
    rfl
  have hsz : (txt (rowsL f.rows)).size ≤ 8320 := by
    have := rowsL_len h4 128 (by omega)
    rw [← h2, List.take_length] at this
    rw [txt_size]
    omega
  have hm2 : mayF ⟨0, f.rows, f.sh⟩ = true := by
    unfold mayF at hm ⊢
    simp only [Bool.and_eq_true] at hm ⊢
    exact ⟨⟨⟨decide_eq_true (Int.le_refl 0), hm.1.1.2⟩, hm.1.2⟩, hm.2⟩
  rw [hs]
  dsimp only
  unfold readP
  rw [if_neg (by omega), hF, if_pos]
  exact if_pos hm2
/-- Rows of bytes in memory. -/
structure Rw where
  l : List Int
  v : Value
  s : Slot
def rwV (r : Rw) : List Value := [r.v]
theorem rwV_len (r : Rw) : (rwV r).length = 1 := rfl
def RwsOk (rs : List Rw) : Prop := ∀ r ∈ rs, RowI .u8 5 r.v r.l r.s
theorem RwsOk.nil : RwsOk [] := fun r h => by cases h
theorem RwsOk.app {rs : List Rw} {r : Rw} (h : RwsOk rs) (hr : RowI .u8 5 r.v r.l r.s) : RwsOk (rs ++ [r]) := fun q hq => by
  rcases List.mem_append.1 hq with hq | hq
  · exact h q hq
  · rw [List.mem_singleton.1 hq]; exact hr
def rsl : List Rw → Hp
  | [] => []
  | r :: l => rsl l ++ [r.s]
theorem rsl_app (rs : List Rw) (r : Rw) : rsl (rs ++ [r]) = r.s :: rsl rs := by
  induction rs with
  | nil => rfl
  | cons q rs ih => rw [List.cons_append, rsl, ih, rsl]; rfl
theorem mem_rsl {rs : List Rw} {r : Rw} (h : r ∈ rs) : r.s ∈ rsl rs := by
  induction rs with
  | nil => cases h
  | cons q rs ih =>
    rw [rsl]
    rcases List.mem_cons.1 h with rfl | h
    · exact List.mem_append_right _ (List.mem_singleton.2 rfl)
    · exact List.mem_append_left _ (ih h)
abbrev RowR (v : Value) (rs : List Rw) (s : Slot) : Prop := RowL rwV 50 1 v rs s
theorem RowR.sl {Γ : Ctx} {L : Hp} {v : Value} {rs : List Rw} {s : Slot} (h : RowR v rs s) (hok : RwsOk rs) (hL : s ∈ L) (hm : ∀ s, s ∈ rsl rs → s ∈ L) : SlR (Cell Γ L) v (rs.map (·.l)) := by
  obtain ⟨i, hi⟩ := List.mem_iff_getElem?.1 hL
  refine Sl.map (RowL.sl rwV_len h hi) fun a r hr hc => ⟨r.v, ?_, ?_⟩
  · have := hc 0 r.v rfl
    simpa [Addr.add_zero'] using this
  · obtain ⟨k, hk⟩ := List.mem_iff_getElem?.1 (hm _ (mem_rsl hr))
    exact RowI.sl (hok r hr) hk
theorem lessRd {a b f s : Slot} {R : Hp} : Less (a :: b :: f :: s :: R) (f :: s :: b :: R) := by
  refine (Less.drop _ _).trans (Less.perm ?_)
  exact (List.perm_append_comm (l₁ := [b]) (l₂ := [f, s])).append_right R
def HasM (Γ : Ctx) : Prop := 1 ∉ Γ.own ∧ ∃ m, Γ.w0.cell? ⟨1, 0, none⟩ = some (.int .i64 m)
theorem Cut_spec {Γ : Ctx} (hP : Γ.P = Tryd.prog) (hM : HasM Γ) {L : Hp} {s : ByteArray} (hs : s.size < 4294967281) :
    SCall Γ 43 #[.string s, .string ⟨#[10]⟩] L (fun v L' => v = .tuple #[.string (cL s), .string (cR s), .bool (Lib.cut s.data.toList [10]).2.2] ∧ L' = L) := by
  obtain ⟨ho, m, hm⟩ := hM
  refine SCall.of_calls fun w hi => ?_
  rw [hP]
  exact Go.Proofs.Tryd.strings_Cut s ⟨#[10]⟩ m w hs (Cell.w0 ho hm hi)
end Go.Proofs.YtpakphgeichopaaDoor
set_option linter.unusedVariables false
set_option linter.unusedSimpArgs false
namespace Go.Proofs.YtpakphgeichopaaDoor
open Go.RowKit Go.SX Go.Proofs
open Go.SX renaming ia_someH → Φa
set_option maxHeartbeats 1000000 in
set_option maxRecDepth 100000 in
theorem row_spec {Γ : Ctx} (hP : Γ.P = Tryd.prog) {L : Hp} {s : ByteArray} (hs : s.size ≤ 8320) :
    SCall Γ 44 #[(.string s)] L (fun v L' => ∃ g, v = .slice (some ⟨g, 0, none⟩) (s.size / 8) (s.size / 8) ∧ L' = some (g, .cells (ints .u8 (rowP (nums8 s))).toArray 5 (0, 0)) :: L) := by
  refine SCall.enter (n := 31) (res1 2) (hP ▸ Tryd.func44) rfl rfl (by simp) (res1_ok rfl) ?_
  refine SX.seq_k fun K1 hK1 => ?_
  refine SX.region_d [some 2] rfl (fun ops hops => ?_)
  unfold Dsts at hops
  simp (maxSteps:=1000000)(dsimp:=false)(disch:=omega) only [go_sem, Φa, hP, hops]
  refine hK1 _ _ ?_
  try clear hK1 K1
  refine SX.seq_k fun K2 hK2 => ?_
  have htq : (s.size : Int).tdiv 8 = ((s.size / 8 : Nat) : Int) := by rw [Int.tdiv_eq_ediv_of_nonneg (Int.natCast_nonneg _)]; omega
  refine SX.region_d [some 5, some 6, some 7, some 8, some 3] rfl (fun ops hops => ?_)
  unfold Dsts at hops
  simp (maxSteps:=1000000)(dsimp:=false)(disch:=omega) only [go_sem, Φa, hP, hops, htq]
  intro g1
  try with_reducible refine stI ?_
  try simp (maxSteps:=1000000)(dsimp:=false)(disch:=omega) only [go_sem, Φa, hP, hops, htq]
  rw [zerosV_ints]
  try with_reducible refine stI ?_
  try simp (maxSteps:=1000000)(dsimp:=false)(disch:=omega) only [go_sem, Φa, hP, hops, htq]
  refine hK2 _ _ ?_
  try clear hK2 K2
  refine SX.seq_k fun K3 hK3 => ?_
  refine SX.seq_k fun K4 hK4 => ?_
  refine SX.region_d [some 9, some 10, some 11, some 12] rfl (fun ops hops => ?_)
  unfold Dsts at hops
  simp (maxSteps:=1000000)(dsimp:=false)(disch:=omega) only [go_sem, Φa, hP, hops]
  repeat' ((first | refine And.intro (by omega) ?_ | fail); try (with_reducible refine stI ?_); try simp (maxSteps:=1000000)(dsimp:=false)(disch:=omega) only [go_sem, Φa, hP, hops])
  refine hK4 _ _ ?_
  try clear hK4 K4
  refine SX.live [0, 3, 11, 12] (fun T1 hT1 => ?_)
  simp only [forall_mem_cons', forall_mem_nil', go_sem, Φa, hP] at hT1
  obtain ⟨h1_0, h1_3, h1_11, h1_12⟩ := hT1
  refine SX.block ?_
  have hcl : (nums8 s).length = s.size := nums8_length s
  refine SX.live [0, 3, 11, 12] (fun T2 hT2 => ?_)
  simp only [forall_mem_cons', forall_mem_nil', go_sem, Φa, hP, h1_0, h1_3, h1_11, h1_12] at hT2
  obtain ⟨h2_0, h2_3, h2_11, h2_12⟩ := hT2
  clear h1_0 h1_3 h1_11 h1_12 T1
  refine SX.loop_k (fun (ss : (Nat)) T L' => (fun (i : Nat) => T 12 = .int .i64 (i : Int) ∧ T 0 = T2 0 ∧ T 3 = T2 3 ∧ T 11 = T2 11 ∧ L' = some (g1, .cells (ints .u8 (rowAt (nums8 s) i)).toArray 5 (0, 0)) :: L ∧ (i ≤ s.size / 8 * 8)) (ss)) (fun (ss : (Nat)) => (fun (i : Nat) => s.size / 8 * 8 - i) (ss)) 0 ?_ ?_
  · try dsimp only
    refine ⟨?_, ?_, ?_, ?_, ?_, ?_⟩
    · first | exact h2_12 | (rw [h2_12]; rfl) | (rw [h2_12]; simp; done)
    · rfl
    · rfl
    · rfl
    · rw [rowAt, nums8_length]
    · exact Nat.zero_le _
  · intro i T3 L3 hI K5 hK5
    try dsimp only at hI hK5
    simp only [h2_0, h2_3, h2_11] at hI hK5
    obtain ⟨h3_12, h3_0, h3_3, h3_11, hL3, hi⟩ := hI
    replace hL3 := hL3.symm
    subst hL3
    clear h2_0 h2_3 h2_11 h2_12 T2
    refine SX.seq_k fun K6 hK6 => ?_
    refine SX.region_d [some 13] rfl (fun ops hops => ?_)
    unfold Dsts at hops
    simp (maxSteps:=1000000)(dsimp:=false)(disch:=omega) only [go_sem, Φa, hP, h3_12, h3_0, h3_3, h3_11, hops]
    repeat' ((first | refine And.intro (by omega) ?_ | fail); try (with_reducible refine stI ?_); try simp (maxSteps:=1000000)(dsimp:=false)(disch:=omega) only [go_sem, Φa, hP, h3_12, h3_0, h3_3, h3_11, hops])
    refine hK6 _ _ ?_
    try clear hK6 K6
    refine SX.seq_k fun K7 hK7 => ?_
    refine SX.cond_k fun X8 Y8 hX8 hY8 => ?_
    simp (maxSteps:=1000000)(dsimp:=false)(disch:=omega) only [go_sem, Φa, hP, h3_12, h3_0, h3_3, h3_11, condVC]
    refine ⟨fun hc13 => hX8 ?_, fun hc13 => hY8 ?_⟩
    · clear hX8 hY8 X8 Y8
      refine SX.skip ?_
      try simp only [andThen_normal, andThen_ret, andThen_exit, inBlk_normal, inBlk_ret, inBlk_exit, Nat.reduceEqDiff, if_true, if_false, ↓reduceIte]
      refine hK7 _ _ ?_
      try clear hK7 K7
      refine SX.seq_k fun K9 hK9 => ?_
      refine SX.block ?_
      refine SX.seq_k fun K10 hK10 => ?_
      refine SX.region_d [some 14, some 4] rfl (fun ops hops => ?_)
      unfold Dsts at hops
      simp (maxSteps:=1000000)(dsimp:=false)(disch:=omega) only [go_sem, Φa, hP, h3_12, h3_0, h3_3, h3_11, hops]
      refine hK10 _ _ ?_
      try clear hK10 K10
      refine SX.seq_k fun K11 hK11 => ?_
      have hil : i < s.size := by omega
      obtain ⟨b, hb1, hb2⟩ := index_nums8 hil
      have hgd : (nums8 s).getD i 0 = (b.toNat : Int) := by rw [List.getD_eq_getElem?_getD, hb2]; rfl
      refine SX.region_d [some 15, some 16, some 17, some 18] rfl (fun ops hops => ?_)
      unfold Dsts at hops
      simp (maxSteps:=1000000)(dsimp:=false)(disch:=omega) only [go_sem, Φa, hP, h3_12, h3_0, h3_3, h3_11, hops, hb1]
      refine ⟨_, rfl, ?_⟩
      try with_reducible refine stI ?_
      try simp (maxSteps:=1000000)(dsimp:=false)(disch:=omega) only [go_sem, Φa, hP, h3_12, h3_0, h3_3, h3_11, hops, hb1]
      refine hK11 _ _ ?_
      try clear hK11 K11
      refine SX.cond_k fun X12 Y12 hX12 hY12 => ?_
      simp (maxSteps:=1000000)(dsimp:=false)(disch:=omega) only [go_sem, Φa, hP, h3_12, h3_0, h3_3, h3_11, condVC]
      refine ⟨fun hc18 => hX12 ?_, fun hc18 => hY12 ?_⟩
      · clear hX12 hY12 X12 Y12
        have htd : (i : Int).tdiv 8 = ((i / 8 : Nat) : Int) := by rw [Int.tdiv_eq_ediv_of_nonneg (Int.natCast_nonneg _)]; omega
        have htm : (i : Int).tmod 8 = ((i % 8 : Nat) : Int) := by rw [Int.tmod_eq_emod_of_nonneg (Int.natCast_nonneg _)]; omega
        have hjl : i / 8 < (rowAt (nums8 s) i).length := by rw [rowAt_len, hcl]; omega
        have hv : (ints .u8 (rowAt (nums8 s) i))[i / 8]? = some (.int .u8 ((rowAt (nums8 s) i).getD (i / 8) 0)) := by rw [SX.ints_at, getD_get (d := 0) hjl]; rfl
        refine SX.drawn_d [(0, .q), (1, .q), (2, .q), (3, .q), (4, .q), (5, .q), (6, .q), (7, .q), (8, .q), (9, .q), (10, .t)] (fun L => L) (hP ▸ T.mixed) (by kernel_rfl) (by exact Less.refl _) [some 19, some 20, some 21, some 22, some 23, some 24, some 25, some 26, some 27, some 28, none] rfl (fun ops hops hopl => ?_)
        unfold Dsts at hops
        simp (maxSteps:=1000000)(dsimp:=false)(disch:=omega) only [go_sem, Φa, hP, h3_12, h3_0, h3_3, h3_11, hops, hopl, htd, htm]
        refine ⟨_, Cell.at 0 rfl hv, ?_⟩
        try with_reducible refine stI ?_
        try simp (maxSteps:=1000000)(dsimp:=false)(disch:=omega) only [go_sem, Φa, hP, h3_12, h3_0, h3_3, h3_11, hops, hopl, htd, htm]
        refine ⟨0, _, _, _, rfl, (by simp [ints_length]; omega), .inr (by omega), ?_⟩
        try with_reducible refine stI ?_
        try simp (maxSteps:=1000000)(dsimp:=false)(disch:=omega) only [go_sem, Φa, hP, h3_12, h3_0, h3_3, h3_11, hops, hopl, htd, htm]
        rw [ints_set]
        refine hK9 _ _ ?_
        try clear hK9 K9
        refine SX.live [0, 3, 11, 12] (fun T4 hT4 => ?_)
        simp only [forall_mem_cons', forall_mem_nil', go_sem, Φa, hP, h3_12, h3_0, h3_3, h3_11] at hT4
        obtain ⟨h4_0, h4_3, h4_11, h4_12⟩ := hT4
        clear h3_12 h3_0 h3_3 h3_11 T3
        refine SX.region_d [some 29, some 12] rfl (fun ops hops => ?_)
        unfold Dsts at hops
        simp (maxSteps:=1000000)(dsimp:=false)(disch:=omega) only [go_sem, Φa, hP, h4_0, h4_3, h4_11, h4_12, hops]
        repeat' ((first | refine And.intro (by omega) ?_ | fail); try (with_reducible refine stI ?_); try simp (maxSteps:=1000000)(dsimp:=false)(disch:=omega) only [go_sem, Φa, hP, h4_0, h4_3, h4_11, h4_12, hops])
        refine hK5 (i + 1) _ (_) _ (by first | exact Less.refl _ | exact Less.drop _ _ | exact Less.drops (Less.drop _ _) | exact Less.drops (Less.drops (Less.drop _ _)) | exact Less.drops (Less.drops (Less.drops (Less.drop _ _))) | exact Less.drops (Less.drops (Less.drops (Less.drops (Less.drop _ _))))) ?_ ?_
        · try dsimp only
          refine ⟨?_, ?_, ?_, ?_, ?_, ?_⟩
          · simp (maxSteps:=1000000)(dsimp:=false)(disch:=omega) only [go_sem, Φa, hP, h4_0, h4_3, h4_11, h4_12]
            first | done | rfl | skip
          · simp (maxSteps:=1000000)(dsimp:=false)(disch:=omega) only [go_sem, Φa, hP, h4_0, h4_3, h4_11, h4_12]
          · simp (maxSteps:=1000000)(dsimp:=false)(disch:=omega) only [go_sem, Φa, hP, h4_0, h4_3, h4_11, h4_12]
          · simp (maxSteps:=1000000)(dsimp:=false)(disch:=omega) only [go_sem, Φa, hP, h4_0, h4_3, h4_11, h4_12]
          · rw [rowAt, if_pos (by rw [hgd]; first | exact hc18 | simpa using hc18 | omega)]; rfl
          · omega
        · (try dsimp only); omega
      · clear hX12 hY12 X12 Y12
        refine SX.skip ?_
        try simp only [andThen_normal, andThen_ret, andThen_exit, inBlk_normal, inBlk_ret, inBlk_exit, Nat.reduceEqDiff, if_true, if_false, ↓reduceIte]
        refine hK9 _ _ ?_
        try clear hK9 K9
        refine SX.region_d [some 29, some 12] rfl (fun ops hops => ?_)
        unfold Dsts at hops
        simp (maxSteps:=1000000)(dsimp:=false)(disch:=omega) only [go_sem, Φa, hP, h3_12, h3_0, h3_3, h3_11, hops]
        repeat' ((first | refine And.intro (by omega) ?_ | fail); try (with_reducible refine stI ?_); try simp (maxSteps:=1000000)(dsimp:=false)(disch:=omega) only [go_sem, Φa, hP, h3_12, h3_0, h3_3, h3_11, hops])
        refine hK5 (i + 1) _ (_) _ (by first | exact Less.refl _ | exact Less.drop _ _ | exact Less.drops (Less.drop _ _) | exact Less.drops (Less.drops (Less.drop _ _)) | exact Less.drops (Less.drops (Less.drops (Less.drop _ _))) | exact Less.drops (Less.drops (Less.drops (Less.drops (Less.drop _ _))))) ?_ ?_
        · try dsimp only
          refine ⟨?_, ?_, ?_, ?_, ?_, ?_⟩
          · simp (maxSteps:=1000000)(dsimp:=false)(disch:=omega) only [go_sem, Φa, hP, h3_12, h3_0, h3_3, h3_11]
            first | done | rfl | skip
          · simp (maxSteps:=1000000)(dsimp:=false)(disch:=omega) only [go_sem, Φa, hP, h3_12, h3_0, h3_3, h3_11]
          · simp (maxSteps:=1000000)(dsimp:=false)(disch:=omega) only [go_sem, Φa, hP, h3_12, h3_0, h3_3, h3_11]
          · simp (maxSteps:=1000000)(dsimp:=false)(disch:=omega) only [go_sem, Φa, hP, h3_12, h3_0, h3_3, h3_11]
          · rw [rowAt, if_neg (by rw [hgd]; first | exact hc18 | simpa using hc18 | omega)]
          · omega
        · (try dsimp only); omega
    · clear hX8 hY8 X8 Y8
      refine SX.exit ?_
      try simp only [andThen_normal, andThen_ret, andThen_exit, inBlk_normal, inBlk_ret, inBlk_exit, Nat.reduceEqDiff, if_true, if_false, ↓reduceIte]
      refine hK3 _ _ ?_
      try clear hK3 K3
      refine SX.seq_k fun K13 hK13 => ?_
      refine SX.region_d [some 30, some 2] rfl (fun ops hops => ?_)
      unfold Dsts at hops
      simp (maxSteps:=1000000)(dsimp:=false)(disch:=omega) only [go_sem, Φa, hP, h3_12, h3_0, h3_3, h3_11, hops]
      refine hK13 _ _ ?_
      try clear hK13 K13
      refine SX.ret ?_
      simp only [andThen_normal, andThen_ret, andThen_exit, inBlk_normal, inBlk_ret, inBlk_exit, Nat.reduceEqDiff, if_true, if_false, ↓reduceIte, retQ_ret]
      try simp only [res0, res1, res2, res3, stK_e, go_sem, Φa, hP, h3_12, h3_0, h3_3, h3_11]
      refine ⟨_, _, Less.refl _, rfl, g1, rfl, ?_⟩
      obtain rfl : i = s.size / 8 * 8 := by omega
      rw [rowP, hcl]

def ReadR (s : ByteArray) (L : Hp) (v : Value) (L' : Hp) : Prop := ∃ vo so rs, v = .tuple #[.agg ((readP s).1.cells vo).toArray, .int .i64 (readP s).2] ∧ L' = so :: (rsl rs ++ L) ∧ RowR vo rs so ∧ RwsOk rs ∧ rs.map (·.l) = (readP s).1.rows
theorem ReadR.bad {s : ByteArray} {L : Hp} (h : readP s = (zF, 100)) : ReadR s L (.tuple #[.agg #[.int .i64 0, .slice none 0 0, .bool false], .int .i64 100]) (none :: L) := ⟨_, _, [], by rw [h]; rfl, rfl, RowL.nil _ _ _, RwsOk.nil, by rw [h]; rfl⟩
theorem row_ok {s : ByteArray} {g : Nat} (hs : s.size ≤ 8320) : RowI .u8 5 (.slice (some ⟨g, 0, none⟩) (s.size / 8) (s.size / 8)) (rowP (nums8 s)) (some (g, .cells (ints .u8 (rowP (nums8 s))).toArray 5 (0, 0))) := by
  have hl : (rowP (nums8 s)).length = s.size / 8 := by rw [rowP_len, nums8_length]
  have h := Row.lit (e := 5) (sz := 1) (b := g) (n := s.size / 8) (xs := ints .u8 (rowP (nums8 s))) (by rw [ints_length, hl, Nat.mul_one]) (by omega)
  show Row 5 1 _ (rowP (nums8 s)).length _ _
  rw [hl]
  exact h
theorem lessF {f s b : Slot} {M R : Hp} : Less (f :: s :: (M ++ (b :: R))) (b :: f :: s :: (M ++ R)) := by
  refine Less.perm ?_
  have h := (List.perm_middle (l₁ := f :: s :: M) (a := b) (l₂ := R))
  exact h
theorem lessI {a : Slot} {R : Hp} : Less (a :: R) (a :: Option.none :: R) := (Less.none _).trans (Less.perm (.swap _ _ _))
abbrev mkRw (s : ByteArray) (g : Nat) : Rw := ⟨rowP (nums8 s), .slice (some ⟨g, 0, none⟩) (s.size / 8) (s.size / 8), some (g, .cells (ints .u8 (rowP (nums8 s))).toArray 5 (0, 0))⟩
theorem lessR1 {a f : Slot} {R : Hp} : Less (a :: f :: R) [f] := Less.sublist (.cons _ (.cons_cons _ (List.nil_sublist _)))
theorem lessR2 {a b f : Slot} {R : Hp} : Less (a :: b :: f :: R) [f] := (Less.drop _ _).trans lessR1
theorem lessE4 {a b s : Slot} {M R : Hp} : Less (a :: b :: s :: (M ++ R)) R := Less.sublist (.cons _ (.cons _ (.cons _ (List.sublist_append_right M R))))
set_option maxHeartbeats 1000000 in
set_option maxRecDepth 100000 in
theorem Read_spec {Γ : Ctx} (hP : Γ.P = Tryd.prog) {L : Hp} (hM : HasM Γ) {s : ByteArray} :
    SCall Γ 24 #[(.string s)] L (ReadR s L) := by
  refine SCall.enter (n := 51) (resX Γ [.cell 2 41, .tmp 3]) (hP ▸ Tryd.func24) rfl rfl (by simp) (resX_ok rfl) ?_
  refine SX.seq_k fun K1 hK1 => ?_
  refine SX.region_d [some 2, some 3] rfl (fun ops hops => ?_)
  unfold Dsts at hops
  simp (maxSteps:=1000000)(dsimp:=false)(disch:=omega) only [go_sem, Φa, hP, hops]
  intro b0
  try with_reducible refine stI ?_
  try simp (maxSteps:=1000000)(dsimp:=false)(disch:=omega) only [go_sem, Φa, hP, hops]
  refine hK1 _ _ ?_
  try clear hK1 K1
  refine SX.seq_k fun K2 hK2 => ?_
  refine SX.seq_k fun K3 hK3 => ?_
  refine SX.region_d [some 11, some 12, some 13] rfl (fun ops hops => ?_)
  unfold Dsts at hops
  simp (maxSteps:=1000000)(dsimp:=false)(disch:=omega) only [go_sem, Φa, hP, hops]
  repeat' ((first | refine And.intro (by omega) ?_ | fail); try (with_reducible refine stI ?_); try simp (maxSteps:=1000000)(dsimp:=false)(disch:=omega) only [go_sem, Φa, hP, hops])
  refine hK3 _ _ ?_
  try clear hK3 K3
  refine SX.cond_k fun X4 Y4 hX4 hY4 => ?_
  simp (maxSteps:=1000000)(dsimp:=false)(disch:=omega) only [go_sem, Φa, hP, condVC]
  refine ⟨fun hc13 => hX4 ?_, fun hc13 => hY4 ?_⟩
  · clear hX4 hY4 X4 Y4
    refine SX.seq_k fun K5 hK5 => ?_
    refine SX.region_d [some 14, none, some 3] rfl (fun ops hops => ?_)
    unfold Dsts at hops
    simp (maxSteps:=1000000)(dsimp:=false)(disch:=omega) only [go_sem, Φa, hP, hops]
    refine ⟨0, _, _, _, rfl, by decide, .inr (by decide), ?_⟩
    try with_reducible refine stI ?_
    try simp (maxSteps:=1000000)(dsimp:=false)(disch:=omega) only [go_sem, Φa, hP, hops]
    refine hK5 _ _ ?_
    try clear hK5 K5
    refine SX.ret ?_
    simp only [andThen_normal, andThen_ret, andThen_exit, inBlk_normal, inBlk_ret, inBlk_exit, Nat.reduceEqDiff, if_true, if_false, ↓reduceIte, retQ_ret]
    try simp only [res0,res1,res2,res3,stK_e,resX,resK,oneOr,ld_ptr,loadVC,loadN,List.nil_append,List.cons_append,Nat.reduceAdd,Nat.add_zero,Nat.zero_add,Addr.add_lit,Addr.add_zero',add_addS,T.elA_41,T.lay_41,T.szA_41,T.zr_41,Tryd.underlying41,go_sem,Φa,hP]
    refine ⟨_, _, (Less.drop _ _).trans (Less.none _), ⟨_, Cell.at 0 rfl rfl, _, Cell.at 0 rfl rfl, _, Cell.at 0 rfl rfl, rfl⟩, ReadR.bad ?_⟩
    unfold readP
    rw [if_pos (by omega)]
  · clear hX4 hY4 X4 Y4
    refine SX.skip ?_
    try simp only [andThen_normal, andThen_ret, andThen_exit, inBlk_normal, inBlk_ret, inBlk_exit, Nat.reduceEqDiff, if_true, if_false, ↓reduceIte]
    refine hK2 _ _ ?_
    try clear hK2 K2
    refine SX.seq_k fun K6 hK6 => ?_
    have hs : s.size ≤ 8320 := by omega
    refine SX.region_d [some 4] rfl (fun ops hops => ?_)
    unfold Dsts at hops
    simp (maxSteps:=1000000)(dsimp:=false)(disch:=omega) only [go_sem, Φa, hP, hops]
    intro b4
    try with_reducible refine stI ?_
    try simp (maxSteps:=1000000)(dsimp:=false)(disch:=omega) only [go_sem, Φa, hP, hops]
    refine hK6 _ _ ?_
    try clear hK6 K6
    refine SX.seq_k fun K7 hK7 => ?_
    refine SX.region_d [some 15, some 5] rfl (fun ops hops => ?_)
    unfold Dsts at hops
    simp (maxSteps:=1000000)(dsimp:=false)(disch:=omega) only [go_sem, Φa, hP, hops]
    refine hK7 _ _ ?_
    try clear hK7 K7
    refine SX.seq_k fun K8 hK8 => ?_
    refine SX.seq_k fun K9 hK9 => ?_
    refine SX.less lessI ?_
    refine SX.region_d [some 16] rfl (fun ops hops => ?_)
    unfold Dsts at hops
    simp (maxSteps:=1000000)(dsimp:=false)(disch:=omega) only [go_sem, Φa, hP, hops]
    refine hK9 _ _ ?_
    try clear hK9 K9
    refine SX.live [0, 2, 4, 5, 16] (fun T1 hT1 => ?_)
    simp only [forall_mem_cons', forall_mem_nil', go_sem, Φa, hP] at hT1
    obtain ⟨h1_0, h1_2, h1_4, h1_5, h1_16⟩ := hT1
    refine SX.block ?_
    refine SX.live [0, 2, 4, 5, 16] (fun T2 hT2 => ?_)
    simp only [forall_mem_cons', forall_mem_nil', go_sem, Φa, hP, h1_0, h1_2, h1_4, h1_5, h1_16] at hT2
    obtain ⟨h2_0, h2_2, h2_4, h2_5, h2_16⟩ := hT2
    clear h1_0 h1_2 h1_4 h1_5 h1_16 T1
    refine SX.loop_k (fun (ss : (Nat) × (Value) × (Slot) × (List Rw)) T L' => (fun (i : Nat) (vo : Value) (so : Slot) (rs : List Rw) => T 5 = .string (restAt s i) ∧ T 16 = .int .i64 (i : Int) ∧ T 0 = T2 0 ∧ T 2 = T2 2 ∧ T 4 = T2 4 ∧ L' = some (b4, .cells [.int .i64 0, vo, .bool false].toArray 41 (0, 0)) :: so :: (rsl rs ++ some (b0, .cells [.int .i64 0, .slice none 0 0, .bool false].toArray 41 (0, 0)) :: L) ∧ (i ≤ 128 ∧ RowR vo rs so ∧ RwsOk rs ∧ rs.map (·.l) = rowsAt s i)) (ss.1) (ss.2.1) (ss.2.2.1) (ss.2.2.2)) (fun (ss : (Nat) × (Value) × (Slot) × (List Rw)) => (fun (i : Nat) (vo : Value) (so : Slot) (rs : List Rw) => 128 - i) (ss.1) (ss.2.1) (ss.2.2.1) (ss.2.2.2)) (0, .slice none 0 0, none, []) ?_ ?_
    · try dsimp only
      refine ⟨?_, ?_, ?_, ?_, ?_, ?_, ?_⟩
      · first | exact h2_5 | (rw [h2_5]; rfl) | (rw [h2_5]; simp; done)
      · first | exact h2_16 | (rw [h2_16]; rfl) | (rw [h2_16]; simp; done)
      · rfl
      · rfl
      · rfl
      · rfl
      · exact ⟨Nat.zero_le _, RowL.nil _ _ _, RwsOk.nil, rfl⟩
    · intro ss T3 L3 hI K10 hK10
      obtain ⟨i, vo, so, rs⟩ := ss
      try dsimp only at hI hK10
      simp only [h2_0, h2_2, h2_4] at hI hK10
      obtain ⟨h3_5, h3_16, h3_0, h3_2, h3_4, hL3, ⟨hi, hrow, hok, hrs⟩⟩ := hI
      replace hL3 := hL3.symm
      subst hL3
      clear h2_0 h2_2 h2_4 h2_5 h2_16 T2
      refine SX.seq_k fun K11 hK11 => ?_
      refine SX.region_d [some 17] rfl (fun ops hops => ?_)
      unfold Dsts at hops
      simp (maxSteps:=1000000)(dsimp:=false)(disch:=omega) only [go_sem, Φa, hP, h3_5, h3_16, h3_0, h3_2, h3_4, hops]
      repeat' ((first | refine And.intro (by omega) ?_ | fail); try (with_reducible refine stI ?_); try simp (maxSteps:=1000000)(dsimp:=false)(disch:=omega) only [go_sem, Φa, hP, h3_5, h3_16, h3_0, h3_2, h3_4, hops])
      refine hK11 _ _ ?_
      try clear hK11 K11
      refine SX.seq_k fun K12 hK12 => ?_
      refine SX.cond_k fun X13 Y13 hX13 hY13 => ?_
      simp (maxSteps:=1000000)(dsimp:=false)(disch:=omega) only [go_sem, Φa, hP, h3_5, h3_16, h3_0, h3_2, h3_4, condVC]
      refine ⟨fun hc17 => hX13 ?_, fun hc17 => hY13 ?_⟩
      · clear hX13 hY13 X13 Y13
        refine SX.skip ?_
        try simp only [andThen_normal, andThen_ret, andThen_exit, inBlk_normal, inBlk_ret, inBlk_exit, Nat.reduceEqDiff, if_true, if_false, ↓reduceIte]
        refine hK12 _ _ ?_
        try clear hK12 K12
        refine SX.seq_k fun K14 hK14 => ?_
        refine SX.block ?_
        refine SX.seq_k fun K15 hK15 => ?_
        have hsz := restAt_size s i
        have hsl := cL_size (restAt s i)
        have hrl : rs.length = i := by have := congrArg List.length hrs; rw [List.length_map, rowsAt_len] at this; exact this
        refine SX.region_d [some 19, some 20, some 18, some 21, some 22, some 23, some 6, some 7, some 8] rfl (fun ops hops => ?_)
        unfold Dsts at hops
        simp (maxSteps:=1000000)(dsimp:=false)(disch:=omega) only [go_sem, Φa, hP, h3_5, h3_16, h3_0, h3_2, h3_4, hops]
        refine SCall.mono (Cut_spec hP hM (s := restAt s i) (by omega)) ?_
        rintro v_ L_ ⟨hv_, hL_⟩
        rw [hv_, hL_]
        clear hv_ hL_ v_ L_
        try with_reducible refine stI ?_
        try simp (maxSteps:=1000000)(dsimp:=false)(disch:=omega) only [go_sem, Φa, hP, h3_5, h3_16, h3_0, h3_2, h3_4, hops]
        refine hK15 _ _ ?_
        try clear hK15 K15
        refine SX.live [0, 2, 4, 6, 7, 16] (fun T4 hT4 => ?_)
        simp only [forall_mem_cons', forall_mem_nil', go_sem, Φa, hP, h3_5, h3_16, h3_0, h3_2, h3_4] at hT4
        obtain ⟨h4_0, h4_2, h4_4, h4_6, h4_7, h4_16⟩ := hT4
        clear h3_5 h3_16 h3_0 h3_2 h3_4 T3
        refine SX.seq_k fun K16 hK16 => ?_
        refine SX.drawn_d [(0, .q), (1, .q), (2, .q), (3, .e), (4, .e), (5, .e), (6, .q), (7, .t)] (fun _ => [some (b4, .cells [.int .i64 0, vo, .bool false].toArray 41 (0, 0))]) (hP ▸ T.mixed) (by kernel_rfl) (by exact (Less.sublist (.cons_cons _ (List.nil_sublist _)))) [some 24, some 25, some 26, some 27, some 28, some 29, some 30, none] rfl (fun ops hops hopl => ?_)
        unfold Dsts at hops
        simp (maxSteps:=1000000)(dsimp:=false)(disch:=omega) only [go_sem, Φa, hP, h4_0, h4_2, h4_4, h4_6, h4_7, h4_16, hops, hopl]
        refine ⟨_, Cell.at 0 rfl rfl, ?_⟩
        try with_reducible refine stI ?_
        try simp (maxSteps:=1000000)(dsimp:=false)(disch:=omega) only [go_sem, Φa, hP, h4_0, h4_2, h4_4, h4_6, h4_7, h4_16, hops, hopl]
        refine SCall.mono (row_spec hP (s := cL (restAt s i)) (by omega)) ?_
        rintro v_ L_ ⟨gr, rfl, rfl⟩
        have hrN := row_ok (s := cL (restAt s i)) (g := gr) (by omega)
        try with_reducible refine stI ?_
        try simp (maxSteps:=1000000)(dsimp:=false)(disch:=omega) only [go_sem, Φa, hP, h4_0, h4_2, h4_4, h4_6, h4_7, h4_16, hops, hopl]
        refine ⟨lessR1, ?_⟩
        try with_reducible refine stI ?_
        try simp (maxSteps:=1000000)(dsimp:=false)(disch:=omega) only [go_sem, Φa, hP, h4_0, h4_2, h4_4, h4_6, h4_7, h4_16, hops, hopl]
        intro g8
        try with_reducible refine stI ?_
        try simp (maxSteps:=1000000)(dsimp:=false)(disch:=omega) only [go_sem, Φa, hP, h4_0, h4_2, h4_4, h4_6, h4_7, h4_16, hops, hopl]
        refine ⟨lessR2, ?_⟩
        try with_reducible refine stI ?_
        try simp (maxSteps:=1000000)(dsimp:=false)(disch:=omega) only [go_sem, Φa, hP, h4_0, h4_2, h4_4, h4_6, h4_7, h4_16, hops, hopl]
        refine YAppend.rowL (z := [.slice none 0 0]) (f := rwV) (x := mkRw (cL (restAt s i)) gr) (i := 2) (hP ▸ T.elS_39) (hP ▸ T.zr_50) rfl rfl rfl rfl hrow (by omega) (by decide) ?_
        intro v' s' hr'
        obtain ⟨A', c', rfl, hcc', _⟩ := Row.form hr'
        try with_reducible refine stI ?_
        try simp (maxSteps:=1000000)(dsimp:=false)(disch:=omega) only [go_sem, Φa, hP, h4_0, h4_2, h4_4, h4_6, h4_7, h4_16, hops, hopl]
        refine ⟨lessR2, ?_⟩
        try with_reducible refine stI ?_
        try simp (maxSteps:=1000000)(dsimp:=false)(disch:=omega) only [go_sem, Φa, hP, h4_0, h4_2, h4_4, h4_6, h4_7, h4_16, hops, hopl]
        refine ⟨2, _, _, _, rfl, (by simp), .inr (by omega), ?_⟩
        try with_reducible refine stI ?_
        try simp (maxSteps:=1000000)(dsimp:=false)(disch:=omega) only [go_sem, Φa, hP, h4_0, h4_2, h4_4, h4_6, h4_7, h4_16, hops, hopl]
        refine hK16 _ _ ?_
        try clear hK16 K16
        refine SX.less lessRd ?_
        refine SX.region_d [some 31, some 5] rfl (fun ops hops => ?_)
        unfold Dsts at hops
        simp (maxSteps:=1000000)(dsimp:=false)(disch:=omega) only [go_sem, Φa, hP, h4_0, h4_2, h4_4, h4_6, h4_7, h4_16, hops]
        refine hK14 _ _ ?_
        try clear hK14 K14
        refine SX.live [0, 2, 4, 5, 16] (fun T5 hT5 => ?_)
        simp only [forall_mem_cons', forall_mem_nil', go_sem, Φa, hP, h4_0, h4_2, h4_4, h4_6, h4_7, h4_16] at hT5
        obtain ⟨h5_0, h5_2, h5_4, h5_5, h5_16⟩ := hT5
        clear h4_0 h4_2 h4_4 h4_6 h4_7 h4_16 T4
        refine SX.region_d [some 32, some 16] rfl (fun ops hops => ?_)
        unfold Dsts at hops
        simp (maxSteps:=1000000)(dsimp:=false)(disch:=omega) only [go_sem, Φa, hP, h5_0, h5_2, h5_4, h5_5, h5_16, hops]
        repeat' ((first | refine And.intro (by omega) ?_ | fail); try (with_reducible refine stI ?_); try simp (maxSteps:=1000000)(dsimp:=false)(disch:=omega) only [go_sem, Φa, hP, h5_0, h5_2, h5_4, h5_5, h5_16, hops])
        refine hK10 (i + 1, .slice A' (rs ++ [mkRw (cL (restAt s i)) gr]).length c', s', rs ++ [mkRw (cL (restAt s i)) gr]) _ (some (b4, .cells [.int .i64 0, (.slice A' (rs ++ [mkRw (cL (restAt s i)) gr]).length c'), .bool false].toArray 41 (0, 0)) :: s' :: (rsl (rs ++ [mkRw (cL (restAt s i)) gr]) ++ some (b0, .cells [.int .i64 0, .slice none 0 0, .bool false].toArray 41 (0, 0)) :: L)) _ (by rw [rsl_app]; exact Less.refl _) ?_ ?_
        · try dsimp only
          refine ⟨?_, ?_, ?_, ?_, ?_, ?_, ?_⟩
          · simp (maxSteps:=1000000)(dsimp:=false)(disch:=omega) only [go_sem, Φa, hP, h5_0, h5_2, h5_4, h5_5, h5_16]
            first | done | rfl | skip
          · simp (maxSteps:=1000000)(dsimp:=false)(disch:=omega) only [go_sem, Φa, hP, h5_0, h5_2, h5_4, h5_5, h5_16]
            first | done | rfl | skip
          · simp (maxSteps:=1000000)(dsimp:=false)(disch:=omega) only [go_sem, Φa, hP, h5_0, h5_2, h5_4, h5_5, h5_16]
          · simp (maxSteps:=1000000)(dsimp:=false)(disch:=omega) only [go_sem, Φa, hP, h5_0, h5_2, h5_4, h5_5, h5_16]
          · simp (maxSteps:=1000000)(dsimp:=false)(disch:=omega) only [go_sem, Φa, hP, h5_0, h5_2, h5_4, h5_5, h5_16]
          · rfl
          · refine ⟨by omega, hr', RwsOk.app hok hrN, ?_⟩
            rw [List.map_append, hrs, rowsAt_succ]
            rfl
        · (try dsimp only); omega
      · clear hX13 hY13 X13 Y13
        refine SX.exit ?_
        try simp only [andThen_normal, andThen_ret, andThen_exit, inBlk_normal, inBlk_ret, inBlk_exit, Nat.reduceEqDiff, if_true, if_false, ↓reduceIte]
        refine hK8 _ _ ?_
        try clear hK8 K8
        refine SX.seq_k fun K17 hK17 => ?_
        obtain rfl : i = 128 := by omega
        obtain ⟨VA, vc, rfl, hvc, _⟩ := Row.form hrow
        refine SX.less lessF ?_
        have hslF : ∀ a b : Slot, SlR (Cell Γ (a :: b :: so :: (rsl rs ++ L))) (.slice VA rs.length vc) (rowsAt s 128) := fun a b => by rw [← hrs]; exact RowR.sl hrow hok (List.mem_cons_of_mem _ (List.mem_cons_of_mem _ (List.mem_cons_self ..))) (fun x hx => List.mem_cons_of_mem _ (List.mem_cons_of_mem _ (List.mem_cons_of_mem _ (List.mem_append_left _ hx))))
        have hcn := rowsAt_cnt hs
        have hrl := rowsAt_len s 128
        have hby := rowsAt_by (s := s) (n := 128)
        have hRF : readF s = ⟨0, rowsAt s 128, shortB (rowsAt s 128)⟩ := rfl
        generalize rowsAt s 128 = RS at hrs hslF hcn hrl hby hRF
        have hshb : decide (((cnt RS : Nat) : Int) < 1024) = shortB RS := decide_eq_decide.2 (by omega)
        refine SX.region_d [some 33, some 34, some 35, some 36, none] rfl (fun ops hops => ?_)
        unfold Dsts at hops
        simp (maxSteps:=1000000)(dsimp:=false)(disch:=omega) only [go_sem, Φa, hP, h3_5, h3_16, h3_0, h3_2, h3_4, hops, hshb]
        refine ⟨_, Cell.at 1 rfl rfl, _, Cell.at 1 rfl rfl, _, Cell.at 1 rfl rfl, ?_⟩
        try with_reducible refine stI ?_
        try simp (maxSteps:=1000000)(dsimp:=false)(disch:=omega) only [go_sem, Φa, hP, h3_5, h3_16, h3_0, h3_2, h3_4, hops, hshb]
        refine SCall.mono (count_spec (rows := RS) hP (hslF _ _) (by omega) (by omega)) ?_
        rintro v_ L_ ⟨hv_, hL_⟩
        rw [hv_, hL_]
        clear hv_ hL_ v_ L_
        try with_reducible refine stI ?_
        try simp (maxSteps:=1000000)(dsimp:=false)(disch:=omega) only [go_sem, Φa, hP, h3_5, h3_16, h3_0, h3_2, h3_4, hops, hshb]
        refine ⟨1, _, _, _, rfl, (by simp), .inr (by omega), ?_⟩
        try with_reducible refine stI ?_
        try simp (maxSteps:=1000000)(dsimp:=false)(disch:=omega) only [go_sem, Φa, hP, h3_5, h3_16, h3_0, h3_2, h3_4, hops, hshb]
        refine hK17 _ _ ?_
        try clear hK17 K17
        refine SX.seq_k fun K18 hK18 => ?_
        refine SX.seq_k fun K19 hK19 => ?_
        refine SX.region_d [some 38, some 39, some 37, some 40, some 41, some 9, some 10] rfl (fun ops hops => ?_)
        unfold Dsts at hops
        simp (maxSteps:=1000000)(dsimp:=false)(disch:=omega) only [go_sem, Φa, hP, h3_5, h3_16, h3_0, h3_2, h3_4, hops]
        refine ⟨_, Cell.at 1 rfl rfl, _, Cell.at 1 rfl rfl, _, Cell.at 1 rfl rfl, ?_⟩
        try with_reducible refine stI ?_
        try simp (maxSteps:=1000000)(dsimp:=false)(disch:=omega) only [go_sem, Φa, hP, h3_5, h3_16, h3_0, h3_2, h3_4, hops]
        refine SCall.mono (Show_spec (f := (⟨0, RS, shortB RS⟩ : Fm)) hP (hslF _ _) (by show cnt RS ≤ _; omega) (by show RS.length ≤ _; omega) hby) ?_
        rintro v_ L_ ⟨hv_, hL_⟩
        rw [hv_, hL_]
        clear hv_ hL_ v_ L_
        try with_reducible refine stI ?_
        try simp (maxSteps:=1000000)(dsimp:=false)(disch:=omega) only [go_sem, Φa, hP, h3_5, h3_16, h3_0, h3_2, h3_4, hops]
        refine hK19 _ _ ?_
        try clear hK19 K19
        refine SX.live [0, 2, 4, 9, 10] (fun T6 hT6 => ?_)
        simp only [forall_mem_cons', forall_mem_nil', go_sem, Φa, hP, h3_5, h3_16, h3_0, h3_2, h3_4] at hT6
        obtain ⟨h6_0, h6_2, h6_4, h6_9, h6_10⟩ := hT6
        clear h3_5 h3_16 h3_0 h3_2 h3_4 T3
        refine SX.seq_k fun K20 hK20 => ?_
        refine SX.region_xd [some 42, some 43, some 44, some 45, some 46, some 47, some 48] rfl (fun ops hops => ?_)
        unfold Dsts at hops
        refine RX.live [0, 2, 4, 9, 10] (fun T7 hT7 => ?_)
        simp only [forall_mem_cons', forall_mem_nil', go_sem, Φa, hP, h6_0, h6_2, h6_4, h6_9, h6_10] at hT7
        obtain ⟨h7_0, h7_2, h7_4, h7_9, h7_10⟩ := hT7
        clear h6_0 h6_2 h6_4 h6_9 h6_10 T6
        refine RX.join 7 (fun (ss : Unit) T L' => T 48 = .bool (!decide (showS (⟨0, RS, shortB RS⟩ : Fm) = (s, 0))) ∧ T 2 = T7 2 ∧ T 4 = T7 4 ∧ L' = some (b0, .cells [.int .i64 0, .slice none 0 0, .bool false].toArray 41 (0, 0)) :: some (b4, .cells [.int .i64 0, (.slice VA rs.length vc), .bool (shortB RS)].toArray 41 (0, 0)) :: so :: (rsl rs ++ L) ∧ (True)) (fun K21 hK21 => ?_) ?_
        · simp only [h7_2, h7_4] at hK21
          simp (maxSteps:=1000000)(dsimp:=false)(disch:=omega) only [go_sem, Φa, hP, h7_0, h7_2, h7_4, h7_9, h7_10, hops]
          repeat' (first | refine iteB (fun hg => ?_) (fun hg => ?_) | refine iteI (fun hg => ?_) (fun hg => ?_) | ((first | refine And.intro (by omega) ?_ | refine ⟨_, Cell.at 0 rfl rfl, ?_⟩ | refine ⟨_, Cell.at 1 rfl rfl, ?_⟩ | refine ⟨_, Cell.at 2 rfl rfl, ?_⟩ | fail); try (with_reducible refine stI ?_); try simp (maxSteps:=1000000)(dsimp:=false)(disch:=omega) only [go_sem, Φa, hP, h7_0, h7_2, h7_4, h7_9, h7_10, hops]) | fail)
          all_goals
            refine hK21 () _ (some (b0, .cells [.int .i64 0, .slice none 0 0, .bool false].toArray 41 (0, 0)) :: some (b4, .cells [.int .i64 0, (.slice VA rs.length vc), .bool (shortB RS)].toArray 41 (0, 0)) :: so :: (rsl rs ++ L)) _ (by first | exact Less.refl _ | exact Less.drop _ _ | exact Less.drops (Less.drop _ _) | exact Less.drops (Less.drops (Less.drop _ _)) | exact Less.drops (Less.drops (Less.drops (Less.drop _ _))) | exact Less.drops (Less.drops (Less.drops (Less.drops (Less.drop _ _))))) ?_
            try dsimp only
            refine ⟨?_, ?_, ?_, ?_, ?_⟩
            · simp (maxSteps:=1000000)(dsimp:=false)(disch:=omega) only [go_sem, Φa, hP, h7_0, h7_2, h7_4, h7_9, h7_10]
              first | done | rfl | (refine congrArg Value.bool ?_; rw [Bool.eq_iff_iff]; simp only [Bool.not_eq_true', Bool.not_eq_false', decide_eq_true_eq, decide_eq_false_iff_not, Prod.ext_iff]; simp_all; done)
            · simp (maxSteps:=1000000)(dsimp:=false)(disch:=omega) only [go_sem, Φa, hP, h7_0, h7_2, h7_4, h7_9, h7_10]
            · simp (maxSteps:=1000000)(dsimp:=false)(disch:=omega) only [go_sem, Φa, hP, h7_0, h7_2, h7_4, h7_9, h7_10]
            · rfl
            · trivial
        · intro ss T8 L8 hI
          simp only [h7_2, h7_4] at hI 
          obtain ⟨h8_48, h8_2, h8_4, hL8, hinv⟩ := hI
          replace hL8 := hL8.symm
          subst hL8
          clear h7_0 h7_2 h7_4 h7_9 h7_10 T7
          refine RX.done ?_
          simp (maxSteps:=1000000)(dsimp:=false)(disch:=omega) only [go_sem, Φa, hP, h8_48, h8_2, h8_4, hops]
          refine hK20 _ _ ?_
          try clear hK20 K20
          refine SX.cond_k fun X22 Y22 hX22 hY22 => ?_
          simp (maxSteps:=1000000)(dsimp:=false)(disch:=omega) only [go_sem, Φa, hP, h8_48, h8_2, h8_4, condVC]
          refine ⟨fun hc48 => hX22 ?_, fun hc48 => hY22 ?_⟩
          · clear hX22 hY22 X22 Y22
            refine SX.seq_k fun K23 hK23 => ?_
            refine SX.region_d [some 49, none, some 3] rfl (fun ops hops => ?_)
            unfold Dsts at hops
            simp (maxSteps:=1000000)(dsimp:=false)(disch:=omega) only [go_sem, Φa, hP, h8_48, h8_2, h8_4, hops]
            refine ⟨0, _, _, _, rfl, (by simp), .inr (by omega), ?_⟩
            try with_reducible refine stI ?_
            try simp (maxSteps:=1000000)(dsimp:=false)(disch:=omega) only [go_sem, Φa, hP, h8_48, h8_2, h8_4, hops]
            refine hK23 _ _ ?_
            try clear hK23 K23
            refine SX.ret ?_
            simp only [andThen_normal, andThen_ret, andThen_exit, inBlk_normal, inBlk_ret, inBlk_exit, Nat.reduceEqDiff, if_true, if_false, ↓reduceIte, retQ_ret]
            try simp only [res0,res1,res2,res3,stK_e,resX,resK,oneOr,ld_ptr,loadVC,loadN,List.nil_append,List.cons_append,Nat.reduceAdd,Nat.add_zero,Nat.zero_add,Addr.add_lit,Addr.add_zero',add_addS,T.elA_41,T.lay_41,T.szA_41,T.zr_41,Tryd.underlying41,go_sem,Φa,hP,h8_48,h8_2,h8_4]
            refine ⟨_, _, (lessE4.trans (Less.none _)), ⟨_, Cell.at 0 rfl rfl, _, Cell.at 0 rfl rfl, _, Cell.at 0 rfl rfl, rfl⟩, ReadR.bad ?_⟩
            have hd : ¬ showS (readF s) = (s, 0) := by rw [hRF]; simpa using hc48
            unfold readP
            rw [if_neg (by omega), if_neg hd]
          · clear hX22 hY22 X22 Y22
            refine SX.skip ?_
            try simp only [andThen_normal, andThen_ret, andThen_exit, inBlk_normal, inBlk_ret, inBlk_exit, Nat.reduceEqDiff, if_true, if_false, ↓reduceIte]
            refine hK18 _ _ ?_
            try clear hK18 K18
            refine SX.seq_k fun K24 hK24 => ?_
            refine SX.region_d [some 50, none, some 3] rfl (fun ops hops => ?_)
            unfold Dsts at hops
            simp (maxSteps:=1000000)(dsimp:=false)(disch:=omega) only [go_sem, Φa, hP, h8_48, h8_2, h8_4, hops]
            refine ⟨_, Cell.at 1 rfl rfl, _, Cell.at 1 rfl rfl, _, Cell.at 1 rfl rfl, ?_⟩
            try with_reducible refine stI ?_
            try simp (maxSteps:=1000000)(dsimp:=false)(disch:=omega) only [go_sem, Φa, hP, h8_48, h8_2, h8_4, hops]
            refine ⟨0, _, _, _, rfl, (by simp), .inr (by omega), ?_⟩
            try with_reducible refine stI ?_
            try simp (maxSteps:=1000000)(dsimp:=false)(disch:=omega) only [go_sem, Φa, hP, h8_48, h8_2, h8_4, hops]
            refine hK24 _ _ ?_
            try clear hK24 K24
            refine SX.ret ?_
            simp only [andThen_normal, andThen_ret, andThen_exit, inBlk_normal, inBlk_ret, inBlk_exit, Nat.reduceEqDiff, if_true, if_false, ↓reduceIte, retQ_ret]
            try simp only [res0,res1,res2,res3,stK_e,resX,resK,oneOr,ld_ptr,loadVC,loadN,List.nil_append,List.cons_append,Nat.reduceAdd,Nat.add_zero,Nat.zero_add,Addr.add_lit,Addr.add_zero',add_addS,T.elA_41,T.lay_41,T.szA_41,T.zr_41,Tryd.underlying41,go_sem,Φa,hP,h8_48,h8_2,h8_4]
            have hd : showS (readF s) = (s, 0) := by rw [hRF]; simpa using hc48
            have hp : readP s = (⟨0, RS, shortB RS⟩, 0) := by unfold readP; rw [if_neg (by omega), if_pos hd, hRF]
            refine ⟨_, _, Less.drop _ _ |>.trans (Less.drop _ _), ⟨_, Cell.at 0 rfl rfl, _, Cell.at 0 rfl rfl, _, Cell.at 0 rfl rfl, rfl⟩, ?_⟩
            exact ⟨_, _, rs, by rw [hp]; rfl, rfl, hrow, hok, by rw [hp]; exact hrs⟩

end Go.Proofs.YtpakphgeichopaaDoor
set_option linter.unusedVariables false
set_option linter.unusedSimpArgs false
namespace Go.Proofs.YtpakphgeichopaaDoor
open Go.RowKit Go.SX Go.Proofs

theorem tmod_nat (a b : Nat) : ((a : Int)).tmod (b : Int) = ((a % b : Nat) : Int) := by
  rw [Int.tmod_eq_emod_of_nonneg (Int.natCast_nonneg _), Int.natCast_emod]
end Go.Proofs.YtpakphgeichopaaDoor
set_option linter.unusedVariables false
set_option linter.unusedSimpArgs false
namespace Go.Proofs.YtpakphgeichopaaDoor
open Go.RowKit Go.SX Go.Proofs
end Go.Proofs.YtpakphgeichopaaDoor
set_option linter.unusedVariables false
set_option linter.unusedSimpArgs false
set_option linter.unusedSectionVars false
namespace Go.Proofs.YtpakphgeichopaaDoor
open Go.RowKit Go.SX
/-! For 'lists': rows and frames that are written over and grown, in memory of their own. -/
instance : Inhabited Rw := ⟨⟨[], undef, none⟩⟩
/-- A frame and its memory: what its rows are made of, the rows' slice and that slice's slot. -/
structure Gf where
  at_ : Int
  sh : Bool
  rs : List Rw
  v : Value
  s : Slot
instance : Inhabited Gf := ⟨⟨0, false, [], undef, none⟩⟩
def gfV (g : Gf) : List Value := [.int .i64 g.at_, g.v, .bool g.sh]
theorem gfV_len (g : Gf) : (gfV g).length = 3 := rfl
abbrev RowG (v : Value) (gs : List Gf) (s : Slot) : Prop := RowL gfV 41 3 v gs s
def gmV (g : Gf) : List Value := [g.v]
abbrev RowM (v : Value) (gs : List Gf) (s : Slot) : Prop := RowL gmV 39 1 v gs s
def mrk (i : Nat) : Int := ((i % 251 : Nat) : Int)
theorem mrk_byte (i : Nat) : 0 ≤ mrk i ∧ mrk i ≤ 255 := by unfold mrk; omega
theorem mrk_tmod (i : Nat) : (i : Int).tmod 251 = mrk i := tmod_nat i 251
theorem mrk_wrap (i : Nat) : IntKind.u8.wrap (mrk i) = mrk i := wu8 (mrk_byte i)
theorem Row.any {e sz n : Nat} {v : Value} {xs : List Value} {s : Slot} (h : Row e sz v n xs s) :
    ∃ A c b, v = .slice A n c ∧ (n ≤ c ∧ c ≤ 9223372036854775807) ∧ (0 < n → A = some ⟨b, 0, none⟩) ∧ ∀ (Γ : Ctx) (L : Hp) (i : Nat), L[i]? = some s → ∀ j u, xs[j]? = some u → Cell Γ L ⟨b, j, none⟩ u := by
  have h0 := h
  obtain ⟨hl, ⟨rfl, rfl, rfl⟩ | ⟨g, cap, junk, rfl, rfl, hc, hlen⟩⟩ := h
  · refine ⟨none, 0, 0, rfl, ⟨Nat.le_refl _, by decide⟩, fun h => absurd h (Nat.lt_irrefl _), fun Γ L i hi j u hj => ?_⟩
    obtain rfl : xs = [] := List.eq_nil_of_length_eq_zero (by omega)
    cases hj
  · refine ⟨_, cap, g, rfl, hc, fun _ => rfl, fun Γ L i hi j u hj => ?_⟩
    obtain ⟨a, c, e1, _, hcell⟩ := h0.cell (Γ := Γ) hi hj
    cases e1
    rwa [Addr.add_lit, Nat.zero_add] at hcell
theorem RowL.anyL {α : Type} {f : α → List Value} {e sz : Nat} [Inhabited α] {v : Value} {l : List α} {s : Slot} (hf : ∀ x, (f x).length = sz) (h : RowL f e sz v l s) :
    ∃ A c b, v = .slice A l.length c ∧ (l.length ≤ c ∧ c ≤ 9223372036854775807) ∧ (0 < l.length → A = some ⟨b, 0, none⟩) ∧ ∀ (Γ : Ctx) (L : Hp) (i : Nat), L[i]? = some s → ∀ j, j < l.length → ∀ k u, k < sz → (f (l.getD j default))[k]? = some u → Cell Γ L ⟨b, j * sz + k, none⟩ u := by
  obtain ⟨A, c, a1, h1, h2, h3, h4⟩ := Row.any h
  exact ⟨A, c, a1, h1, h2, h3, fun Γ L i hi j hj k u hk hu => h4 Γ L i hi _ u (by rw [flat_at hf (getD_get (d := default) hj) hk]; exact hu)⟩
theorem RowI.any {k : IntKind} {e : TypeId} {v : Value} {l : List Int} {s : Slot} (h : RowI k e v l s) :
    ∃ A c b, v = .slice A l.length c ∧ (l.length ≤ c ∧ c ≤ 9223372036854775807) ∧ (0 < l.length → A = some ⟨b, 0, none⟩) ∧ ∀ (Γ : Ctx) (L : Hp) (i : Nat), L[i]? = some s → ∀ j, j < l.length → Cell Γ L ⟨b, j, none⟩ (.int k (l.getD j 0)) := by
  obtain ⟨A, c, a1, h1, h2, h3, h4⟩ := Row.any h
  exact ⟨A, c, a1, h1, h2, h3, fun Γ L i hi j hj => h4 Γ L i hi _ _ (by rw [SX.ints_at, getD_get (d := 0) hj]; rfl)⟩
theorem SrcV.row {Γ : Ctx} {L : Hp} {e sz n i : Nat} {tx : TypeId} {v : Value} {xs : List Value} {s : Slot} (ht : (elS Γ.P tx).isSome = true) (h : Row e sz v n xs s) (hL : L[i]? = some s) (h1 : oneB xs = true) : SrcV Γ L sz tx v n xs := by
  obtain ⟨hl, ⟨rfl, rfl, rfl⟩ | ⟨g, cap, junk, rfl, rfl, hc, hlen⟩⟩ := h
  · obtain rfl : xs = [] := List.eq_nil_of_length_eq_zero (by omega)
    exact SrcV.nil ht
  · refine SrcV.slice ht hl (fun j u hj => ?_) h1
    rw [Addr.add_lit, Nat.zero_add]
    refine Cell.own i hL ?_
    have hlt := (List.getElem?_eq_some_iff.1 hj).1
    simp [List.getElem?_append_left hlt, hj]
section
variable {α : Type} [Inhabited α] {f : α → Slot}
theorem mapS_at {l : List α} {R : Hp} {i : Nat} (h : i < l.length) : (l.map f ++ R)[i]? = some (f (l.getD i default)) := by
  rw [List.getElem?_append_left (by rw [List.length_map]; exact h), List.getElem?_map, getD_get (d := default) h]
  rfl
theorem mapS_set {l : List α} {R : Hp} {i : Nat} {y : α} (h : i < l.length) : (l.map f ++ R).set i (f y) = (l.set i y).map f ++ R := by
  rw [List.set_append_left _ _ (by rw [List.length_map]; exact h), List.map_set]
theorem mapS_set2 {l : List α} {R : Hp} {i : Nat} {x y : α} (h : i < l.length) : ((l.set i x).map f ++ R).set i (f y) = (l.set i y).map f ++ R := by
  rw [mapS_set (by rw [List.length_set]; exact h), List.set_set]
theorem set_self {l : List α} {i : Nat} (h : i < l.length) : l.set i (l.getD i default) = l := by
  refine List.ext_getElem? fun j => ?_
  rw [List.getElem?_set]
  by_cases hj : i = j
  · subst hj
    rw [if_pos rfl, if_pos h, getD_get (d := default) h]
  · rw [if_neg hj]
theorem take_set_succ {l : List α} {i : Nat} {y : α} (h : i < l.length) : (l.set i y).take (i + 1) = l.take i ++ [y] := by
  rw [List.take_add_one, List.take_set, List.set_eq_of_length_le (by rw [List.length_take]; omega), List.getElem?_set, if_pos rfl, if_pos h]
  rfl
theorem getD_set {l : List α} {i j : Nat} {y : α} (h : i < l.length) : (l.set i y).getD j default = if i = j then y else l.getD j default := by
  rw [set_getD]
  by_cases hj : i = j
  · rw [if_pos ⟨hj, h⟩, if_pos hj]
  · rw [if_neg (fun hh => hj hh.1), if_neg hj]
end
/-- Every row is filled with its mark, up to row i. -/
structure S2 (rws Ws : List Rw) (i : Nat) : Prop where
  n : Ws.length = rws.length
  v : ∀ j, j < rws.length → (Ws.getD j default).v = (rws.getD j default).v
  ln : ∀ j, j < rws.length → (Ws.getD j default).l.length = (rws.getD j default).l.length
  ok : ∀ j, j < rws.length → RowI .u8 5 (Ws.getD j default).v (Ws.getD j default).l (Ws.getD j default).s
  fill : ∀ j, j < i → j < rws.length → ∀ x ∈ (Ws.getD j default).l, x = mrk j
theorem S2.start {rws : List Rw} (h : RwsOk rws) : S2 rws rws 0 where
  n := rfl
  v _ _ := rfl
  ln _ _ := rfl
  ok j hj := h _ (List.mem_of_getElem? (getD_get (d := default) hj))
  fill j hj := absurd hj (Nat.not_lt_zero _)
theorem S2.next {rws Ws : List Rw} {i : Nat} (h : S2 rws Ws i) (hi : i < rws.length) (hp : ∀ k, k < (rws.getD i default).l.length → (Ws.getD i default).l.getD k 0 = mrk i) : S2 rws Ws (i + 1) where
  n := h.n
  v := h.v
  ln := h.ln
  ok := h.ok
  fill j hj hjl x hx := by
    rcases Nat.lt_succ_iff_lt_or_eq.1 hj with hj | rfl
    · exact h.fill j hj hjl x hx
    · obtain ⟨k, hk⟩ := List.mem_iff_getElem?.1 hx
      have hkl := (List.getElem?_eq_some_iff.1 hk).1
      have := hp k (by rw [← h.ln j hi]; exact hkl)
      rwa [List.getD_eq_getElem?_getD, hk] at this
theorem S2.put {rws Ws : List Rw} {i : Nat} (h : S2 rws Ws i) (hi : i < rws.length) {w : Rw} (hv : w.v = (rws.getD i default).v) (hl : w.l.length = (rws.getD i default).l.length) (hr : RowI .u8 5 w.v w.l w.s) : S2 rws (Ws.set i w) i := by
  have hn := h.n
  have g : ∀ j, (Ws.set i w).getD j default = if i = j then w else Ws.getD j default := fun j => getD_set (by omega)
  constructor
  · rw [List.length_set]; exact hn
  · intro j hj; rw [g]; split
    · rename_i e; subst e; exact hv
    · exact h.v j hj
  · intro j hj; rw [g]; split
    · rename_i e; subst e; exact hl
    · exact h.ln j hj
  · intro j hj; rw [g]; split
    · exact hr
    · exact h.ok j hj
  · intro j hji hj; rw [g, if_neg (by omega)]; exact h.fill j hji hj
/-- Rows up to i are grown by twelve. -/
structure S3 (rws Ws : List Rw) (i : Nat) : Prop where
  n : Ws.length = rws.length
  v : ∀ j, i ≤ j → j < rws.length → (Ws.getD j default).v = (rws.getD j default).v
  ln : ∀ j, j < rws.length → (Ws.getD j default).l.length ≤ (rws.getD j default).l.length + 12
  ln0 : ∀ j, i ≤ j → j < rws.length → (Ws.getD j default).l.length ≤ (rws.getD j default).l.length
  ok : ∀ j, j < rws.length → RowI .u8 5 (Ws.getD j default).v (Ws.getD j default).l (Ws.getD j default).s
  fill : ∀ j, j < rws.length → ∀ x ∈ (Ws.getD j default).l, x = mrk j
theorem S3.start {rws Ws : List Rw} (h : S2 rws Ws rws.length) : S3 rws Ws 0 where
  n := h.n
  v j _ hj := h.v j hj
  ln j hj := by have := h.ln j hj; omega
  ln0 j _ hj := by have := h.ln j hj; omega
  ok := h.ok
  fill j hj := h.fill j hj hj
theorem S3.next {rws Ws : List Rw} {i : Nat} (h : S3 rws Ws i) (hi : i < rws.length) {w : Rw} (hl : w.l.length ≤ (rws.getD i default).l.length + 12) (hr : RowI .u8 5 w.v w.l w.s) (hf : ∀ x ∈ w.l, x = mrk i) : S3 rws (Ws.set i w) (i + 1) := by
  have hn := h.n
  have g : ∀ j, (Ws.set i w).getD j default = if i = j then w else Ws.getD j default := fun j => getD_set (by omega)
  constructor
  · rw [List.length_set]; exact hn
  · intro j hij hj; rw [g, if_neg (by omega)]; exact h.v j (by omega) hj
  · intro j hj; rw [g]; split
    · rename_i e; subst e; exact hl
    · exact h.ln j hj
  · intro j hij hj; rw [g, if_neg (by omega)]; exact h.ln0 j (by omega) hj
  · intro j hj; rw [g]; split
    · exact hr
    · exact h.ok j hj
  · intro j hj; rw [g]; split
    · rename_i e; subst e; exact hf
    · exact h.fill j hj
/-- A row that was written over. -/
def Tw (R : Hp) (m : Int) (w : Rw) : Prop := w.l = [m, 7] ∧ RowI .u8 5 w.v w.l w.s ∧ w.s ∈ R
theorem Tw.cons {R : Hp} {m : Int} {w : Rw} (s : Slot) (h : Tw R m w) : Tw (s :: R) m w := ⟨h.1, h.2.1, List.mem_cons_of_mem _ h.2.2⟩
abbrev twR (b : Nat) (m : Int) : Rw := ⟨[m, 7], .slice (some ⟨b, 0, none⟩) 2 2, some (b, .cells [.int .u8 m, .int .u8 7].toArray 5 (0, 0))⟩
theorem Tw.new (R : Hp) (b : Nat) (m : Int) : Tw ((twR b m).s :: R) m (twR b m) := ⟨rfl, Row.lit (xs := SX.ints .u8 [m, 7]) rfl (by decide), List.mem_cons_self ..⟩
structure S5 (gs Gs : List Gf) (R : Hp) (i : Nat) : Prop where
  n : Gs.length = gs.length
  v : ∀ j, j < gs.length → (Gs.getD j default).v = (gs.getD j default).v
  ln : ∀ j, j < gs.length → (Gs.getD j default).rs.length = (gs.getD j default).rs.length
  ok : ∀ j, j < gs.length → RowR (Gs.getD j default).v (Gs.getD j default).rs (Gs.getD j default).s
  two : ∀ j, j < i → j < gs.length → ∀ w ∈ (Gs.getD j default).rs, Tw R (mrk j) w
def GsOk (gs : List Gf) : Prop := ∀ j, j < gs.length → RowR (gs.getD j default).v (gs.getD j default).rs (gs.getD j default).s
theorem S5.start {gs : List Gf} (R : Hp) (h : GsOk gs) : S5 gs gs R 0 where
  n := rfl
  v _ _ := rfl
  ln _ _ := rfl
  ok := h
  two j hj := absurd hj (Nat.not_lt_zero _)
theorem S5.next {gs Gs : List Gf} {R : Hp} {i : Nat} (h : S5 gs Gs R i) (hi : i < gs.length) (hp : ∀ k, k < (gs.getD i default).rs.length → Tw R (mrk i) ((Gs.getD i default).rs.getD k default)) : S5 gs Gs R (i + 1) where
  n := h.n
  v := h.v
  ln := h.ln
  ok := h.ok
  two j hj hjl w hw := by
    rcases Nat.lt_succ_iff_lt_or_eq.1 hj with hj | rfl
    · exact h.two j hj hjl w hw
    · obtain ⟨k, hk⟩ := List.mem_iff_getElem?.1 hw
      have hkl := (List.getElem?_eq_some_iff.1 hk).1
      have := hp k (by rw [← h.ln j hi]; exact hkl)
      rwa [List.getD_eq_getElem?_getD, hk] at this
theorem S5.put {gs Gs : List Gf} {R : Hp} {i : Nat} (h : S5 gs Gs R i) (hi : i < gs.length) (s : Slot) {g : Gf} (hv : g.v = (gs.getD i default).v) (hl : g.rs.length = (gs.getD i default).rs.length) (hr : RowR g.v g.rs g.s) : S5 gs (Gs.set i g) (s :: R) i := by
  have hn := h.n
  have e : ∀ j, (Gs.set i g).getD j default = if i = j then g else Gs.getD j default := fun j => getD_set (by omega)
  constructor
  · rw [List.length_set]; exact hn
  · intro j hj; rw [e]; split
    · rename_i e; subst e; exact hv
    · exact h.v j hj
  · intro j hj; rw [e]; split
    · rename_i e; subst e; exact hl
    · exact h.ln j hj
  · intro j hj; rw [e]; split
    · exact hr
    · exact h.ok j hj
  · intro j hji hj w hw; rw [e, if_neg (by omega)] at hw; exact (h.two j hji hj w hw).cons s
structure S6 (gs Gs : List Gf) (R : Hp) (i : Nat) : Prop where
  n : Gs.length = gs.length
  v : ∀ j, i ≤ j → j < gs.length → (Gs.getD j default).v = (gs.getD j default).v
  ln : ∀ j, j < gs.length → (Gs.getD j default).rs.length ≤ (gs.getD j default).rs.length + 9
  ln0 : ∀ j, i ≤ j → j < gs.length → (Gs.getD j default).rs.length ≤ (gs.getD j default).rs.length
  ok : ∀ j, j < gs.length → RowR (Gs.getD j default).v (Gs.getD j default).rs (Gs.getD j default).s
  two : ∀ j, j < gs.length → ∀ w ∈ (Gs.getD j default).rs, Tw R (mrk j) w
theorem S6.start {gs Gs : List Gf} {R : Hp} (h : S5 gs Gs R gs.length) : S6 gs Gs R 0 where
  n := h.n
  v j _ hj := h.v j hj
  ln j hj := by have := h.ln j hj; omega
  ln0 j _ hj := by have := h.ln j hj; omega
  ok := h.ok
  two j hj := h.two j hj hj
theorem S6.cons {gs Gs : List Gf} {R : Hp} {i : Nat} (h : S6 gs Gs R i) (s : Slot) : S6 gs Gs (s :: R) i where
  n := h.n
  v := h.v
  ln := h.ln
  ln0 := h.ln0
  ok := h.ok
  two j hj w hw := (h.two j hj w hw).cons s
theorem S6.next {gs Gs : List Gf} {R : Hp} {i : Nat} (h : S6 gs Gs R i) (hi : i < gs.length) {g : Gf} (hl : g.rs.length ≤ (gs.getD i default).rs.length + 9) (hr : RowR g.v g.rs g.s) (hf : ∀ w ∈ g.rs, Tw R (mrk i) w) : S6 gs (Gs.set i g) R (i + 1) := by
  have hn := h.n
  have e : ∀ j, (Gs.set i g).getD j default = if i = j then g else Gs.getD j default := fun j => getD_set (by omega)
  constructor
  · rw [List.length_set]; exact hn
  · intro j hij hj; rw [e, if_neg (by omega)]; exact h.v j (by omega) hj
  · intro j hj; rw [e]; split
    · rename_i e; subst e; exact hl
    · exact h.ln j hj
  · intro j hij hj; rw [e, if_neg (by omega)]; exact h.ln0 j (by omega) hj
  · intro j hj; rw [e]; split
    · exact hr
    · exact h.ok j hj
  · intro j hj; rw [e]; split
    · rename_i e; subst e; exact hf
    · exact h.two j hj
def rowsG (gs : List Gf) : List Rw := gs.flatMap (·.rs)
theorem rowsG_take {gs : List Gf} {i : Nat} (h : i < gs.length) : rowsG (gs.take (i + 1)) = rowsG (gs.take i) ++ (gs.getD i default).rs := by
  unfold rowsG
  rw [List.take_add_one, List.flatMap_append, getD_get (d := default) h]
  simp
theorem rowsG_take_le (gs : List Gf) (i : Nat) : (rowsG (gs.take i)).length ≤ (rowsG gs).length := by
  have h : rowsG gs = rowsG (gs.take i) ++ rowsG (gs.drop i) := by unfold rowsG; rw [← List.flatMap_append, List.take_append_drop]
  rw [h, List.length_append]
  omega
theorem rowsG_at_le {gs : List Gf} {i : Nat} (h : i < gs.length) : (rowsG (gs.take i)).length + (gs.getD i default).rs.length ≤ (rowsG gs).length := by
  have h1 := rowsG_take h
  have h2 := rowsG_take_le gs (i + 1)
  rw [h1, List.length_append] at h2
  exact h2
abbrev wSet (w : Rw) (k : Nat) (x : Int) (r : Nat) (junk : List Value) : Rw := ⟨w.l.set k x, w.v, some (r, .cells (SX.ints .u8 (w.l.set k x) ++ junk).toArray 5 (0, 0))⟩
theorem wSet_ok {w : Rw} {k r cap : Nat} {x : Int} {junk : List Value} (hv : w.v = .slice (some ⟨r, 0, none⟩) w.l.length cap) (hc : w.l.length ≤ cap ∧ cap ≤ 9223372036854775807) (hj : w.l.length + junk.length = cap) : RowI .u8 5 (wSet w k x r junk).v (wSet w k x r junk).l (wSet w k x r junk).s := by
  have h := RowI.mk2 (k := .u8) (e := 5) (l := w.l.set k x) (r := r) (cap := cap) (junk := junk) (by rw [List.length_set]; exact hc) (by rw [List.length_set]; exact hj)
  rw [List.length_set] at h
  show RowI .u8 5 w.v _ _
  rw [hv]
  exact h
theorem rwV_map (rs : List Rw) : rs.flatMap rwV = rs.map Rw.v := by
  induction rs with
  | nil => rfl
  | cons r rs ih => rw [List.flatMap_cons, ih]; rfl
theorem rwV_set {rs : List Rw} {k : Nat} {x : Rw} {junk : List Value} (h : k < rs.length) : (rs.flatMap rwV ++ junk).set k x.v = (rs.set k x).flatMap rwV ++ junk := by
  rw [rwV_map, rwV_map, List.set_append_left _ _ (by rw [List.length_map]; exact h), List.map_set]
abbrev gSet (g : Gf) (k : Nat) (x : Rw) (r : Nat) (junk : List Value) : Gf := ⟨g.at_, g.sh, g.rs.set k x, g.v, some (r, .cells ((g.rs.set k x).flatMap rwV ++ junk).toArray 50 (0, 0))⟩
theorem gSet_ok {g : Gf} {k r cap : Nat} {x : Rw} {junk : List Value} (hv : g.v = .slice (some ⟨r, 0, none⟩) g.rs.length cap) (hc : g.rs.length ≤ cap ∧ cap ≤ 9223372036854775807) (hj : (g.rs.flatMap rwV ++ junk).length = cap * 1) : RowR (gSet g k x r junk).v (gSet g k x r junk).rs (gSet g k x r junk).s := by
  have h := RowL.mk (f := rwV) (e := 50) (sz := 1) (l := g.rs.set k x) (g := r) (cap := cap) (junk := junk) rwV_len (by rw [List.length_set]; exact hc) (by rw [List.length_append, flat_len rwV_len, List.length_set]; rw [List.length_append, flat_len rwV_len] at hj; exact hj)
  rw [List.length_set] at h
  show RowR g.v _ _
  rw [hv]
  exact h
theorem oneB_rws {ws : List Rw} (h : RwsOk ws) : oneB (ws.flatMap rwV) = true := by
  rw [rwV_map]
  unfold oneB
  rw [List.all_eq_true]
  intro u hu
  obtain ⟨w, hw, rfl⟩ := List.mem_map.1 hu
  obtain ⟨A, c, hv, _, _⟩ := Row.form (h w hw)
  rw [hv]
  rfl
theorem RowR.anyR {v : Value} {ws : List Rw} {s : Slot} (h : RowR v ws s) :
    ∃ A c b, v = .slice A ws.length c ∧ (ws.length ≤ c ∧ c ≤ 9223372036854775807) ∧ (0 < ws.length → A = some ⟨b, 0, none⟩) ∧ ∀ (Γ : Ctx) (L : Hp) (i : Nat), L[i]? = some s → ∀ j, j < ws.length → Cell Γ L ⟨b, j, none⟩ (ws.getD j default).v := by
  obtain ⟨A, c, a1, h1, h2, h3, h4⟩ := RowL.anyL rwV_len h
  exact ⟨A, c, a1, h1, h2, h3, fun Γ L i hi j hj => by have := h4 Γ L i hi j hj 0 _ (by decide) rfl; rwa [Nat.mul_one, Nat.add_zero] at this⟩
theorem RowM.anyM {v : Value} {ws : List Gf} {s : Slot} (h : RowM v ws s) :
    ∃ A c b, v = .slice A ws.length c ∧ (ws.length ≤ c ∧ c ≤ 9223372036854775807) ∧ (0 < ws.length → A = some ⟨b, 0, none⟩) ∧ ∀ (Γ : Ctx) (L : Hp) (i : Nat), L[i]? = some s → ∀ j, j < ws.length → Cell Γ L ⟨b, j, none⟩ (ws.getD j default).v := by
  obtain ⟨A, c, a1, h1, h2, h3, h4⟩ := RowL.anyL (f := gmV) (fun _ => rfl) h
  exact ⟨A, c, a1, h1, h2, h3, fun Γ L i hi j hj => by have := h4 Γ L i hi j hj 0 _ (by decide) rfl; rwa [Nat.mul_one, Nat.add_zero] at this⟩
theorem rwsOk_at {gs : List Gf} (h : RwsOk (rowsG gs)) {i : Nat} (hi : i < gs.length) : RwsOk (gs.getD i default).rs := fun w hw =>
  h w (List.mem_flatMap.2 ⟨_, List.mem_of_getElem? (getD_get (d := default) hi), hw⟩)
theorem getD_mem {α : Type} [Inhabited α] {l : List α} {i : Nat} (h : i < l.length) : l.getD i default ∈ l := List.mem_of_getElem? (getD_get (d := default) h)
theorem getD_memI {l : List Int} {i : Nat} (h : i < l.length) : l.getD i 0 ∈ l := List.mem_of_getElem? (getD_get (d := 0) h)
theorem lessG3 {a b : Slot} {R : Hp} : Less (a :: b :: R) (a :: b :: Option.none :: R) := (Less.none _).trans (Less.perm ((List.Perm.swap _ _ _).trans (.cons _ (.swap _ _ _))))
theorem lessD4 {a b c : Slot} {M N : Hp} : Less (a :: b :: c :: (M ++ N)) (a :: N) := Less.sublist (.cons_cons _ (.cons _ (.cons _ (List.sublist_append_right M N))))
theorem less5 {a b : Slot} {M R : Hp} : Less (a :: b :: (M ++ R)) (b :: (M ++ a :: R)) := by
  refine Less.perm ?_
  exact (List.Perm.swap _ _ _).trans (.cons _ List.perm_middle.symm)
theorem less6 {z a b c : Slot} {M R : Hp} : Less (z :: a :: b :: c :: (M ++ R)) (b :: c :: (M ++ a :: R)) := by
  refine (Less.drop _ _).trans (Less.perm ?_)
  exact (List.Perm.swap _ _ _).trans (.cons _ ((List.Perm.swap _ _ _).trans (.cons _ List.perm_middle.symm)))
theorem lessEnd {a b : Slot} {M R L : Hp} (h : Less R L) : Less (a :: b :: (M ++ R)) L := (Less.sublist (.cons _ (.cons _ (List.sublist_append_right M R)))).trans h
end Go.Proofs.YtpakphgeichopaaDoor
set_option linter.unusedVariables false
set_option linter.unusedSimpArgs false
namespace Go.Proofs.YtpakphgeichopaaDoor
open Go.RowKit Go.SX Go.Proofs
open Go.SX renaming ia_someH → Φa, andThen_normal → Φc, forall_mem_cons' → Φd
open Nat renaming reduceEqDiff → Φb
-- LISTS2
-- LISTS3
-- LISTS4
set_option maxHeartbeats 1000000 in
set_option maxRecDepth 100000 in
theorem lists_spec {Γ : Ctx} (hP : Γ.P = Tryd.prog) {L : Hp} {gs : List Gf} {rws : List Rw} {vl : Value} {sl : Slot} (hl : RowG vl gs sl) (hok : GsOk gs) (hrw : rws = rowsG gs) (hro : RwsOk rws) (hb1 : rws.length ≤ 1099511627776) (hb2 : ∀ w ∈ rws, w.l.length ≤ 1099511627776) (hb3 : gs.length ≤ 1099511627776) :
    SCall Γ 16 #[vl] (sl :: (rws.map Rw.s ++ (gs.map Gf.s ++ L))) (fun v L' => v = .bool true ∧ L' = L) := by
  obtain ⟨LA, lc, la, rfl, hlc, hle, hlat⟩ := RowL.anyL gfV_len hl
  refine SCall.enter (n := 200) (res1 2) (hP ▸ Tryd.func16) rfl rfl (by simp) (res1_ok rfl) ?_
  refine SX.seq_k fun K1 hK1 => ?_
  refine SX.region_d [some 2] rfl (fun ops hops => ?_)
  unfold Dsts at hops
  simp (maxSteps:=1000000)(dsimp:=false)(disch:=omega) only [go_sem, Φa, hP, hops]
  refine hK1 _ _ ?_
  try clear hK1 K1
  refine SX.seq_k fun K2 hK2 => ?_
  refine SX.region_d [some 3] rfl (fun ops hops => ?_)
  unfold Dsts at hops
  simp (maxSteps:=1000000)(dsimp:=false)(disch:=omega) only [go_sem, Φa, hP, hops]
  refine hK2 _ _ ?_
  try clear hK2 K2
  refine SX.seq_k fun K3 hK3 => ?_
  refine SX.seq_k fun K4 hK4 => ?_
  refine SX.less lessI ?_
  refine SX.region_d [some 4] rfl (fun ops hops => ?_)
  unfold Dsts at hops
  simp (maxSteps:=1000000)(dsimp:=false)(disch:=omega) only [go_sem, Φa, hP, hops]
  refine hK4 _ _ ?_
  try clear hK4 K4
  refine SX.block ?_
  refine SX.live [0, 3, 4] (fun T1 hT1 => ?_)
  simp only [Φd, forall_mem_nil', go_sem, Φa, hP] at hT1
  obtain ⟨h1_0, h1_3, h1_4⟩ := hT1
  refine SX.loop_k (fun (ss : (Nat) × (Value) × (Slot)) T L' => (fun (i : Nat) (vr : Value) (sr : Slot) => T 3 = vr ∧ T 4 = .int .i64 (i : Int) ∧ T 0 = T1 0 ∧ L' = sl :: sr :: (rws.map Rw.s ++ (gs.map Gf.s ++ L)) ∧ (i ≤ gs.length ∧ RowR vr (rowsG (gs.take i)) sr)) (ss.1) (ss.2.1) (ss.2.2)) (fun (ss : (Nat) × (Value) × (Slot)) => (fun (i : Nat) (vr : Value) (sr : Slot) => gs.length - i) (ss.1) (ss.2.1) (ss.2.2)) (0, .slice none 0 0, none) ?_ ?_
  · try dsimp only
    refine ⟨?_, ?_, ?_, ?_, ?_⟩
    · first | exact h1_3 | (rw [h1_3]; rfl) | (rw [h1_3]; simp; done)
    · first | exact h1_4 | (rw [h1_4]; rfl) | (rw [h1_4]; simp; done)
    · rfl
    · rfl
    · exact ⟨Nat.zero_le _, RowL.nil _ _ _⟩
  · intro ss T2 L2 hI K5 hK5
    obtain ⟨i, vr, sr⟩ := ss
    try dsimp only at hI hK5
    simp only [h1_0] at hI hK5
    obtain ⟨h2_3, h2_4, h2_0, hL2, ⟨hi, hrow⟩⟩ := hI
    replace hL2 := hL2.symm
    subst hL2
    clear h1_0 h1_3 h1_4 T1
    refine SX.seq_k fun K6 hK6 => ?_
    refine SX.seq_k fun K7 hK7 => ?_
    refine SX.region_d [some 21, some 22, some 23, some 24] rfl (fun ops hops => ?_)
    unfold Dsts at hops
    simp (maxSteps:=1000000)(dsimp:=false)(disch:=omega) only [go_sem, Φa, hP, h2_3, h2_4, h2_0, hops]
    repeat' ((first | refine And.intro (by omega) ?_ | fail); try (with_reducible refine stI ?_); try simp (maxSteps:=1000000)(dsimp:=false)(disch:=omega) only [go_sem, Φa, hP, h2_3, h2_4, h2_0, hops])
    refine hK7 _ _ ?_
    try clear hK7 K7
    refine SX.cond_k fun X8 Y8 hX8 hY8 => ?_
    simp (maxSteps:=1000000)(dsimp:=false)(disch:=omega) only [go_sem, Φa, hP, h2_3, h2_4, h2_0, condVC]
    refine ⟨fun hc24 => hX8 ?_, fun hc24 => hY8 ?_⟩
    · clear hX8 hY8 X8 Y8
      refine SX.skip ?_
      try simp only [Φc, andThen_ret, andThen_exit, inBlk_normal, inBlk_ret, inBlk_exit, Φb, if_true, if_false, ↓reduceIte]
      refine hK6 _ _ ?_
      try clear hK6 K6
      refine SX.seq_k fun K9 hK9 => ?_
      refine SX.block ?_
      have hil : i < gs.length := by omega
      have hgi := hok i hil
      have hra := rowsG_at_le hil
      rw [← hrw] at hra
      have hmem : (gs.getD i default).s ∈ sl :: sr :: (rws.map Rw.s ++ (gs.map Gf.s ++ L)) := List.mem_cons_of_mem _ (List.mem_cons_of_mem _ (List.mem_append_right _ (List.mem_append_left _ (List.mem_map_of_mem (getD_mem hil)))))
      obtain ⟨q, hq⟩ := List.mem_iff_getElem?.1 hmem
      refine SX.region_d [some 27, some 28, some 29, some 30, some 31, some 32, some 33, some 3] rfl (fun ops hops => ?_)
      unfold Dsts at hops
      simp (maxSteps:=1000000)(dsimp:=false)(disch:=omega) only [go_sem, Φa, hP, h2_3, h2_4, h2_0, hops, ia_at hle]
      refine ⟨_, hlat _ _ 0 rfl i hil 1 _ (by decide) rfl, ?_⟩
      try with_reducible refine stI ?_
      try simp (maxSteps:=1000000)(dsimp:=false)(disch:=omega) only [go_sem, Φa, hP, h2_3, h2_4, h2_0, hops, ia_at hle]
      refine YAppend.row (z := [.slice none 0 0]) (m := (gs.getD i default).rs.length) (ys := (gs.getD i default).rs.flatMap rwV) (i := 1) (hP ▸ T.elS_39) (hP ▸ T.zr_50) rfl rfl hrow (SrcV.row (i := q) (by rw [hP, T.elS_39]; rfl) hgi hq (oneB_rws (rwsOk_at (hrw ▸ hro) hil))) (flat_len rwV_len _) (by omega) (by decide) ?_
      intro v' s' hr'
      try with_reducible refine stI ?_
      try simp (maxSteps:=1000000)(dsimp:=false)(disch:=omega) only [go_sem, Φa, hP, h2_3, h2_4, h2_0, hops, ia_at hle]
      refine hK9 _ _ ?_
      try clear hK9 K9
      refine SX.live [0, 3, 4] (fun T3 hT3 => ?_)
      simp only [Φd, forall_mem_nil', go_sem, Φa, hP, h2_3, h2_4, h2_0] at hT3
      obtain ⟨h3_0, h3_3, h3_4⟩ := hT3
      clear h2_3 h2_4 h2_0 T2
      refine SX.region_d [some 25, some 26, some 4] rfl (fun ops hops => ?_)
      unfold Dsts at hops
      simp (maxSteps:=1000000)(dsimp:=false)(disch:=omega) only [go_sem, Φa, hP, h3_0, h3_3, h3_4, hops]
      repeat' ((first | refine And.intro (by omega) ?_ | fail); try (with_reducible refine stI ?_); try simp (maxSteps:=1000000)(dsimp:=false)(disch:=omega) only [go_sem, Φa, hP, h3_0, h3_3, h3_4, hops])
      refine hK5 (i + 1, v', s') _ (sl :: s' :: (rws.map Rw.s ++ (gs.map Gf.s ++ L))) _ (by exact Less.refl _) ?_ ?_
      · try dsimp only
        refine ⟨?_, ?_, ?_, ?_, ?_⟩
        · simp (maxSteps:=1000000)(dsimp:=false)(disch:=omega) only [go_sem, Φa, hP, h3_0, h3_3, h3_4]
          first | done | rfl | skip
        · simp (maxSteps:=1000000)(dsimp:=false)(disch:=omega) only [go_sem, Φa, hP, h3_0, h3_3, h3_4]
          first | done | rfl | skip
        · simp (maxSteps:=1000000)(dsimp:=false)(disch:=omega) only [go_sem, Φa, hP, h3_0, h3_3, h3_4]
        · rfl
        · refine ⟨by omega, ?_⟩
          show Row 50 1 v' (rowsG (gs.take (i + 1))).length ((rowsG (gs.take (i + 1))).flatMap rwV) s'
          rw [rowsG_take hil, List.length_append, List.flatMap_append]
          exact hr'
      · (try dsimp only); omega
    · clear hX8 hY8 X8 Y8
      refine SX.exit ?_
      try simp only [Φc, andThen_ret, andThen_exit, inBlk_normal, inBlk_ret, inBlk_exit, Φb, if_true, if_false, ↓reduceIte]
      refine hK3 _ _ ?_
      try clear hK3 K3
      refine SX.seq_k fun K10 hK10 => ?_
      refine SX.seq_k fun K11 hK11 => ?_
      obtain rfl : i = gs.length := by omega
      rw [List.take_length, ← hrw] at hrow
      obtain ⟨RA, rc, ra, rfl, hrc, hre, hrat⟩ := RowR.anyR hrow
      refine SX.region_d [some 5] rfl (fun ops hops => ?_)
      unfold Dsts at hops
      simp (maxSteps:=1000000)(dsimp:=false)(disch:=omega) only [go_sem, Φa, hP, h2_3, h2_4, h2_0, hops]
      refine hK11 _ _ ?_
      try clear hK11 K11
      refine SX.block ?_
      refine SX.live [0, 3, 5] (fun T4 hT4 => ?_)
      simp only [Φd, forall_mem_nil', go_sem, Φa, hP, h2_3, h2_4, h2_0] at hT4
      obtain ⟨h4_0, h4_3, h4_5⟩ := hT4
      clear h2_3 h2_4 h2_0 T2
      refine SX.loop_k (fun (ss : (Nat) × (List Rw)) T L' => (fun (i : Nat) (Ws : List Rw) => T 5 = .int .i64 (i : Int) ∧ T 0 = T4 0 ∧ T 3 = T4 3 ∧ L' = sl :: sr :: (Ws.map Rw.s ++ (gs.map Gf.s ++ L)) ∧ (i ≤ rws.length ∧ S2 rws Ws i)) (ss.1) (ss.2)) (fun (ss : (Nat) × (List Rw)) => (fun (i : Nat) (Ws : List Rw) => rws.length - i) (ss.1) (ss.2)) (0, rws) ?_ ?_
      · try dsimp only
        refine ⟨?_, ?_, ?_, ?_, ?_⟩
        · first | exact h4_5 | (rw [h4_5]; rfl) | (rw [h4_5]; simp; done)
        · rfl
        · rfl
        · rfl
        · exact ⟨Nat.zero_le _, S2.start hro⟩
      · intro ss T5 L5 hI K12 hK12
        obtain ⟨i, Ws⟩ := ss
        try dsimp only at hI hK12
        simp only [h4_0, h4_3] at hI hK12
        obtain ⟨h5_5, h5_0, h5_3, hL5, ⟨hi, hS⟩⟩ := hI
        replace hL5 := hL5.symm
        subst hL5
        clear h4_0 h4_3 h4_5 T4
        refine SX.seq_k fun K13 hK13 => ?_
        refine SX.seq_k fun K14 hK14 => ?_
        refine SX.region_d [some 34, some 35, some 36, some 37] rfl (fun ops hops => ?_)
        unfold Dsts at hops
        simp (maxSteps:=1000000)(dsimp:=false)(disch:=omega) only [go_sem, Φa, hP, h5_5, h5_0, h5_3, hops]
        repeat' ((first | refine And.intro (by omega) ?_ | fail); try (with_reducible refine stI ?_); try simp (maxSteps:=1000000)(dsimp:=false)(disch:=omega) only [go_sem, Φa, hP, h5_5, h5_0, h5_3, hops])
        refine hK14 _ _ ?_
        try clear hK14 K14
        refine SX.cond_k fun X15 Y15 hX15 hY15 => ?_
        simp (maxSteps:=1000000)(dsimp:=false)(disch:=omega) only [go_sem, Φa, hP, h5_5, h5_0, h5_3, condVC]
        refine ⟨fun hc37 => hX15 ?_, fun hc37 => hY15 ?_⟩
        · clear hX15 hY15 X15 Y15
          refine SX.skip ?_
          try simp only [Φc, andThen_ret, andThen_exit, inBlk_normal, inBlk_ret, inBlk_exit, Φb, if_true, if_false, ↓reduceIte]
          refine hK13 _ _ ?_
          try clear hK13 K13
          refine SX.seq_k fun K16 hK16 => ?_
          refine SX.block ?_
          refine SX.seq_k fun K17 hK17 => ?_
          have hil : i < rws.length := by omega
          obtain ⟨BA, bc, ba, hbv, hbc, hbe, _⟩ := RowI.any (hro _ (getD_mem hil))
          refine SX.region_d [some 6] rfl (fun ops hops => ?_)
          unfold Dsts at hops
          simp (maxSteps:=1000000)(dsimp:=false)(disch:=omega) only [go_sem, Φa, hP, h5_5, h5_0, h5_3, hops]
          refine hK17 _ _ ?_
          try clear hK17 K17
          refine SX.block ?_
          refine SX.live [0, 3, 5, 6] (fun T6 hT6 => ?_)
          simp only [Φd, forall_mem_nil', go_sem, Φa, hP, h5_5, h5_0, h5_3] at hT6
          obtain ⟨h6_0, h6_3, h6_5, h6_6⟩ := hT6
          clear h5_5 h5_0 h5_3 T5
          refine SX.loop_k (fun (ss : (Nat) × (List Rw)) T L' => (fun (k : Nat) (Wk : List Rw) => T 6 = .int .i64 (k : Int) ∧ T 0 = T6 0 ∧ T 3 = T6 3 ∧ T 5 = T6 5 ∧ L' = sl :: sr :: (Wk.map Rw.s ++ (gs.map Gf.s ++ L)) ∧ (k ≤ (rws.getD i default).l.length ∧ S2 rws Wk i ∧ ∀ q, q < k → (Wk.getD i default).l.getD q 0 = mrk i)) (ss.1) (ss.2)) (fun (ss : (Nat) × (List Rw)) => (fun (k : Nat) (Wk : List Rw) => (rws.getD i default).l.length - k) (ss.1) (ss.2)) (0, Ws) ?_ ?_
          · try dsimp only
            refine ⟨?_, ?_, ?_, ?_, ?_, ?_⟩
            · first | exact h6_6 | (rw [h6_6]; rfl) | (rw [h6_6]; simp; done)
            · rfl
            · rfl
            · rfl
            · rfl
            · exact ⟨Nat.zero_le _, hS, fun q hq => absurd hq (Nat.not_lt_zero _)⟩
          · intro ss T7 L7 hI K18 hK18
            obtain ⟨k, Wk⟩ := ss
            try dsimp only at hI hK18
            simp only [h6_0, h6_3, h6_5] at hI hK18
            obtain ⟨h7_6, h7_0, h7_3, h7_5, hL7, ⟨hk, hSk, hpart⟩⟩ := hI
            replace hL7 := hL7.symm
            subst hL7
            clear h6_0 h6_3 h6_5 h6_6 T6
            refine SX.seq_k fun K19 hK19 => ?_
            refine SX.seq_k fun K20 hK20 => ?_
            refine SX.region_d [some 40, some 41, some 42, some 43, some 44, some 45, some 46] rfl (fun ops hops => ?_)
            unfold Dsts at hops
            simp (maxSteps:=1000000)(dsimp:=false)(disch:=omega) only [go_sem, Φa, hP, h7_6, h7_0, h7_3, h7_5, hops, ia_at hre, hbv]
            refine ⟨_, hrat _ _ 1 rfl i hil, ?_⟩
            try with_reducible refine stI ?_
            try simp (maxSteps:=1000000)(dsimp:=false)(disch:=omega) only [go_sem, Φa, hP, h7_6, h7_0, h7_3, h7_5, hops, ia_at hre, hbv]
            refine hK20 _ _ ?_
            try clear hK20 K20
            refine SX.cond_k fun X21 Y21 hX21 hY21 => ?_
            simp (maxSteps:=1000000)(dsimp:=false)(disch:=omega) only [go_sem, Φa, hP, h7_6, h7_0, h7_3, h7_5, condVC]
            refine ⟨fun hc46 => hX21 ?_, fun hc46 => hY21 ?_⟩
            · clear hX21 hY21 X21 Y21
              refine SX.skip ?_
              try simp only [Φc, andThen_ret, andThen_exit, inBlk_normal, inBlk_ret, inBlk_exit, Φb, if_true, if_false, ↓reduceIte]
              refine hK19 _ _ ?_
              try clear hK19 K19
              refine SX.seq_k fun K22 hK22 => ?_
              refine SX.block ?_
              have hln := hSk.ln i hil
              have hlw : i < Wk.length := by rw [hSk.n]; exact hil
              obtain ⟨r, cap, junk, hv1, hs1, hcap, hjl⟩ := RowI.form2 (hSk.ok i hil) (by omega)
              have hv2 := (hSk.v i hil).symm.trans hv1
              have hgt : (sl :: sr :: (Wk.map Rw.s ++ (gs.map Gf.s ++ L)))[i + 2]? = some (some (r, .cells (SX.ints .u8 (Wk.getD i default).l ++ junk).toArray 5 (0, 0))) := (mapS_at (f := Rw.s) hlw).trans (congrArg some hs1)
              refine SX.region_d [some 49, some 50, some 51, some 52, some 53, some 54, some 55, some 56, some 57, none] rfl (fun ops hops => ?_)
              unfold Dsts at hops
              simp (maxSteps:=1000000)(dsimp:=false)(disch:=omega) only [go_sem, Φa, hP, h7_6, h7_0, h7_3, h7_5, hops, ia_at hre, hv2, mrk_tmod, mrk_wrap]
              refine ⟨_, hrat _ _ 1 rfl i hil, ?_⟩
              try with_reducible refine stI ?_
              try simp (maxSteps:=1000000)(dsimp:=false)(disch:=omega) only [go_sem, Φa, hP, h7_6, h7_0, h7_3, h7_5, hops, ia_at hre, hv2, mrk_tmod, mrk_wrap]
              refine ⟨i + 2, _, _, _, hgt, (by rw [List.length_append, SX.ints_length]; omega), .inr (by omega), ?_⟩
              try with_reducible refine stI ?_
              try simp (maxSteps:=1000000)(dsimp:=false)(disch:=omega) only [go_sem, Φa, hP, h7_6, h7_0, h7_3, h7_5, hops, ia_at hre, hv2, mrk_tmod, mrk_wrap]
              rw [ints_app_set (by omega), show ((Wk.map Rw.s ++ (gs.map Gf.s ++ L)).set i (some (r, .cells (SX.ints .u8 ((Wk.getD i default).l.set k (mrk i)) ++ junk).toArray 5 (0, 0)))) = (Wk.set i (wSet (Wk.getD i default) k (mrk i) r junk)).map Rw.s ++ (gs.map Gf.s ++ L) from mapS_set (f := Rw.s) (y := (wSet (Wk.getD i default) k (mrk i) r junk)) hlw]
              refine hK22 _ _ ?_
              try clear hK22 K22
              refine SX.live [0, 3, 5, 6] (fun T8 hT8 => ?_)
              simp only [Φd, forall_mem_nil', go_sem, Φa, hP, h7_6, h7_0, h7_3, h7_5] at hT8
              obtain ⟨h8_0, h8_3, h8_5, h8_6⟩ := hT8
              clear h7_6 h7_0 h7_3 h7_5 T7
              refine SX.region_d [some 47, some 48, some 6] rfl (fun ops hops => ?_)
              unfold Dsts at hops
              simp (maxSteps:=1000000)(dsimp:=false)(disch:=omega) only [go_sem, Φa, hP, h8_0, h8_3, h8_5, h8_6, hops]
              repeat' ((first | refine And.intro (by omega) ?_ | fail); try (with_reducible refine stI ?_); try simp (maxSteps:=1000000)(dsimp:=false)(disch:=omega) only [go_sem, Φa, hP, h8_0, h8_3, h8_5, h8_6, hops])
              refine hK18 (k + 1, Wk.set i (wSet (Wk.getD i default) k (mrk i) r junk)) _ (sl :: sr :: ((Wk.set i (wSet (Wk.getD i default) k (mrk i) r junk)).map Rw.s ++ (gs.map Gf.s ++ L))) _ (by exact Less.refl _) ?_ ?_
              · try dsimp only
                refine ⟨?_, ?_, ?_, ?_, ?_, ?_⟩
                · simp (maxSteps:=1000000)(dsimp:=false)(disch:=omega) only [go_sem, Φa, hP, h8_0, h8_3, h8_5, h8_6]
                  first | done | rfl | skip
                · simp (maxSteps:=1000000)(dsimp:=false)(disch:=omega) only [go_sem, Φa, hP, h8_0, h8_3, h8_5, h8_6]
                · simp (maxSteps:=1000000)(dsimp:=false)(disch:=omega) only [go_sem, Φa, hP, h8_0, h8_3, h8_5, h8_6]
                · simp (maxSteps:=1000000)(dsimp:=false)(disch:=omega) only [go_sem, Φa, hP, h8_0, h8_3, h8_5, h8_6]
                · rfl
                · refine ⟨by omega, hSk.put hil (w := (wSet (Wk.getD i default) k (mrk i) r junk)) (hSk.v i hil) (by show (List.set _ _ _).length = _; rw [List.length_set]; exact hln) (wSet_ok hv1 hcap hjl), fun q hq => ?_⟩
                  rw [getD_set hlw, if_pos rfl]
                  show (List.set _ _ _).getD q 0 = _
                  rw [set_getD]
                  split
                  · rfl
                  · rename_i hne
                    exact hpart q (by rcases Nat.lt_succ_iff_lt_or_eq.1 hq with h | h; exact h; exact absurd ⟨h.symm, by omega⟩ hne)
              · (try dsimp only); omega
            · clear hX21 hY21 X21 Y21
              refine SX.exit ?_
              try simp only [Φc, andThen_ret, andThen_exit, inBlk_normal, inBlk_ret, inBlk_exit, Φb, if_true, if_false, ↓reduceIte]
              refine hK16 _ _ ?_
              try clear hK16 K16
              refine SX.region_d [some 38, some 39, some 5] rfl (fun ops hops => ?_)
              unfold Dsts at hops
              simp (maxSteps:=1000000)(dsimp:=false)(disch:=omega) only [go_sem, Φa, hP, h7_6, h7_0, h7_3, h7_5, hops]
              repeat' ((first | refine And.intro (by omega) ?_ | fail); try (with_reducible refine stI ?_); try simp (maxSteps:=1000000)(dsimp:=false)(disch:=omega) only [go_sem, Φa, hP, h7_6, h7_0, h7_3, h7_5, hops])
              refine hK12 (i + 1, Wk) _ (sl :: sr :: (Wk.map Rw.s ++ (gs.map Gf.s ++ L))) _ (by exact Less.refl _) ?_ ?_
              · try dsimp only
                refine ⟨?_, ?_, ?_, ?_, ?_⟩
                · simp (maxSteps:=1000000)(dsimp:=false)(disch:=omega) only [go_sem, Φa, hP, h7_6, h7_0, h7_3, h7_5]
                  first | done | rfl | skip
                · simp (maxSteps:=1000000)(dsimp:=false)(disch:=omega) only [go_sem, Φa, hP, h7_6, h7_0, h7_3, h7_5]
                · simp (maxSteps:=1000000)(dsimp:=false)(disch:=omega) only [go_sem, Φa, hP, h7_6, h7_0, h7_3, h7_5]
                · rfl
                · exact ⟨by omega, hSk.next hil fun q hq => hpart q (by omega)⟩
              · (try dsimp only); omega
        · clear hX15 hY15 X15 Y15
          refine SX.exit ?_
          try simp only [Φc, andThen_ret, andThen_exit, inBlk_normal, inBlk_ret, inBlk_exit, Φb, if_true, if_false, ↓reduceIte]
          refine hK10 _ _ ?_
          try clear hK10 K10
          refine SX.seq_k fun K23 hK23 => ?_
          obtain rfl : i = rws.length := by omega
          have hS3 := S3.start hS
          refine SX.region_d [some 7] rfl (fun ops hops => ?_)
          unfold Dsts at hops
          simp (maxSteps:=1000000)(dsimp:=false)(disch:=omega) only [go_sem, Φa, hP, h5_5, h5_0, h5_3, hops]
          refine hK23 _ _ ?_
          try clear hK23 K23
          refine SX.seq_k fun K24 hK24 => ?_
          refine SX.seq_k fun K25 hK25 => ?_
          refine SX.less lessG3 ?_
          refine SX.region_d [some 8] rfl (fun ops hops => ?_)
          unfold Dsts at hops
          simp (maxSteps:=1000000)(dsimp:=false)(disch:=omega) only [go_sem, Φa, hP, h5_5, h5_0, h5_3, hops]
          refine hK25 _ _ ?_
          try clear hK25 K25
          refine SX.block ?_
          refine SX.live [0, 3, 7, 8] (fun T9 hT9 => ?_)
          simp only [Φd, forall_mem_nil', go_sem, Φa, hP, h5_5, h5_0, h5_3] at hT9
          obtain ⟨h9_0, h9_3, h9_7, h9_8⟩ := hT9
          clear h5_5 h5_0 h5_3 T5
          refine SX.loop_k (fun (ss : (Nat) × (List Rw) × (Value) × (Slot)) T L' => (fun (i : Nat) (Ws : List Rw) (vg : Value) (sg : Slot) => T 7 = vg ∧ T 8 = .int .i64 (i : Int) ∧ T 0 = T9 0 ∧ T 3 = T9 3 ∧ L' = sl :: sr :: sg :: (Ws.map Rw.s ++ (gs.map Gf.s ++ L)) ∧ (i ≤ rws.length ∧ S3 rws Ws i ∧ RowR vg (Ws.take i) sg)) (ss.1) (ss.2.1) (ss.2.2.1) (ss.2.2.2)) (fun (ss : (Nat) × (List Rw) × (Value) × (Slot)) => (fun (i : Nat) (Ws : List Rw) (vg : Value) (sg : Slot) => rws.length - i) (ss.1) (ss.2.1) (ss.2.2.1) (ss.2.2.2)) (0, Ws, .slice none 0 0, none) ?_ ?_
          · try dsimp only
            refine ⟨?_, ?_, ?_, ?_, ?_, ?_⟩
            · first | exact h9_7 | (rw [h9_7]; rfl) | (rw [h9_7]; simp; done)
            · first | exact h9_8 | (rw [h9_8]; rfl) | (rw [h9_8]; simp; done)
            · rfl
            · rfl
            · rfl
            · exact ⟨Nat.zero_le _, hS3, RowL.nil _ _ _⟩
          · intro ss T10 L10 hI K26 hK26
            obtain ⟨i, Ws, vg, sg⟩ := ss
            try dsimp only at hI hK26
            simp only [h9_0, h9_3] at hI hK26
            obtain ⟨h10_7, h10_8, h10_0, h10_3, hL10, ⟨hi, hS, hgrow⟩⟩ := hI
            replace hL10 := hL10.symm
            subst hL10
            clear h9_0 h9_3 h9_7 h9_8 T9
            refine SX.seq_k fun K27 hK27 => ?_
            refine SX.seq_k fun K28 hK28 => ?_
            refine SX.region_d [some 58, some 59, some 60, some 61] rfl (fun ops hops => ?_)
            unfold Dsts at hops
            simp (maxSteps:=1000000)(dsimp:=false)(disch:=omega) only [go_sem, Φa, hP, h10_7, h10_8, h10_0, h10_3, hops]
            repeat' ((first | refine And.intro (by omega) ?_ | fail); try (with_reducible refine stI ?_); try simp (maxSteps:=1000000)(dsimp:=false)(disch:=omega) only [go_sem, Φa, hP, h10_7, h10_8, h10_0, h10_3, hops])
            refine hK28 _ _ ?_
            try clear hK28 K28
            refine SX.cond_k fun X29 Y29 hX29 hY29 => ?_
            simp (maxSteps:=1000000)(dsimp:=false)(disch:=omega) only [go_sem, Φa, hP, h10_7, h10_8, h10_0, h10_3, condVC]
            refine ⟨fun hc61 => hX29 ?_, fun hc61 => hY29 ?_⟩
            · clear hX29 hY29 X29 Y29
              refine SX.skip ?_
              try simp only [Φc, andThen_ret, andThen_exit, inBlk_normal, inBlk_ret, inBlk_exit, Φb, if_true, if_false, ↓reduceIte]
              refine hK27 _ _ ?_
              try clear hK27 K27
              refine SX.seq_k fun K30 hK30 => ?_
              refine SX.block ?_
              refine SX.seq_k fun K31 hK31 => ?_
              have hil : i < rws.length := by omega
              have hlw : i < Ws.length := by rw [hS.n]; exact hil
              have hv17 := (hS.v i (Nat.le_refl _) hil).symm
              refine SX.region_d [some 64, some 65, some 66, some 67, some 9] rfl (fun ops hops => ?_)
              unfold Dsts at hops
              simp (maxSteps:=1000000)(dsimp:=false)(disch:=omega) only [go_sem, Φa, hP, h10_7, h10_8, h10_0, h10_3, hops, ia_at hre, hv17]
              refine ⟨_, hrat _ _ 1 rfl i hil, ?_⟩
              try with_reducible refine stI ?_
              try simp (maxSteps:=1000000)(dsimp:=false)(disch:=omega) only [go_sem, Φa, hP, h10_7, h10_8, h10_0, h10_3, hops, ia_at hre, hv17]
              refine hK31 _ _ ?_
              try clear hK31 K31
              refine SX.live [0, 3, 7, 8, 9] (fun T11 hT11 => ?_)
              simp only [Φd, forall_mem_nil', go_sem, Φa, hP, h10_7, h10_8, h10_0, h10_3] at hT11
              obtain ⟨h11_0, h11_3, h11_7, h11_8, h11_9⟩ := hT11
              clear h10_7 h10_8 h10_0 h10_3 T10
              refine SX.seq_k fun K32 hK32 => ?_
              refine SX.seq_k fun K33 hK33 => ?_
              refine SX.region_d [some 10] rfl (fun ops hops => ?_)
              unfold Dsts at hops
              simp (maxSteps:=1000000)(dsimp:=false)(disch:=omega) only [go_sem, Φa, hP, h11_0, h11_3, h11_7, h11_8, h11_9, hops]
              refine hK33 _ _ ?_
              try clear hK33 K33
              refine SX.block ?_
              refine SX.live [0, 3, 7, 8, 9, 10] (fun T12 hT12 => ?_)
              simp only [Φd, forall_mem_nil', go_sem, Φa, hP, h11_0, h11_3, h11_7, h11_8, h11_9] at hT12
              obtain ⟨h12_0, h12_3, h12_7, h12_8, h12_9, h12_10⟩ := hT12
              clear h11_0 h11_3 h11_7 h11_8 h11_9 T11
              refine SX.loop_k (fun (ss : (Nat) × (List Int) × (Value) × (Slot)) T L' => (fun (k : Nat) (wl : List Int) (wv : Value) (ws : Slot) => T 9 = wv ∧ T 10 = .int .i64 (k : Int) ∧ T 0 = T12 0 ∧ T 3 = T12 3 ∧ T 7 = T12 7 ∧ T 8 = T12 8 ∧ L' = sl :: sr :: sg :: ((Ws.set i (⟨wl, wv, ws⟩ : Rw)).map Rw.s ++ (gs.map Gf.s ++ L)) ∧ (k ≤ 12 ∧ RowI .u8 5 wv wl ws ∧ (∀ x ∈ wl, x = mrk i) ∧ wl.length ≤ (rws.getD i default).l.length + k)) (ss.1) (ss.2.1) (ss.2.2.1) (ss.2.2.2)) (fun (ss : (Nat) × (List Int) × (Value) × (Slot)) => (fun (k : Nat) (wl : List Int) (wv : Value) (ws : Slot) => 12 - k) (ss.1) (ss.2.1) (ss.2.2.1) (ss.2.2.2)) (0, (Ws.getD i default).l, (Ws.getD i default).v, (Ws.getD i default).s) ?_ ?_
              · try dsimp only
                refine ⟨?_, ?_, ?_, ?_, ?_, ?_, ?_, ?_⟩
                · first | exact h12_9 | (rw [h12_9]; rfl) | (rw [h12_9]; simp; done)
                · first | exact h12_10 | (rw [h12_10]; rfl) | (rw [h12_10]; simp; done)
                · rfl
                · rfl
                · rfl
                · rfl
                · rw [set_self hlw]
                · exact ⟨Nat.zero_le _, hS.ok i hil, hS.fill i hil, hS.ln0 i (Nat.le_refl _) hil⟩
              · intro ss T13 L13 hI K34 hK34
                obtain ⟨k, wl, wv, ws⟩ := ss
                try dsimp only at hI hK34
                simp only [h12_0, h12_3, h12_7, h12_8] at hI hK34
                obtain ⟨h13_9, h13_10, h13_0, h13_3, h13_7, h13_8, hL13, ⟨hk, hwr, hwf, hwl⟩⟩ := hI
                replace hL13 := hL13.symm
                subst hL13
                clear h12_0 h12_3 h12_7 h12_8 h12_9 h12_10 T12
                refine SX.seq_k fun K35 hK35 => ?_
                refine SX.seq_k fun K36 hK36 => ?_
                refine SX.region_d [some 68, some 69] rfl (fun ops hops => ?_)
                unfold Dsts at hops
                simp (maxSteps:=1000000)(dsimp:=false)(disch:=omega) only [go_sem, Φa, hP, h13_9, h13_10, h13_0, h13_3, h13_7, h13_8, hops]
                repeat' ((first | refine And.intro (by omega) ?_ | fail); try (with_reducible refine stI ?_); try simp (maxSteps:=1000000)(dsimp:=false)(disch:=omega) only [go_sem, Φa, hP, h13_9, h13_10, h13_0, h13_3, h13_7, h13_8, hops])
                refine hK36 _ _ ?_
                try clear hK36 K36
                refine SX.cond_k fun X37 Y37 hX37 hY37 => ?_
                simp (maxSteps:=1000000)(dsimp:=false)(disch:=omega) only [go_sem, Φa, hP, h13_9, h13_10, h13_0, h13_3, h13_7, h13_8, condVC]
                refine ⟨fun hc69 => hX37 ?_, fun hc69 => hY37 ?_⟩
                · clear hX37 hY37 X37 Y37
                  refine SX.skip ?_
                  try simp only [Φc, andThen_ret, andThen_exit, inBlk_normal, inBlk_ret, inBlk_exit, Φb, if_true, if_false, ↓reduceIte]
                  refine hK35 _ _ ?_
                  try clear hK35 K35
                  refine SX.seq_k fun K38 hK38 => ?_
                  refine SX.block ?_
                  have hb := hb2 _ (getD_mem hil)
                  have hgt : (sl :: sr :: sg :: ((Ws.set i (⟨wl, wv, ws⟩ : Rw)).map Rw.s ++ (gs.map Gf.s ++ L)))[i + 3]? = some ws := (mapS_at (f := Rw.s) (by rw [List.length_set]; exact hlw)).trans (by rw [getD_set hlw, if_pos rfl])
                  refine SX.region_d [some 72, some 73, some 74, some 75, some 76, some 77, some 9] rfl (fun ops hops => ?_)
                  unfold Dsts at hops
                  simp (maxSteps:=1000000)(dsimp:=false)(disch:=omega) only [go_sem, Φa, hP, h13_9, h13_10, h13_0, h13_3, h13_7, h13_8, hops, mrk_tmod, mrk_wrap]
                  intro g21
                  try with_reducible refine stI ?_
                  try simp (maxSteps:=1000000)(dsimp:=false)(disch:=omega) only [go_sem, Φa, hP, h13_9, h13_10, h13_0, h13_3, h13_7, h13_8, hops, mrk_tmod, mrk_wrap]
                  refine YAppend.int1 (i := i + 3) (hP ▸ T.elS_50) (hP ▸ T.zr_5) rfl hgt hwr (by omega) (by decide) ?_
                  intro v' s' hr'
                  try with_reducible refine stI ?_
                  try simp (maxSteps:=1000000)(dsimp:=false)(disch:=omega) only [go_sem, Φa, hP, h13_9, h13_10, h13_0, h13_3, h13_7, h13_8, hops, mrk_tmod, mrk_wrap]
                  rw [show (((Ws.set i (⟨wl, wv, ws⟩ : Rw)).map Rw.s ++ (gs.map Gf.s ++ L)).set i s') = (Ws.set i (⟨wl ++ [mrk i], v', s'⟩ : Rw)).map Rw.s ++ (gs.map Gf.s ++ L) from mapS_set2 (f := Rw.s) (y := (⟨wl ++ [mrk i], v', s'⟩ : Rw)) hlw]
                  refine hK38 _ _ ?_
                  try clear hK38 K38
                  refine SX.live [0, 3, 7, 8, 9, 10] (fun T14 hT14 => ?_)
                  simp only [Φd, forall_mem_nil', go_sem, Φa, hP, h13_9, h13_10, h13_0, h13_3, h13_7, h13_8] at hT14
                  obtain ⟨h14_0, h14_3, h14_7, h14_8, h14_9, h14_10⟩ := hT14
                  clear h13_9 h13_10 h13_0 h13_3 h13_7 h13_8 T13
                  refine SX.region_d [some 70, some 71, some 10] rfl (fun ops hops => ?_)
                  unfold Dsts at hops
                  simp (maxSteps:=1000000)(dsimp:=false)(disch:=omega) only [go_sem, Φa, hP, h14_0, h14_3, h14_7, h14_8, h14_9, h14_10, hops]
                  repeat' ((first | refine And.intro (by omega) ?_ | fail); try (with_reducible refine stI ?_); try simp (maxSteps:=1000000)(dsimp:=false)(disch:=omega) only [go_sem, Φa, hP, h14_0, h14_3, h14_7, h14_8, h14_9, h14_10, hops])
                  refine hK34 (k + 1, wl ++ [mrk i], v', s') _ (sl :: sr :: sg :: ((Ws.set i (⟨wl ++ [mrk i], v', s'⟩ : Rw)).map Rw.s ++ (gs.map Gf.s ++ L))) _ (by exact Less.drop _ _) ?_ ?_
                  · try dsimp only
                    refine ⟨?_, ?_, ?_, ?_, ?_, ?_, ?_, ?_⟩
                    · simp (maxSteps:=1000000)(dsimp:=false)(disch:=omega) only [go_sem, Φa, hP, h14_0, h14_3, h14_7, h14_8, h14_9, h14_10]
                      first | done | rfl | skip
                    · simp (maxSteps:=1000000)(dsimp:=false)(disch:=omega) only [go_sem, Φa, hP, h14_0, h14_3, h14_7, h14_8, h14_9, h14_10]
                      first | done | rfl | skip
                    · simp (maxSteps:=1000000)(dsimp:=false)(disch:=omega) only [go_sem, Φa, hP, h14_0, h14_3, h14_7, h14_8, h14_9, h14_10]
                    · simp (maxSteps:=1000000)(dsimp:=false)(disch:=omega) only [go_sem, Φa, hP, h14_0, h14_3, h14_7, h14_8, h14_9, h14_10]
                    · simp (maxSteps:=1000000)(dsimp:=false)(disch:=omega) only [go_sem, Φa, hP, h14_0, h14_3, h14_7, h14_8, h14_9, h14_10]
                    · simp (maxSteps:=1000000)(dsimp:=false)(disch:=omega) only [go_sem, Φa, hP, h14_0, h14_3, h14_7, h14_8, h14_9, h14_10]
                    · rfl
                    · refine ⟨by omega, hr', fun x hx => ?_, by show (wl ++ [mrk i]).length ≤ _; rw [List.length_append, List.length_singleton]; omega⟩
                      rcases List.mem_append.1 hx with hx | hx
                      · exact hwf x hx
                      · exact List.mem_singleton.1 hx
                  · (try dsimp only); omega
                · clear hX37 hY37 X37 Y37
                  refine SX.exit ?_
                  try simp only [Φc, andThen_ret, andThen_exit, inBlk_normal, inBlk_ret, inBlk_exit, Φb, if_true, if_false, ↓reduceIte]
                  refine hK32 _ _ ?_
                  try clear hK32 K32
                  obtain ⟨A', c', rfl, _, _⟩ := Row.form hwr
                  refine SX.region_d [some 78, some 79, some 80, some 81, some 7] rfl (fun ops hops => ?_)
                  unfold Dsts at hops
                  simp (maxSteps:=1000000)(dsimp:=false)(disch:=omega) only [go_sem, Φa, hP, h13_9, h13_10, h13_0, h13_3, h13_7, h13_8, hops]
                  intro g22
                  try with_reducible refine stI ?_
                  try simp (maxSteps:=1000000)(dsimp:=false)(disch:=omega) only [go_sem, Φa, hP, h13_9, h13_10, h13_0, h13_3, h13_7, h13_8, hops]
                  refine YAppend.rowL (L := sl :: sr :: sg :: ((Ws.set i (⟨wl, .slice A' wl.length c', ws⟩ : Rw)).map Rw.s ++ (gs.map Gf.s ++ L))) (z := [.slice none 0 0]) (f := rwV) (x := (⟨wl, .slice A' wl.length c', ws⟩ : Rw)) (i := 2) (hP ▸ T.elS_39) (hP ▸ T.zr_50) rfl rfl rfl rfl hgrow (by rw [List.length_take]; omega) (by decide) ?_
                  intro v' s' hr'
                  try with_reducible refine stI ?_
                  try simp (maxSteps:=1000000)(dsimp:=false)(disch:=omega) only [go_sem, Φa, hP, h13_9, h13_10, h13_0, h13_3, h13_7, h13_8, hops]
                  refine hK30 _ _ ?_
                  try clear hK30 K30
                  refine SX.region_d [some 62, some 63, some 8] rfl (fun ops hops => ?_)
                  unfold Dsts at hops
                  simp (maxSteps:=1000000)(dsimp:=false)(disch:=omega) only [go_sem, Φa, hP, h13_9, h13_10, h13_0, h13_3, h13_7, h13_8, hops]
                  repeat' ((first | refine And.intro (by omega) ?_ | fail); try (with_reducible refine stI ?_); try simp (maxSteps:=1000000)(dsimp:=false)(disch:=omega) only [go_sem, Φa, hP, h13_9, h13_10, h13_0, h13_3, h13_7, h13_8, hops])
                  refine hK26 (i + 1, Ws.set i (⟨wl, .slice A' wl.length c', ws⟩ : Rw), v', s') _ (sl :: sr :: s' :: ((Ws.set i (⟨wl, .slice A' wl.length c', ws⟩ : Rw)).map Rw.s ++ (gs.map Gf.s ++ L))) _ (by exact Less.drop _ _) ?_ ?_
                  · try dsimp only
                    refine ⟨?_, ?_, ?_, ?_, ?_, ?_⟩
                    · simp (maxSteps:=1000000)(dsimp:=false)(disch:=omega) only [go_sem, Φa, hP, h13_9, h13_10, h13_0, h13_3, h13_7, h13_8]
                      first | done | rfl | skip
                    · simp (maxSteps:=1000000)(dsimp:=false)(disch:=omega) only [go_sem, Φa, hP, h13_9, h13_10, h13_0, h13_3, h13_7, h13_8]
                      first | done | rfl | skip
                    · simp (maxSteps:=1000000)(dsimp:=false)(disch:=omega) only [go_sem, Φa, hP, h13_9, h13_10, h13_0, h13_3, h13_7, h13_8]
                    · simp (maxSteps:=1000000)(dsimp:=false)(disch:=omega) only [go_sem, Φa, hP, h13_9, h13_10, h13_0, h13_3, h13_7, h13_8]
                    · rfl
                    · exact ⟨by omega, hS.next hil (by show wl.length ≤ _; omega) hwr hwf, by rw [take_set_succ hlw]; exact hr'⟩
                  · (try dsimp only); omega
            · clear hX29 hY29 X29 Y29
              refine SX.exit ?_
              try simp only [Φc, andThen_ret, andThen_exit, inBlk_normal, inBlk_ret, inBlk_exit, Φb, if_true, if_false, ↓reduceIte]
              refine hK24 _ _ ?_
              try clear hK24 K24
              refine SX.seq_k fun K39 hK39 => ?_
              refine SX.seq_k fun K40 hK40 => ?_
              obtain rfl : i = rws.length := by omega
              have hnW := hS.n
              rw [List.take_of_length_le (by omega)] at hgrow
              obtain ⟨GA, gc, ga, rfl, hgc, hge, hgat⟩ := RowR.anyR hgrow
              refine SX.region_d [some 11] rfl (fun ops hops => ?_)
              unfold Dsts at hops
              simp (maxSteps:=1000000)(dsimp:=false)(disch:=omega) only [go_sem, Φa, hP, h10_7, h10_8, h10_0, h10_3, hops]
              refine hK40 _ _ ?_
              try clear hK40 K40
              refine SX.block ?_
              refine SX.live [0, 7, 11] (fun T15 hT15 => ?_)
              simp only [Φd, forall_mem_nil', go_sem, Φa, hP, h10_7, h10_8, h10_0, h10_3] at hT15
              obtain ⟨h15_0, h15_7, h15_11⟩ := hT15
              clear h10_7 h10_8 h10_0 h10_3 T10
              refine SX.loop_k (fun (ss : (Nat)) T L' => (fun (i : Nat) => T 11 = .int .i64 (i : Int) ∧ T 0 = T15 0 ∧ T 7 = T15 7 ∧ L' = sl :: sr :: sg :: (Ws.map Rw.s ++ (gs.map Gf.s ++ L)) ∧ (i ≤ Ws.length)) (ss)) (fun (ss : (Nat)) => (fun (i : Nat) => Ws.length - i) (ss)) 0 ?_ ?_
              · try dsimp only
                refine ⟨?_, ?_, ?_, ?_, ?_⟩
                · first | exact h15_11 | (rw [h15_11]; rfl) | (rw [h15_11]; simp; done)
                · rfl
                · rfl
                · rfl
                · exact Nat.zero_le _
              · intro i T16 L16 hI K41 hK41
                try dsimp only at hI hK41
                simp only [h15_0, h15_7] at hI hK41
                obtain ⟨h16_11, h16_0, h16_7, hL16, hi⟩ := hI
                replace hL16 := hL16.symm
                subst hL16
                clear h15_0 h15_7 h15_11 T15
                refine SX.seq_k fun K42 hK42 => ?_
                refine SX.seq_k fun K43 hK43 => ?_
                refine SX.region_d [some 82, some 83, some 84, some 85] rfl (fun ops hops => ?_)
                unfold Dsts at hops
                simp (maxSteps:=1000000)(dsimp:=false)(disch:=omega) only [go_sem, Φa, hP, h16_11, h16_0, h16_7, hops]
                repeat' ((first | refine And.intro (by omega) ?_ | fail); try (with_reducible refine stI ?_); try simp (maxSteps:=1000000)(dsimp:=false)(disch:=omega) only [go_sem, Φa, hP, h16_11, h16_0, h16_7, hops])
                refine hK43 _ _ ?_
                try clear hK43 K43
                refine SX.cond_k fun X44 Y44 hX44 hY44 => ?_
                simp (maxSteps:=1000000)(dsimp:=false)(disch:=omega) only [go_sem, Φa, hP, h16_11, h16_0, h16_7, condVC]
                refine ⟨fun hc85 => hX44 ?_, fun hc85 => hY44 ?_⟩
                · clear hX44 hY44 X44 Y44
                  refine SX.skip ?_
                  try simp only [Φc, andThen_ret, andThen_exit, inBlk_normal, inBlk_ret, inBlk_exit, Φb, if_true, if_false, ↓reduceIte]
                  refine hK42 _ _ ?_
                  try clear hK42 K42
                  refine SX.seq_k fun K45 hK45 => ?_
                  refine SX.block ?_
                  refine SX.seq_k fun K46 hK46 => ?_
                  have hil : i < Ws.length := by omega
                  have hir : i < rws.length := by omega
                  obtain ⟨BA, bc, ba, hbv, hbc, hbe, hbat⟩ := RowI.any (hS.ok i hir)
                  have hgt3 : (sl :: sr :: sg :: (Ws.map Rw.s ++ (gs.map Gf.s ++ L)))[i + 3]? = some (Ws.getD i default).s := mapS_at (f := Rw.s) hil
                  refine SX.region_d [some 12] rfl (fun ops hops => ?_)
                  unfold Dsts at hops
                  simp (maxSteps:=1000000)(dsimp:=false)(disch:=omega) only [go_sem, Φa, hP, h16_11, h16_0, h16_7, hops]
                  refine hK46 _ _ ?_
                  try clear hK46 K46
                  refine SX.block ?_
                  refine SX.live [0, 7, 11, 12] (fun T17 hT17 => ?_)
                  simp only [Φd, forall_mem_nil', go_sem, Φa, hP, h16_11, h16_0, h16_7] at hT17
                  obtain ⟨h17_0, h17_7, h17_11, h17_12⟩ := hT17
                  clear h16_11 h16_0 h16_7 T16
                  refine SX.loop_k (fun (ss : (Nat)) T L' => (fun (k : Nat) => T 12 = .int .i64 (k : Int) ∧ T 0 = T17 0 ∧ T 7 = T17 7 ∧ T 11 = T17 11 ∧ L' = sl :: sr :: sg :: (Ws.map Rw.s ++ (gs.map Gf.s ++ L)) ∧ (k ≤ (Ws.getD i default).l.length)) (ss)) (fun (ss : (Nat)) => (fun (k : Nat) => (Ws.getD i default).l.length - k) (ss)) 0 ?_ ?_
                  · try dsimp only
                    refine ⟨?_, ?_, ?_, ?_, ?_, ?_⟩
                    · first | exact h17_12 | (rw [h17_12]; rfl) | (rw [h17_12]; simp; done)
                    · rfl
                    · rfl
                    · rfl
                    · rfl
                    · exact Nat.zero_le _
                  · intro k T18 L18 hI K47 hK47
                    try dsimp only at hI hK47
                    simp only [h17_0, h17_7, h17_11] at hI hK47
                    obtain ⟨h18_12, h18_0, h18_7, h18_11, hL18, hk⟩ := hI
                    replace hL18 := hL18.symm
                    subst hL18
                    clear h17_0 h17_7 h17_11 h17_12 T17
                    refine SX.seq_k fun K48 hK48 => ?_
                    refine SX.seq_k fun K49 hK49 => ?_
                    refine SX.region_d [some 88, some 89, some 90, some 91, some 92, some 93, some 94] rfl (fun ops hops => ?_)
                    unfold Dsts at hops
                    simp (maxSteps:=1000000)(dsimp:=false)(disch:=omega) only [go_sem, Φa, hP, h18_12, h18_0, h18_7, h18_11, hops, ia_at hge, hbv]
                    refine ⟨_, hgat _ _ 2 rfl i hil, ?_⟩
                    try with_reducible refine stI ?_
                    try simp (maxSteps:=1000000)(dsimp:=false)(disch:=omega) only [go_sem, Φa, hP, h18_12, h18_0, h18_7, h18_11, hops, ia_at hge, hbv]
                    refine hK49 _ _ ?_
                    try clear hK49 K49
                    refine SX.cond_k fun X50 Y50 hX50 hY50 => ?_
                    simp (maxSteps:=1000000)(dsimp:=false)(disch:=omega) only [go_sem, Φa, hP, h18_12, h18_0, h18_7, h18_11, condVC]
                    refine ⟨fun hc94 => hX50 ?_, fun hc94 => hY50 ?_⟩
                    · clear hX50 hY50 X50 Y50
                      refine SX.skip ?_
                      try simp only [Φc, andThen_ret, andThen_exit, inBlk_normal, inBlk_ret, inBlk_exit, Φb, if_true, if_false, ↓reduceIte]
                      refine hK48 _ _ ?_
                      try clear hK48 K48
                      refine SX.seq_k fun K51 hK51 => ?_
                      refine SX.block ?_
                      refine SX.seq_k fun K52 hK52 => ?_
                      have hkl : k < (Ws.getD i default).l.length := by omega
                      have hx := hS.fill i hir _ (getD_memI hkl)
                      refine SX.region_d [some 97, some 98, some 99, some 100, some 101, some 102, some 103, some 104, some 105, some 106, some 107] rfl (fun ops hops => ?_)
                      unfold Dsts at hops
                      simp (maxSteps:=1000000)(dsimp:=false)(disch:=omega) only [go_sem, Φa, hP, h18_12, h18_0, h18_7, h18_11, hops, ia_at hge, ia_at hbe, hbv, hx, mrk_tmod, mrk_wrap]
                      refine ⟨_, hgat _ _ 2 rfl i hil, ?_⟩
                      try with_reducible refine stI ?_
                      try simp (maxSteps:=1000000)(dsimp:=false)(disch:=omega) only [go_sem, Φa, hP, h18_12, h18_0, h18_7, h18_11, hops, ia_at hge, ia_at hbe, hbv, hx, mrk_tmod, mrk_wrap]
                      refine ⟨_, hbat _ _ (i + 3) hgt3 k hkl, ?_⟩
                      try with_reducible refine stI ?_
                      try simp (maxSteps:=1000000)(dsimp:=false)(disch:=omega) only [go_sem, Φa, hP, h18_12, h18_0, h18_7, h18_11, hops, ia_at hge, ia_at hbe, hbv, hx, mrk_tmod, mrk_wrap]
                      refine hK52 _ _ ?_
                      try clear hK52 K52
                      refine SX.live [0, 7, 11, 12, 107] (fun T19 hT19 => ?_)
                      simp only [Φd, forall_mem_nil', go_sem, Φa, hP, h18_12, h18_0, h18_7, h18_11] at hT19
                      obtain ⟨h19_0, h19_7, h19_11, h19_12, h19_107⟩ := hT19
                      clear h18_12 h18_0 h18_7 h18_11 T18
                      refine SX.cond_k fun X53 Y53 hX53 hY53 => ?_
                      simp (maxSteps:=1000000)(dsimp:=false)(disch:=omega) only [go_sem, Φa, hP, h19_0, h19_7, h19_11, h19_12, h19_107, condVC]
                      refine hY53 ?_
                      clear hX53 hY53 X53 Y53
                      refine SX.skip ?_
                      try simp only [Φc, andThen_ret, andThen_exit, inBlk_normal, inBlk_ret, inBlk_exit, Φb, if_true, if_false, ↓reduceIte]
                      refine hK51 _ _ ?_
                      try clear hK51 K51
                      refine SX.region_d [some 95, some 96, some 12] rfl (fun ops hops => ?_)
                      unfold Dsts at hops
                      simp (maxSteps:=1000000)(dsimp:=false)(disch:=omega) only [go_sem, Φa, hP, h19_0, h19_7, h19_11, h19_12, h19_107, hops]
                      repeat' ((first | refine And.intro (by omega) ?_ | fail); try (with_reducible refine stI ?_); try simp (maxSteps:=1000000)(dsimp:=false)(disch:=omega) only [go_sem, Φa, hP, h19_0, h19_7, h19_11, h19_12, h19_107, hops])
                      refine hK47 (k + 1) _ (sl :: sr :: sg :: (Ws.map Rw.s ++ (gs.map Gf.s ++ L))) _ (by exact Less.refl _) ?_ ?_
                      · try dsimp only
                        refine ⟨?_, ?_, ?_, ?_, ?_, ?_⟩
                        · simp (maxSteps:=1000000)(dsimp:=false)(disch:=omega) only [go_sem, Φa, hP, h19_0, h19_7, h19_11, h19_12, h19_107]
                          first | done | rfl | skip
                        · simp (maxSteps:=1000000)(dsimp:=false)(disch:=omega) only [go_sem, Φa, hP, h19_0, h19_7, h19_11, h19_12, h19_107]
                        · simp (maxSteps:=1000000)(dsimp:=false)(disch:=omega) only [go_sem, Φa, hP, h19_0, h19_7, h19_11, h19_12, h19_107]
                        · simp (maxSteps:=1000000)(dsimp:=false)(disch:=omega) only [go_sem, Φa, hP, h19_0, h19_7, h19_11, h19_12, h19_107]
                        · rfl
                        · omega
                      · (try dsimp only); omega
                    · clear hX50 hY50 X50 Y50
                      refine SX.exit ?_
                      try simp only [Φc, andThen_ret, andThen_exit, inBlk_normal, inBlk_ret, inBlk_exit, Φb, if_true, if_false, ↓reduceIte]
                      refine hK45 _ _ ?_
                      try clear hK45 K45
                      refine SX.region_d [some 86, some 87, some 11] rfl (fun ops hops => ?_)
                      unfold Dsts at hops
                      simp (maxSteps:=1000000)(dsimp:=false)(disch:=omega) only [go_sem, Φa, hP, h18_12, h18_0, h18_7, h18_11, hops]
                      repeat' ((first | refine And.intro (by omega) ?_ | fail); try (with_reducible refine stI ?_); try simp (maxSteps:=1000000)(dsimp:=false)(disch:=omega) only [go_sem, Φa, hP, h18_12, h18_0, h18_7, h18_11, hops])
                      refine hK41 (i + 1) _ (sl :: sr :: sg :: (Ws.map Rw.s ++ (gs.map Gf.s ++ L))) _ (by exact Less.refl _) ?_ ?_
                      · try dsimp only
                        refine ⟨?_, ?_, ?_, ?_, ?_⟩
                        · simp (maxSteps:=1000000)(dsimp:=false)(disch:=omega) only [go_sem, Φa, hP, h18_12, h18_0, h18_7, h18_11]
                          first | done | rfl | skip
                        · simp (maxSteps:=1000000)(dsimp:=false)(disch:=omega) only [go_sem, Φa, hP, h18_12, h18_0, h18_7, h18_11]
                        · simp (maxSteps:=1000000)(dsimp:=false)(disch:=omega) only [go_sem, Φa, hP, h18_12, h18_0, h18_7, h18_11]
                        · rfl
                        · omega
                      · (try dsimp only); omega
                · clear hX44 hY44 X44 Y44
                  refine SX.exit ?_
                  try simp only [Φc, andThen_ret, andThen_exit, inBlk_normal, inBlk_ret, inBlk_exit, Φb, if_true, if_false, ↓reduceIte]
                  refine hK39 _ _ ?_
                  try clear hK39 K39
                  refine SX.seq_k fun K54 hK54 => ?_
                  refine SX.seq_k fun K55 hK55 => ?_
                  refine SX.less (lessD4 (N := gs.map Gf.s ++ L)) ?_
                  refine SX.region_d [some 13] rfl (fun ops hops => ?_)
                  unfold Dsts at hops
                  simp (maxSteps:=1000000)(dsimp:=false)(disch:=omega) only [go_sem, Φa, hP, h16_11, h16_0, h16_7, hops]
                  refine hK55 _ _ ?_
                  try clear hK55 K55
                  refine SX.block ?_
                  refine SX.live [0, 13] (fun T20 hT20 => ?_)
                  simp only [Φd, forall_mem_nil', go_sem, Φa, hP, h16_11, h16_0, h16_7] at hT20
                  obtain ⟨h20_0, h20_13⟩ := hT20
                  clear h16_11 h16_0 h16_7 T16
                  refine SX.loop_k (fun (ss : (Nat) × (List Gf) × (Hp)) T L' => (fun (i : Nat) (Gs : List Gf) (R : Hp) => T 13 = .int .i64 (i : Int) ∧ T 0 = T20 0 ∧ L' = sl :: (Gs.map Gf.s ++ R) ∧ (i ≤ gs.length ∧ S5 gs Gs R i ∧ Less R L)) (ss.1) (ss.2.1) (ss.2.2)) (fun (ss : (Nat) × (List Gf) × (Hp)) => (fun (i : Nat) (Gs : List Gf) (R : Hp) => gs.length - i) (ss.1) (ss.2.1) (ss.2.2)) (0, gs, L) ?_ ?_
                  · try dsimp only
                    refine ⟨?_, ?_, ?_, ?_⟩
                    · first | exact h20_13 | (rw [h20_13]; rfl) | (rw [h20_13]; simp; done)
                    · rfl
                    · rfl
                    · exact ⟨Nat.zero_le _, S5.start L hok, Less.refl _⟩
                  · intro ss T21 L21 hI K56 hK56
                    obtain ⟨i, Gs, R⟩ := ss
                    try dsimp only at hI hK56
                    simp only [h20_0] at hI hK56
                    obtain ⟨h21_13, h21_0, hL21, ⟨hi, hS, hRL⟩⟩ := hI
                    replace hL21 := hL21.symm
                    subst hL21
                    clear h20_0 h20_13 T20
                    refine SX.seq_k fun K57 hK57 => ?_
                    refine SX.seq_k fun K58 hK58 => ?_
                    refine SX.region_d [some 108, some 109, some 110, some 111] rfl (fun ops hops => ?_)
                    unfold Dsts at hops
                    simp (maxSteps:=1000000)(dsimp:=false)(disch:=omega) only [go_sem, Φa, hP, h21_13, h21_0, hops]
                    repeat' ((first | refine And.intro (by omega) ?_ | fail); try (with_reducible refine stI ?_); try simp (maxSteps:=1000000)(dsimp:=false)(disch:=omega) only [go_sem, Φa, hP, h21_13, h21_0, hops])
                    refine hK58 _ _ ?_
                    try clear hK58 K58
                    refine SX.cond_k fun X59 Y59 hX59 hY59 => ?_
                    simp (maxSteps:=1000000)(dsimp:=false)(disch:=omega) only [go_sem, Φa, hP, h21_13, h21_0, condVC]
                    refine ⟨fun hc111 => hX59 ?_, fun hc111 => hY59 ?_⟩
                    · clear hX59 hY59 X59 Y59
                      refine SX.skip ?_
                      try simp only [Φc, andThen_ret, andThen_exit, inBlk_normal, inBlk_ret, inBlk_exit, Φb, if_true, if_false, ↓reduceIte]
                      refine hK57 _ _ ?_
                      try clear hK57 K57
                      refine SX.seq_k fun K60 hK60 => ?_
                      refine SX.block ?_
                      refine SX.seq_k fun K61 hK61 => ?_
                      have hil : i < gs.length := by omega
                      obtain ⟨VA, vc, va, hvv, hvc, hve, _⟩ := RowR.anyR (hok i hil)
                      refine SX.region_d [some 14] rfl (fun ops hops => ?_)
                      unfold Dsts at hops
                      simp (maxSteps:=1000000)(dsimp:=false)(disch:=omega) only [go_sem, Φa, hP, h21_13, h21_0, hops]
                      refine hK61 _ _ ?_
                      try clear hK61 K61
                      refine SX.block ?_
                      refine SX.live [0, 13, 14] (fun T22 hT22 => ?_)
                      simp only [Φd, forall_mem_nil', go_sem, Φa, hP, h21_13, h21_0] at hT22
                      obtain ⟨h22_0, h22_13, h22_14⟩ := hT22
                      clear h21_13 h21_0 T21
                      refine SX.loop_k (fun (ss : (Nat) × (List Gf) × (Hp)) T L' => (fun (k : Nat) (Gk : List Gf) (Rk : Hp) => T 14 = .int .i64 (k : Int) ∧ T 0 = T22 0 ∧ T 13 = T22 13 ∧ L' = sl :: (Gk.map Gf.s ++ Rk) ∧ (k ≤ (gs.getD i default).rs.length ∧ S5 gs Gk Rk i ∧ Less Rk L ∧ ∀ q, q < k → Tw Rk (mrk i) ((Gk.getD i default).rs.getD q default))) (ss.1) (ss.2.1) (ss.2.2)) (fun (ss : (Nat) × (List Gf) × (Hp)) => (fun (k : Nat) (Gk : List Gf) (Rk : Hp) => (gs.getD i default).rs.length - k) (ss.1) (ss.2.1) (ss.2.2)) (0, Gs, R) ?_ ?_
                      · try dsimp only
                        refine ⟨?_, ?_, ?_, ?_, ?_⟩
                        · first | exact h22_14 | (rw [h22_14]; rfl) | (rw [h22_14]; simp; done)
                        · rfl
                        · rfl
                        · rfl
                        · exact ⟨Nat.zero_le _, hS, hRL, fun q hq => absurd hq (Nat.not_lt_zero _)⟩
                      · intro ss T23 L23 hI K62 hK62
                        obtain ⟨k, Gk, Rk⟩ := ss
                        try dsimp only at hI hK62
                        simp only [h22_0, h22_13] at hI hK62
                        obtain ⟨h23_14, h23_0, h23_13, hL23, ⟨hk, hSk, hRk, hpart⟩⟩ := hI
                        replace hL23 := hL23.symm
                        subst hL23
                        clear h22_0 h22_13 h22_14 T22
                        refine SX.seq_k fun K63 hK63 => ?_
                        refine SX.seq_k fun K64 hK64 => ?_
                        refine SX.region_d [some 114, some 115, some 116, some 117, some 118, some 119, some 120, some 121] rfl (fun ops hops => ?_)
                        unfold Dsts at hops
                        simp (maxSteps:=1000000)(dsimp:=false)(disch:=omega) only [go_sem, Φa, hP, h23_14, h23_0, h23_13, hops, ia_at hle, hvv]
                        refine ⟨_, hlat _ _ 0 rfl i hil 1 _ (by decide) rfl, ?_⟩
                        try with_reducible refine stI ?_
                        try simp (maxSteps:=1000000)(dsimp:=false)(disch:=omega) only [go_sem, Φa, hP, h23_14, h23_0, h23_13, hops, ia_at hle, hvv]
                        refine hK64 _ _ ?_
                        try clear hK64 K64
                        refine SX.cond_k fun X65 Y65 hX65 hY65 => ?_
                        simp (maxSteps:=1000000)(dsimp:=false)(disch:=omega) only [go_sem, Φa, hP, h23_14, h23_0, h23_13, condVC]
                        refine ⟨fun hc121 => hX65 ?_, fun hc121 => hY65 ?_⟩
                        · clear hX65 hY65 X65 Y65
                          refine SX.skip ?_
                          try simp only [Φc, andThen_ret, andThen_exit, inBlk_normal, inBlk_ret, inBlk_exit, Φb, if_true, if_false, ↓reduceIte]
                          refine hK63 _ _ ?_
                          try clear hK63 K63
                          refine SX.seq_k fun K66 hK66 => ?_
                          refine SX.block ?_
                          have hln := hSk.ln i hil
                          have hlw : i < Gk.length := by rw [hSk.n]; exact hil
                          obtain ⟨r, cap, junk, hv1, hs1, hcap, hjl⟩ := RowL.form (hSk.ok i hil) (by omega)
                          have hv2 := (hSk.v i hil).symm.trans hv1
                          have hgt : ∀ x : Slot, (x :: sl :: (Gk.map Gf.s ++ Rk))[i + 2]? = some (some (r, .cells ((Gk.getD i default).rs.flatMap rwV ++ junk).toArray 50 (0, 0))) := fun x => (mapS_at (f := Gf.s) hlw).trans (congrArg some hs1)
                          have hkl : k < (Gk.getD i default).rs.length := by omega
                          refine SX.region_d [some 124, some 125, some 126, some 127, some 128, some 129, some 130, some 131, some 132, some 133, some 134, none] rfl (fun ops hops => ?_)
                          unfold Dsts at hops
                          simp (maxSteps:=1000000)(dsimp:=false)(disch:=omega) only [go_sem, Φa, hP, h23_14, h23_0, h23_13, hops, ia_at hle, hv2, mrk_tmod, mrk_wrap]
                          refine ⟨_, hlat _ _ 0 rfl i hil 1 _ (by decide) rfl, ?_⟩
                          try with_reducible refine stI ?_
                          try simp (maxSteps:=1000000)(dsimp:=false)(disch:=omega) only [go_sem, Φa, hP, h23_14, h23_0, h23_13, hops, ia_at hle, hv2, mrk_tmod, mrk_wrap]
                          intro g37
                          try with_reducible refine stI ?_
                          try simp (maxSteps:=1000000)(dsimp:=false)(disch:=omega) only [go_sem, Φa, hP, h23_14, h23_0, h23_13, hops, ia_at hle, hv2, mrk_tmod, mrk_wrap]
                          refine ⟨i + 2, _, _, _, hgt _, (by rw [List.length_append, flat_len rwV_len]; omega), .inr (by omega), ?_⟩
                          try with_reducible refine stI ?_
                          try simp (maxSteps:=1000000)(dsimp:=false)(disch:=omega) only [go_sem, Φa, hP, h23_14, h23_0, h23_13, hops, ia_at hle, hv2, mrk_tmod, mrk_wrap]
                          rw [rwV_set (x := twR g37 (mrk i)) hkl]
                          rw [show ((Gk.map Gf.s ++ Rk).set i (some (r, .cells (((Gk.getD i default).rs.set k (twR g37 (mrk i))).flatMap rwV ++ junk).toArray 50 (0, 0)))) = (Gk.set i (gSet (Gk.getD i default) k (twR g37 (mrk i)) r junk)).map Gf.s ++ Rk from mapS_set (f := Gf.s) (y := (gSet (Gk.getD i default) k (twR g37 (mrk i)) r junk)) hlw]
                          refine hK66 _ _ ?_
                          try clear hK66 K66
                          refine SX.live [0, 13, 14] (fun T24 hT24 => ?_)
                          simp only [Φd, forall_mem_nil', go_sem, Φa, hP, h23_14, h23_0, h23_13] at hT24
                          obtain ⟨h24_0, h24_13, h24_14⟩ := hT24
                          clear h23_14 h23_0 h23_13 T23
                          refine SX.region_d [some 122, some 123, some 14] rfl (fun ops hops => ?_)
                          unfold Dsts at hops
                          simp (maxSteps:=1000000)(dsimp:=false)(disch:=omega) only [go_sem, Φa, hP, h24_0, h24_13, h24_14, hops]
                          repeat' ((first | refine And.intro (by omega) ?_ | fail); try (with_reducible refine stI ?_); try simp (maxSteps:=1000000)(dsimp:=false)(disch:=omega) only [go_sem, Φa, hP, h24_0, h24_13, h24_14, hops])
                          refine hK62 (k + 1, Gk.set i (gSet (Gk.getD i default) k (twR g37 (mrk i)) r junk), (twR g37 (mrk i)).s :: Rk) _ (sl :: ((Gk.set i (gSet (Gk.getD i default) k (twR g37 (mrk i)) r junk)).map Gf.s ++ (twR g37 (mrk i)).s :: Rk)) _ (by exact less5) ?_ ?_
                          · try dsimp only
                            refine ⟨?_, ?_, ?_, ?_, ?_⟩
                            · simp (maxSteps:=1000000)(dsimp:=false)(disch:=omega) only [go_sem, Φa, hP, h24_0, h24_13, h24_14]
                              first | done | rfl | skip
                            · simp (maxSteps:=1000000)(dsimp:=false)(disch:=omega) only [go_sem, Φa, hP, h24_0, h24_13, h24_14]
                            · simp (maxSteps:=1000000)(dsimp:=false)(disch:=omega) only [go_sem, Φa, hP, h24_0, h24_13, h24_14]
                            · rfl
                            · refine ⟨by omega, hSk.put hil _ (g := (gSet (Gk.getD i default) k (twR g37 (mrk i)) r junk)) (hSk.v i hil) (by show (List.set _ _ _).length = _; rw [List.length_set]; exact hln) (gSet_ok hv1 hcap hjl), (Less.drop _ _).trans hRk, fun q hq => ?_⟩
                              rw [getD_set hlw, if_pos rfl]
                              show Tw _ _ ((List.set _ _ _).getD q default)
                              rw [set_getD]
                              split
                              · exact Tw.new Rk g37 (mrk i)
                              · rename_i hne
                                exact (hpart q (by rcases Nat.lt_succ_iff_lt_or_eq.1 hq with h | h; exact h; exact absurd ⟨h.symm, by omega⟩ hne)).cons _
                          · (try dsimp only); omega
                        · clear hX65 hY65 X65 Y65
                          refine SX.exit ?_
                          try simp only [Φc, andThen_ret, andThen_exit, inBlk_normal, inBlk_ret, inBlk_exit, Φb, if_true, if_false, ↓reduceIte]
                          refine hK60 _ _ ?_
                          try clear hK60 K60
                          refine SX.region_d [some 112, some 113, some 13] rfl (fun ops hops => ?_)
                          unfold Dsts at hops
                          simp (maxSteps:=1000000)(dsimp:=false)(disch:=omega) only [go_sem, Φa, hP, h23_14, h23_0, h23_13, hops]
                          repeat' ((first | refine And.intro (by omega) ?_ | fail); try (with_reducible refine stI ?_); try simp (maxSteps:=1000000)(dsimp:=false)(disch:=omega) only [go_sem, Φa, hP, h23_14, h23_0, h23_13, hops])
                          refine hK56 (i + 1, Gk, Rk) _ (sl :: (Gk.map Gf.s ++ Rk)) _ (by exact Less.refl _) ?_ ?_
                          · try dsimp only
                            refine ⟨?_, ?_, ?_, ?_⟩
                            · simp (maxSteps:=1000000)(dsimp:=false)(disch:=omega) only [go_sem, Φa, hP, h23_14, h23_0, h23_13]
                              first | done | rfl | skip
                            · simp (maxSteps:=1000000)(dsimp:=false)(disch:=omega) only [go_sem, Φa, hP, h23_14, h23_0, h23_13]
                            · rfl
                            · exact ⟨by omega, hSk.next hil fun q hq => hpart q (by omega), hRk⟩
                          · (try dsimp only); omega
                    · clear hX59 hY59 X59 Y59
                      refine SX.exit ?_
                      try simp only [Φc, andThen_ret, andThen_exit, inBlk_normal, inBlk_ret, inBlk_exit, Φb, if_true, if_false, ↓reduceIte]
                      refine hK54 _ _ ?_
                      try clear hK54 K54
                      refine SX.seq_k fun K67 hK67 => ?_
                      obtain rfl : i = gs.length := by omega
                      have hS6 := S6.start hS
                      refine SX.region_d [some 15] rfl (fun ops hops => ?_)
                      unfold Dsts at hops
                      simp (maxSteps:=1000000)(dsimp:=false)(disch:=omega) only [go_sem, Φa, hP, h21_13, h21_0, hops]
                      refine hK67 _ _ ?_
                      try clear hK67 K67
                      refine SX.seq_k fun K68 hK68 => ?_
                      refine SX.seq_k fun K69 hK69 => ?_
                      refine SX.less lessI ?_
                      refine SX.region_d [some 16] rfl (fun ops hops => ?_)
                      unfold Dsts at hops
                      simp (maxSteps:=1000000)(dsimp:=false)(disch:=omega) only [go_sem, Φa, hP, h21_13, h21_0, hops]
                      refine hK69 _ _ ?_
                      try clear hK69 K69
                      refine SX.block ?_
                      refine SX.live [0, 15, 16] (fun T25 hT25 => ?_)
                      simp only [Φd, forall_mem_nil', go_sem, Φa, hP, h21_13, h21_0] at hT25
                      obtain ⟨h25_0, h25_15, h25_16⟩ := hT25
                      clear h21_13 h21_0 T21
                      refine SX.loop_k (fun (ss : (Nat) × (List Gf) × (Hp) × (Value) × (Slot)) T L' => (fun (i : Nat) (Gs : List Gf) (R : Hp) (vm : Value) (sm : Slot) => T 15 = vm ∧ T 16 = .int .i64 (i : Int) ∧ T 0 = T25 0 ∧ L' = sl :: sm :: (Gs.map Gf.s ++ R) ∧ (i ≤ gs.length ∧ S6 gs Gs R i ∧ Less R L ∧ RowM vm (Gs.take i) sm)) (ss.1) (ss.2.1) (ss.2.2.1) (ss.2.2.2.1) (ss.2.2.2.2)) (fun (ss : (Nat) × (List Gf) × (Hp) × (Value) × (Slot)) => (fun (i : Nat) (Gs : List Gf) (R : Hp) (vm : Value) (sm : Slot) => gs.length - i) (ss.1) (ss.2.1) (ss.2.2.1) (ss.2.2.2.1) (ss.2.2.2.2)) (0, Gs, R, .slice none 0 0, none) ?_ ?_
                      · try dsimp only
                        refine ⟨?_, ?_, ?_, ?_, ?_⟩
                        · first | exact h25_15 | (rw [h25_15]; rfl) | (rw [h25_15]; simp; done)
                        · first | exact h25_16 | (rw [h25_16]; rfl) | (rw [h25_16]; simp; done)
                        · rfl
                        · rfl
                        · exact ⟨Nat.zero_le _, hS6, hRL, RowL.nil _ _ _⟩
                      · intro ss T26 L26 hI K70 hK70
                        obtain ⟨i, Gs, R, vm, sm⟩ := ss
                        try dsimp only at hI hK70
                        simp only [h25_0] at hI hK70
                        obtain ⟨h26_15, h26_16, h26_0, hL26, ⟨hi, hS, hRL, hmore⟩⟩ := hI
                        replace hL26 := hL26.symm
                        subst hL26
                        clear h25_0 h25_15 h25_16 T25
                        refine SX.seq_k fun K71 hK71 => ?_
                        refine SX.seq_k fun K72 hK72 => ?_
                        refine SX.region_d [some 135, some 136, some 137, some 138] rfl (fun ops hops => ?_)
                        unfold Dsts at hops
                        simp (maxSteps:=1000000)(dsimp:=false)(disch:=omega) only [go_sem, Φa, hP, h26_15, h26_16, h26_0, hops]
                        repeat' ((first | refine And.intro (by omega) ?_ | fail); try (with_reducible refine stI ?_); try simp (maxSteps:=1000000)(dsimp:=false)(disch:=omega) only [go_sem, Φa, hP, h26_15, h26_16, h26_0, hops])
                        refine hK72 _ _ ?_
                        try clear hK72 K72
                        refine SX.cond_k fun X73 Y73 hX73 hY73 => ?_
                        simp (maxSteps:=1000000)(dsimp:=false)(disch:=omega) only [go_sem, Φa, hP, h26_15, h26_16, h26_0, condVC]
                        refine ⟨fun hc138 => hX73 ?_, fun hc138 => hY73 ?_⟩
                        · clear hX73 hY73 X73 Y73
                          refine SX.skip ?_
                          try simp only [Φc, andThen_ret, andThen_exit, inBlk_normal, inBlk_ret, inBlk_exit, Φb, if_true, if_false, ↓reduceIte]
                          refine hK71 _ _ ?_
                          try clear hK71 K71
                          refine SX.seq_k fun K74 hK74 => ?_
                          refine SX.block ?_
                          refine SX.seq_k fun K75 hK75 => ?_
                          have hil : i < gs.length := by omega
                          have hlw : i < Gs.length := by rw [hS.n]; exact hil
                          have hv17 := (hS.v i (Nat.le_refl _) hil).symm
                          have hra := rowsG_at_le hil
                          rw [← hrw] at hra
                          refine SX.region_d [some 141, some 142, some 143, some 144, some 145, some 17] rfl (fun ops hops => ?_)
                          unfold Dsts at hops
                          simp (maxSteps:=1000000)(dsimp:=false)(disch:=omega) only [go_sem, Φa, hP, h26_15, h26_16, h26_0, hops, ia_at hle, hv17]
                          refine ⟨_, hlat _ _ 0 rfl i hil 1 _ (by decide) rfl, ?_⟩
                          try with_reducible refine stI ?_
                          try simp (maxSteps:=1000000)(dsimp:=false)(disch:=omega) only [go_sem, Φa, hP, h26_15, h26_16, h26_0, hops, ia_at hle, hv17]
                          refine hK75 _ _ ?_
                          try clear hK75 K75
                          refine SX.live [0, 15, 16, 17] (fun T27 hT27 => ?_)
                          simp only [Φd, forall_mem_nil', go_sem, Φa, hP, h26_15, h26_16, h26_0] at hT27
                          obtain ⟨h27_0, h27_15, h27_16, h27_17⟩ := hT27
                          clear h26_15 h26_16 h26_0 T26
                          refine SX.seq_k fun K76 hK76 => ?_
                          refine SX.seq_k fun K77 hK77 => ?_
                          refine SX.region_d [some 18] rfl (fun ops hops => ?_)
                          unfold Dsts at hops
                          simp (maxSteps:=1000000)(dsimp:=false)(disch:=omega) only [go_sem, Φa, hP, h27_0, h27_15, h27_16, h27_17, hops]
                          refine hK77 _ _ ?_
                          try clear hK77 K77
                          refine SX.block ?_
                          refine SX.live [0, 15, 16, 17, 18] (fun T28 hT28 => ?_)
                          simp only [Φd, forall_mem_nil', go_sem, Φa, hP, h27_0, h27_15, h27_16, h27_17] at hT28
                          obtain ⟨h28_0, h28_15, h28_16, h28_17, h28_18⟩ := hT28
                          clear h27_0 h27_15 h27_16 h27_17 T27
                          refine SX.loop_k (fun (ss : (Nat) × (List Rw) × (Value) × (Slot) × (Hp)) T L' => (fun (k : Nat) (grs : List Rw) (gv : Value) (gq : Slot) (Rk : Hp) => T 17 = gv ∧ T 18 = .int .i64 (k : Int) ∧ T 0 = T28 0 ∧ T 15 = T28 15 ∧ T 16 = T28 16 ∧ L' = sl :: sm :: ((Gs.set i (⟨(Gs.getD i default).at_, (Gs.getD i default).sh, grs, gv, gq⟩ : Gf)).map Gf.s ++ Rk) ∧ (k ≤ 9 ∧ RowR gv grs gq ∧ (∀ w ∈ grs, Tw Rk (mrk i) w) ∧ grs.length ≤ (gs.getD i default).rs.length + k ∧ Less Rk L ∧ S6 gs Gs Rk i)) (ss.1) (ss.2.1) (ss.2.2.1) (ss.2.2.2.1) (ss.2.2.2.2)) (fun (ss : (Nat) × (List Rw) × (Value) × (Slot) × (Hp)) => (fun (k : Nat) (grs : List Rw) (gv : Value) (gq : Slot) (Rk : Hp) => 9 - k) (ss.1) (ss.2.1) (ss.2.2.1) (ss.2.2.2.1) (ss.2.2.2.2)) (0, (Gs.getD i default).rs, (Gs.getD i default).v, (Gs.getD i default).s, R) ?_ ?_
                          · try dsimp only
                            refine ⟨?_, ?_, ?_, ?_, ?_, ?_, ?_⟩
                            · first | exact h28_17 | (rw [h28_17]; rfl) | (rw [h28_17]; simp; done)
                            · first | exact h28_18 | (rw [h28_18]; rfl) | (rw [h28_18]; simp; done)
                            · rfl
                            · rfl
                            · rfl
                            · rw [set_self hlw]
                            · exact ⟨Nat.zero_le _, hS.ok i hil, hS.two i hil, hS.ln0 i (Nat.le_refl _) hil, hRL, hS⟩
                          · intro ss T29 L29 hI K78 hK78
                            obtain ⟨k, grs, gv, gq, Rk⟩ := ss
                            try dsimp only at hI hK78
                            simp only [h28_0, h28_15, h28_16] at hI hK78
                            obtain ⟨h29_17, h29_18, h29_0, h29_15, h29_16, hL29, ⟨hk, hgr, hgf, hgl, hRk, hSk⟩⟩ := hI
                            replace hL29 := hL29.symm
                            subst hL29
                            clear h28_0 h28_15 h28_16 h28_17 h28_18 T28
                            refine SX.seq_k fun K79 hK79 => ?_
                            refine SX.seq_k fun K80 hK80 => ?_
                            refine SX.region_d [some 146, some 147] rfl (fun ops hops => ?_)
                            unfold Dsts at hops
                            simp (maxSteps:=1000000)(dsimp:=false)(disch:=omega) only [go_sem, Φa, hP, h29_17, h29_18, h29_0, h29_15, h29_16, hops]
                            repeat' ((first | refine And.intro (by omega) ?_ | fail); try (with_reducible refine stI ?_); try simp (maxSteps:=1000000)(dsimp:=false)(disch:=omega) only [go_sem, Φa, hP, h29_17, h29_18, h29_0, h29_15, h29_16, hops])
                            refine hK80 _ _ ?_
                            try clear hK80 K80
                            refine SX.cond_k fun X81 Y81 hX81 hY81 => ?_
                            simp (maxSteps:=1000000)(dsimp:=false)(disch:=omega) only [go_sem, Φa, hP, h29_17, h29_18, h29_0, h29_15, h29_16, condVC]
                            refine ⟨fun hc147 => hX81 ?_, fun hc147 => hY81 ?_⟩
                            · clear hX81 hY81 X81 Y81
                              refine SX.skip ?_
                              try simp only [Φc, andThen_ret, andThen_exit, inBlk_normal, inBlk_ret, inBlk_exit, Φb, if_true, if_false, ↓reduceIte]
                              refine hK79 _ _ ?_
                              try clear hK79 K79
                              refine SX.seq_k fun K82 hK82 => ?_
                              refine SX.block ?_
                              have hgt46 : ∀ x : Slot, (x :: sl :: sm :: ((Gs.set i (⟨(Gs.getD i default).at_, (Gs.getD i default).sh, grs, gv, gq⟩ : Gf)).map Gf.s ++ Rk))[i + 3]? = some gq := fun x => (mapS_at (f := Gf.s) (by rw [List.length_set]; exact hlw)).trans (by rw [getD_set hlw, if_pos rfl])
                              refine SX.region_d [some 150, some 151, some 152, some 153, some 154, some 155, some 156, some 17] rfl (fun ops hops => ?_)
                              unfold Dsts at hops
                              simp (maxSteps:=1000000)(dsimp:=false)(disch:=omega) only [go_sem, Φa, hP, h29_17, h29_18, h29_0, h29_15, h29_16, hops, mrk_tmod, mrk_wrap]
                              intro g46
                              try with_reducible refine stI ?_
                              try simp (maxSteps:=1000000)(dsimp:=false)(disch:=omega) only [go_sem, Φa, hP, h29_17, h29_18, h29_0, h29_15, h29_16, hops, mrk_tmod, mrk_wrap]
                              intro h46
                              try with_reducible refine stI ?_
                              try simp (maxSteps:=1000000)(dsimp:=false)(disch:=omega) only [go_sem, Φa, hP, h29_17, h29_18, h29_0, h29_15, h29_16, hops, mrk_tmod, mrk_wrap]
                              refine YAppend.rowL (z := [.slice none 0 0]) (f := rwV) (x := twR g46 (mrk i)) (i := i + 3) (hP ▸ T.elS_39) (hP ▸ T.zr_50) rfl rfl rfl (hgt46 _) hgr (by omega) (by decide) ?_
                              intro v' s' hr'
                              try with_reducible refine stI ?_
                              try simp (maxSteps:=1000000)(dsimp:=false)(disch:=omega) only [go_sem, Φa, hP, h29_17, h29_18, h29_0, h29_15, h29_16, hops, mrk_tmod, mrk_wrap]
                              rw [show (((Gs.set i (⟨(Gs.getD i default).at_, (Gs.getD i default).sh, grs, gv, gq⟩ : Gf)).map Gf.s ++ Rk).set i s') = ((Gs.set i (⟨(Gs.getD i default).at_, (Gs.getD i default).sh, grs, gv, gq⟩ : Gf)).set i (⟨(Gs.getD i default).at_, (Gs.getD i default).sh, grs ++ [twR g46 (mrk i)], v', s'⟩ : Gf)).map Gf.s ++ Rk from mapS_set (f := Gf.s) (y := (⟨(Gs.getD i default).at_, (Gs.getD i default).sh, grs ++ [twR g46 (mrk i)], v', s'⟩ : Gf)) (by rw [List.length_set]; exact hlw)]
                              refine hK82 _ _ ?_
                              try clear hK82 K82
                              refine SX.live [0, 15, 16, 17, 18] (fun T30 hT30 => ?_)
                              simp only [Φd, forall_mem_nil', go_sem, Φa, hP, h29_17, h29_18, h29_0, h29_15, h29_16] at hT30
                              obtain ⟨h30_0, h30_15, h30_16, h30_17, h30_18⟩ := hT30
                              clear h29_17 h29_18 h29_0 h29_15 h29_16 T29
                              refine SX.region_d [some 148, some 149, some 18] rfl (fun ops hops => ?_)
                              unfold Dsts at hops
                              simp (maxSteps:=1000000)(dsimp:=false)(disch:=omega) only [go_sem, Φa, hP, h30_0, h30_15, h30_16, h30_17, h30_18, hops]
                              repeat' ((first | refine And.intro (by omega) ?_ | fail); try (with_reducible refine stI ?_); try simp (maxSteps:=1000000)(dsimp:=false)(disch:=omega) only [go_sem, Φa, hP, h30_0, h30_15, h30_16, h30_17, h30_18, hops])
                              refine hK78 (k + 1, grs ++ [twR g46 (mrk i)], v', s', (twR g46 (mrk i)).s :: Rk) _ (sl :: sm :: (((Gs.set i (⟨(Gs.getD i default).at_, (Gs.getD i default).sh, grs, gv, gq⟩ : Gf)).set i (⟨(Gs.getD i default).at_, (Gs.getD i default).sh, grs ++ [twR g46 (mrk i)], v', s'⟩ : Gf)).map Gf.s ++ (twR g46 (mrk i)).s :: Rk)) _ (by exact less6) ?_ ?_
                              · try dsimp only
                                refine ⟨?_, ?_, ?_, ?_, ?_, ?_, ?_⟩
                                · simp (maxSteps:=1000000)(dsimp:=false)(disch:=omega) only [go_sem, Φa, hP, h30_0, h30_15, h30_16, h30_17, h30_18]
                                  first | done | rfl | skip
                                · simp (maxSteps:=1000000)(dsimp:=false)(disch:=omega) only [go_sem, Φa, hP, h30_0, h30_15, h30_16, h30_17, h30_18]
                                  first | done | rfl | skip
                                · simp (maxSteps:=1000000)(dsimp:=false)(disch:=omega) only [go_sem, Φa, hP, h30_0, h30_15, h30_16, h30_17, h30_18]
                                · simp (maxSteps:=1000000)(dsimp:=false)(disch:=omega) only [go_sem, Φa, hP, h30_0, h30_15, h30_16, h30_17, h30_18]
                                · simp (maxSteps:=1000000)(dsimp:=false)(disch:=omega) only [go_sem, Φa, hP, h30_0, h30_15, h30_16, h30_17, h30_18]
                                · rw [List.set_set]
                                · refine ⟨by omega, hr', fun x hx => ?_, by show (grs ++ [_]).length ≤ _; rw [List.length_append, List.length_singleton]; omega, (Less.drop _ _).trans hRk, hSk.cons _⟩
                                  rcases List.mem_append.1 hx with hx | hx
                                  · exact (hgf x hx).cons _
                                  · rw [List.mem_singleton.1 hx]; exact Tw.new Rk g46 (mrk i)
                              · (try dsimp only); omega
                            · clear hX81 hY81 X81 Y81
                              refine SX.exit ?_
                              try simp only [Φc, andThen_ret, andThen_exit, inBlk_normal, inBlk_ret, inBlk_exit, Φb, if_true, if_false, ↓reduceIte]
                              refine hK76 _ _ ?_
                              try clear hK76 K76
                              obtain ⟨A', c', rfl, _, _⟩ := Row.form hgr
                              refine SX.region_d [some 157, some 158, some 159, some 160, some 15] rfl (fun ops hops => ?_)
                              unfold Dsts at hops
                              simp (maxSteps:=1000000)(dsimp:=false)(disch:=omega) only [go_sem, Φa, hP, h29_17, h29_18, h29_0, h29_15, h29_16, hops]
                              intro g47
                              try with_reducible refine stI ?_
                              try simp (maxSteps:=1000000)(dsimp:=false)(disch:=omega) only [go_sem, Φa, hP, h29_17, h29_18, h29_0, h29_15, h29_16, hops]
                              refine YAppend.rowL (L := sl :: sm :: ((Gs.set i (⟨(Gs.getD i default).at_, (Gs.getD i default).sh, grs, .slice A' grs.length c', gq⟩ : Gf)).map Gf.s ++ Rk)) (z := [.slice none 0 0]) (f := gmV) (x := (⟨(Gs.getD i default).at_, (Gs.getD i default).sh, grs, .slice A' grs.length c', gq⟩ : Gf)) (i := 1) (hP ▸ T.elS_69) (hP ▸ T.zr_39) rfl rfl rfl rfl hmore (by rw [List.length_take]; omega) (by decide) ?_
                              intro v' s' hr'
                              try with_reducible refine stI ?_
                              try simp (maxSteps:=1000000)(dsimp:=false)(disch:=omega) only [go_sem, Φa, hP, h29_17, h29_18, h29_0, h29_15, h29_16, hops]
                              refine hK74 _ _ ?_
                              try clear hK74 K74
                              refine SX.region_d [some 139, some 140, some 16] rfl (fun ops hops => ?_)
                              unfold Dsts at hops
                              simp (maxSteps:=1000000)(dsimp:=false)(disch:=omega) only [go_sem, Φa, hP, h29_17, h29_18, h29_0, h29_15, h29_16, hops]
                              repeat' ((first | refine And.intro (by omega) ?_ | fail); try (with_reducible refine stI ?_); try simp (maxSteps:=1000000)(dsimp:=false)(disch:=omega) only [go_sem, Φa, hP, h29_17, h29_18, h29_0, h29_15, h29_16, hops])
                              refine hK70 (i + 1, Gs.set i (⟨(Gs.getD i default).at_, (Gs.getD i default).sh, grs, .slice A' grs.length c', gq⟩ : Gf), Rk, v', s') _ (sl :: s' :: ((Gs.set i (⟨(Gs.getD i default).at_, (Gs.getD i default).sh, grs, .slice A' grs.length c', gq⟩ : Gf)).map Gf.s ++ Rk)) _ (by exact Less.drop _ _) ?_ ?_
                              · try dsimp only
                                refine ⟨?_, ?_, ?_, ?_, ?_⟩
                                · simp (maxSteps:=1000000)(dsimp:=false)(disch:=omega) only [go_sem, Φa, hP, h29_17, h29_18, h29_0, h29_15, h29_16]
                                  first | done | rfl | skip
                                · simp (maxSteps:=1000000)(dsimp:=false)(disch:=omega) only [go_sem, Φa, hP, h29_17, h29_18, h29_0, h29_15, h29_16]
                                  first | done | rfl | skip
                                · simp (maxSteps:=1000000)(dsimp:=false)(disch:=omega) only [go_sem, Φa, hP, h29_17, h29_18, h29_0, h29_15, h29_16]
                                · rfl
                                · exact ⟨by omega, hSk.next hil (by show grs.length ≤ _; omega) hgr hgf, hRk, by rw [take_set_succ hlw]; exact hr'⟩
                              · (try dsimp only); omega
                        · clear hX73 hY73 X73 Y73
                          refine SX.exit ?_
                          try simp only [Φc, andThen_ret, andThen_exit, inBlk_normal, inBlk_ret, inBlk_exit, Φb, if_true, if_false, ↓reduceIte]
                          refine hK68 _ _ ?_
                          try clear hK68 K68
                          refine SX.seq_k fun K83 hK83 => ?_
                          refine SX.seq_k fun K84 hK84 => ?_
                          obtain rfl : i = gs.length := by omega
                          have hnW := hS.n
                          rw [List.take_of_length_le (by omega)] at hmore
                          obtain ⟨MA, mc, ma, rfl, hmc, hme, hmat⟩ := RowM.anyM hmore
                          refine SX.region_d [some 19] rfl (fun ops hops => ?_)
                          unfold Dsts at hops
                          simp (maxSteps:=1000000)(dsimp:=false)(disch:=omega) only [go_sem, Φa, hP, h26_15, h26_16, h26_0, hops]
                          refine hK84 _ _ ?_
                          try clear hK84 K84
                          refine SX.block ?_
                          refine SX.live [15, 19] (fun T31 hT31 => ?_)
                          simp only [Φd, forall_mem_nil', go_sem, Φa, hP, h26_15, h26_16, h26_0] at hT31
                          obtain ⟨h31_15, h31_19⟩ := hT31
                          clear h26_15 h26_16 h26_0 T26
                          refine SX.loop_k (fun (ss : (Nat)) T L' => (fun (i : Nat) => T 19 = .int .i64 (i : Int) ∧ T 15 = T31 15 ∧ L' = sl :: sm :: (Gs.map Gf.s ++ R) ∧ (i ≤ Gs.length)) (ss)) (fun (ss : (Nat)) => (fun (i : Nat) => Gs.length - i) (ss)) 0 ?_ ?_
                          · try dsimp only
                            refine ⟨?_, ?_, ?_, ?_⟩
                            · first | exact h31_19 | (rw [h31_19]; rfl) | (rw [h31_19]; simp; done)
                            · rfl
                            · rfl
                            · exact Nat.zero_le _
                          · intro i T32 L32 hI K85 hK85
                            try dsimp only at hI hK85
                            simp only [h31_15] at hI hK85
                            obtain ⟨h32_19, h32_15, hL32, hi⟩ := hI
                            replace hL32 := hL32.symm
                            subst hL32
                            clear h31_15 h31_19 T31
                            refine SX.seq_k fun K86 hK86 => ?_
                            refine SX.seq_k fun K87 hK87 => ?_
                            refine SX.region_d [some 161, some 162, some 163, some 164] rfl (fun ops hops => ?_)
                            unfold Dsts at hops
                            simp (maxSteps:=1000000)(dsimp:=false)(disch:=omega) only [go_sem, Φa, hP, h32_19, h32_15, hops]
                            repeat' ((first | refine And.intro (by omega) ?_ | fail); try (with_reducible refine stI ?_); try simp (maxSteps:=1000000)(dsimp:=false)(disch:=omega) only [go_sem, Φa, hP, h32_19, h32_15, hops])
                            refine hK87 _ _ ?_
                            try clear hK87 K87
                            refine SX.cond_k fun X88 Y88 hX88 hY88 => ?_
                            simp (maxSteps:=1000000)(dsimp:=false)(disch:=omega) only [go_sem, Φa, hP, h32_19, h32_15, condVC]
                            refine ⟨fun hc164 => hX88 ?_, fun hc164 => hY88 ?_⟩
                            · clear hX88 hY88 X88 Y88
                              refine SX.skip ?_
                              try simp only [Φc, andThen_ret, andThen_exit, inBlk_normal, inBlk_ret, inBlk_exit, Φb, if_true, if_false, ↓reduceIte]
                              refine hK86 _ _ ?_
                              try clear hK86 K86
                              refine SX.seq_k fun K89 hK89 => ?_
                              refine SX.block ?_
                              refine SX.seq_k fun K90 hK90 => ?_
                              have hil : i < Gs.length := by omega
                              have hir : i < gs.length := by omega
                              obtain ⟨VA, vc, va, hvv, hvc, hve, hvat⟩ := RowR.anyR (hS.ok i hir)
                              have hgt2 : (sl :: sm :: (Gs.map Gf.s ++ R))[i + 2]? = some (Gs.getD i default).s := mapS_at (f := Gf.s) hil
                              refine SX.region_d [some 20] rfl (fun ops hops => ?_)
                              unfold Dsts at hops
                              simp (maxSteps:=1000000)(dsimp:=false)(disch:=omega) only [go_sem, Φa, hP, h32_19, h32_15, hops]
                              refine hK90 _ _ ?_
                              try clear hK90 K90
                              refine SX.block ?_
                              refine SX.live [15, 19, 20] (fun T33 hT33 => ?_)
                              simp only [Φd, forall_mem_nil', go_sem, Φa, hP, h32_19, h32_15] at hT33
                              obtain ⟨h33_15, h33_19, h33_20⟩ := hT33
                              clear h32_19 h32_15 T32
                              refine SX.loop_k (fun (ss : (Nat)) T L' => (fun (k : Nat) => T 20 = .int .i64 (k : Int) ∧ T 15 = T33 15 ∧ T 19 = T33 19 ∧ L' = sl :: sm :: (Gs.map Gf.s ++ R) ∧ (k ≤ (Gs.getD i default).rs.length)) (ss)) (fun (ss : (Nat)) => (fun (k : Nat) => (Gs.getD i default).rs.length - k) (ss)) 0 ?_ ?_
                              · try dsimp only
                                refine ⟨?_, ?_, ?_, ?_, ?_⟩
                                · first | exact h33_20 | (rw [h33_20]; rfl) | (rw [h33_20]; simp; done)
                                · rfl
                                · rfl
                                · rfl
                                · exact Nat.zero_le _
                              · intro k T34 L34 hI K91 hK91
                                try dsimp only at hI hK91
                                simp only [h33_15, h33_19] at hI hK91
                                obtain ⟨h34_20, h34_15, h34_19, hL34, hk⟩ := hI
                                replace hL34 := hL34.symm
                                subst hL34
                                clear h33_15 h33_19 h33_20 T33
                                refine SX.seq_k fun K92 hK92 => ?_
                                refine SX.seq_k fun K93 hK93 => ?_
                                refine SX.region_d [some 167, some 168, some 169, some 170, some 171, some 172, some 173] rfl (fun ops hops => ?_)
                                unfold Dsts at hops
                                simp (maxSteps:=1000000)(dsimp:=false)(disch:=omega) only [go_sem, Φa, hP, h34_20, h34_15, h34_19, hops, ia_at hme, hvv]
                                refine ⟨_, hmat _ _ 1 rfl i hil, ?_⟩
                                try with_reducible refine stI ?_
                                try simp (maxSteps:=1000000)(dsimp:=false)(disch:=omega) only [go_sem, Φa, hP, h34_20, h34_15, h34_19, hops, ia_at hme, hvv]
                                refine hK93 _ _ ?_
                                try clear hK93 K93
                                refine SX.cond_k fun X94 Y94 hX94 hY94 => ?_
                                simp (maxSteps:=1000000)(dsimp:=false)(disch:=omega) only [go_sem, Φa, hP, h34_20, h34_15, h34_19, condVC]
                                refine ⟨fun hc173 => hX94 ?_, fun hc173 => hY94 ?_⟩
                                · clear hX94 hY94 X94 Y94
                                  refine SX.skip ?_
                                  try simp only [Φc, andThen_ret, andThen_exit, inBlk_normal, inBlk_ret, inBlk_exit, Φb, if_true, if_false, ↓reduceIte]
                                  refine hK92 _ _ ?_
                                  try clear hK92 K92
                                  refine SX.seq_k fun K95 hK95 => ?_
                                  refine SX.block ?_
                                  refine SX.seq_k fun K96 hK96 => ?_
                                  refine SX.region_xd [some 176, some 177, some 178, some 179, some 180, some 181, some 182, some 183, some 184, some 185, some 186, some 187, some 188, some 189, some 190, some 191, some 192, some 193, some 194, some 195, some 196, some 197, some 198, some 199] rfl (fun ops hops => ?_)
                                  unfold Dsts at hops
                                  refine RX.live [15, 19, 20] (fun T35 hT35 => ?_)
                                  simp only [Φd, forall_mem_nil', go_sem, Φa, hP, h34_20, h34_15, h34_19] at hT35
                                  obtain ⟨h35_15, h35_19, h35_20⟩ := hT35
                                  clear h34_20 h34_15 h34_19 T34
                                  have hkl : k < (Gs.getD i default).rs.length := by omega
                                  obtain ⟨htl, htr, htm⟩ := hS.two i hir _ (getD_mem hkl)
                                  rw [htl] at htr
                                  obtain ⟨WA, wc, wa, hwv, hwc, hwe, hwat⟩ := RowI.any htr
                                  have hmem : ((Gs.getD i default).rs.getD k default).s ∈ sl :: sm :: (Gs.map Gf.s ++ R) := List.mem_cons_of_mem _ (List.mem_cons_of_mem _ (List.mem_append_right _ htm))
                                  obtain ⟨q, hq⟩ := List.mem_iff_getElem?.1 hmem
                                  rw [show ([mrk i, 7] : List Int).length = 2 from rfl] at hwv hwe
                                  refine RX.join 24 (fun (ss : Unit) T L' => T 199 = .bool (false) ∧ T 15 = T35 15 ∧ T 19 = T35 19 ∧ T 20 = T35 20 ∧ L' = sl :: sm :: (Gs.map Gf.s ++ R) ∧ (True)) (fun K97 hK97 => ?_) ?_
                                  · simp only [h35_15, h35_19, h35_20] at hK97
                                    simp (maxSteps:=1000000)(dsimp:=false)(disch:=omega) only [go_sem, Φa, hP, h35_15, h35_19, h35_20, hops, ia_at hme, ia_at hve, ia_at hwe, hvv, hwv, mrk_tmod, mrk_wrap, List.getD_cons_zero]
                                    repeat' (first | refine iteB (fun hg => ?_) (fun hg => ?_) | refine iteI (fun hg => ?_) (fun hg => ?_) | ((first | refine ⟨_, hmat _ _ 1 rfl i hil, ?_⟩ | refine ⟨_, hvat _ _ (i + 2) hgt2 k hkl, ?_⟩ | refine ⟨_, hwat _ _ q hq 0 (Nat.zero_lt_succ 1), ?_⟩ | refine And.intro (by omega) ?_ | refine ⟨_, Cell.at 0 rfl rfl, ?_⟩ | refine ⟨_, Cell.at 1 rfl rfl, ?_⟩ | fail); try (with_reducible refine stI ?_); try simp (maxSteps:=1000000)(dsimp:=false)(disch:=omega) only [go_sem, Φa, hP, h35_15, h35_19, h35_20, hops, ia_at hme, ia_at hve, ia_at hwe, hvv, hwv, mrk_tmod, mrk_wrap, List.getD_cons_zero]) | fail)
                                    all_goals
                                      refine hK97 () _ (sl :: sm :: (Gs.map Gf.s ++ R)) _ (by first | exact Less.refl _ | exact Less.drop _ _ | exact Less.drops (Less.drop _ _) | exact Less.drops (Less.drops (Less.drop _ _)) | exact Less.drops (Less.drops (Less.drops (Less.drop _ _))) | exact Less.drops (Less.drops (Less.drops (Less.drops (Less.drop _ _))))) ?_
                                      try dsimp only
                                      refine ⟨?_, ?_, ?_, ?_, ?_, ?_⟩
                                      · simp (maxSteps:=1000000)(dsimp:=false)(disch:=omega) only [go_sem, Φa, hP, h35_15, h35_19, h35_20]
                                        first | done | rfl | (simp; done)
                                      · simp (maxSteps:=1000000)(dsimp:=false)(disch:=omega) only [go_sem, Φa, hP, h35_15, h35_19, h35_20]
                                      · simp (maxSteps:=1000000)(dsimp:=false)(disch:=omega) only [go_sem, Φa, hP, h35_15, h35_19, h35_20]
                                      · simp (maxSteps:=1000000)(dsimp:=false)(disch:=omega) only [go_sem, Φa, hP, h35_15, h35_19, h35_20]
                                      · rfl
                                      · trivial
                                  · intro ss T36 L36 hI
                                    simp only [h35_15, h35_19, h35_20] at hI 
                                    obtain ⟨h36_199, h36_15, h36_19, h36_20, hL36, hinv⟩ := hI
                                    replace hL36 := hL36.symm
                                    subst hL36
                                    clear h35_15 h35_19 h35_20 T35
                                    refine RX.done ?_
                                    simp (maxSteps:=1000000)(dsimp:=false)(disch:=omega) only [go_sem, Φa, hP, h36_199, h36_15, h36_19, h36_20, hops]
                                    refine hK96 _ _ ?_
                                    try clear hK96 K96
                                    refine SX.cond_k fun X98 Y98 hX98 hY98 => ?_
                                    simp (maxSteps:=1000000)(dsimp:=false)(disch:=omega) only [go_sem, Φa, hP, h36_199, h36_15, h36_19, h36_20, condVC]
                                    refine hY98 ?_
                                    clear hX98 hY98 X98 Y98
                                    refine SX.skip ?_
                                    try simp only [Φc, andThen_ret, andThen_exit, inBlk_normal, inBlk_ret, inBlk_exit, Φb, if_true, if_false, ↓reduceIte]
                                    refine hK95 _ _ ?_
                                    try clear hK95 K95
                                    refine SX.region_d [some 174, some 175, some 20] rfl (fun ops hops => ?_)
                                    unfold Dsts at hops
                                    simp (maxSteps:=1000000)(dsimp:=false)(disch:=omega) only [go_sem, Φa, hP, h36_199, h36_15, h36_19, h36_20, hops]
                                    repeat' ((first | refine And.intro (by omega) ?_ | fail); try (with_reducible refine stI ?_); try simp (maxSteps:=1000000)(dsimp:=false)(disch:=omega) only [go_sem, Φa, hP, h36_199, h36_15, h36_19, h36_20, hops])
                                    refine hK91 (k + 1) _ (sl :: sm :: (Gs.map Gf.s ++ R)) _ (by exact Less.refl _) ?_ ?_
                                    · try dsimp only
                                      refine ⟨?_, ?_, ?_, ?_, ?_⟩
                                      · simp (maxSteps:=1000000)(dsimp:=false)(disch:=omega) only [go_sem, Φa, hP, h36_199, h36_15, h36_19, h36_20]
                                        first | done | rfl | skip
                                      · simp (maxSteps:=1000000)(dsimp:=false)(disch:=omega) only [go_sem, Φa, hP, h36_199, h36_15, h36_19, h36_20]
                                      · simp (maxSteps:=1000000)(dsimp:=false)(disch:=omega) only [go_sem, Φa, hP, h36_199, h36_15, h36_19, h36_20]
                                      · rfl
                                      · omega
                                    · (try dsimp only); omega
                                · clear hX94 hY94 X94 Y94
                                  refine SX.exit ?_
                                  try simp only [Φc, andThen_ret, andThen_exit, inBlk_normal, inBlk_ret, inBlk_exit, Φb, if_true, if_false, ↓reduceIte]
                                  refine hK89 _ _ ?_
                                  try clear hK89 K89
                                  refine SX.region_d [some 165, some 166, some 19] rfl (fun ops hops => ?_)
                                  unfold Dsts at hops
                                  simp (maxSteps:=1000000)(dsimp:=false)(disch:=omega) only [go_sem, Φa, hP, h34_20, h34_15, h34_19, hops]
                                  repeat' ((first | refine And.intro (by omega) ?_ | fail); try (with_reducible refine stI ?_); try simp (maxSteps:=1000000)(dsimp:=false)(disch:=omega) only [go_sem, Φa, hP, h34_20, h34_15, h34_19, hops])
                                  refine hK85 (i + 1) _ (sl :: sm :: (Gs.map Gf.s ++ R)) _ (by exact Less.refl _) ?_ ?_
                                  · try dsimp only
                                    refine ⟨?_, ?_, ?_, ?_⟩
                                    · simp (maxSteps:=1000000)(dsimp:=false)(disch:=omega) only [go_sem, Φa, hP, h34_20, h34_15, h34_19]
                                      first | done | rfl | skip
                                    · simp (maxSteps:=1000000)(dsimp:=false)(disch:=omega) only [go_sem, Φa, hP, h34_20, h34_15, h34_19]
                                    · rfl
                                    · omega
                                  · (try dsimp only); omega
                            · clear hX88 hY88 X88 Y88
                              refine SX.exit ?_
                              try simp only [Φc, andThen_ret, andThen_exit, inBlk_normal, inBlk_ret, inBlk_exit, Φb, if_true, if_false, ↓reduceIte]
                              refine hK83 _ _ ?_
                              try clear hK83 K83
                              refine SX.seq_k fun K99 hK99 => ?_
                              refine SX.region_d [some 2] rfl (fun ops hops => ?_)
                              unfold Dsts at hops
                              simp (maxSteps:=1000000)(dsimp:=false)(disch:=omega) only [go_sem, Φa, hP, h32_19, h32_15, hops]
                              refine hK99 _ _ ?_
                              try clear hK99 K99
                              refine SX.ret ?_
                              simp only [Φc, andThen_ret, andThen_exit, inBlk_normal, inBlk_ret, inBlk_exit, Φb, if_true, if_false, ↓reduceIte, retQ_ret]
                              try simp only [res0, res1, res2, res3, stK_e, go_sem, Φa, hP, h32_19, h32_15]
                              exact ⟨_, _, lessEnd hRL, rfl, rfl, rfl⟩

end Go.Proofs.YtpakphgeichopaaDoor
set_option linter.unusedVariables false
set_option linter.unusedSimpArgs false
namespace Go.Proofs.YtpakphgeichopaaDoor
open Go.RowKit Go.SX
/-! The document's way from text to frame, and that it is the program's. -/
abbrev LB := List UInt8
def flatN (o : List LB) : LB := o.flatMap fun l => l ++ [10]
theorem flatN_cons (x : LB) (o : List LB) (r : LB) : flatN (x :: o) ++ r = x ++ 10 :: (flatN o ++ r) := by
  unfold flatN
  simp
theorem flatN_app (o : List LB) (x : LB) : flatN (o ++ [x]) = flatN o ++ x ++ [10] := by
  unfold flatN
  simp
theorem flatN_inj : ∀ {o o' : List LB} {r r' : LB}, (∀ l ∈ o, (10 : UInt8) ∉ l) → (∀ l ∈ o', (10 : UInt8) ∉ l) → (10 : UInt8) ∉ r → (10 : UInt8) ∉ r' → flatN o ++ r = flatN o' ++ r' → o = o' ∧ r = r'
  | [], [], r, r', _, _, _, _, h => ⟨rfl, h⟩
  | [], x :: o', r, r', _, _, hr, _, h => by
    rw [flatN_cons] at h
    exact absurd (show (10 : UInt8) ∈ r by rw [show r = flatN [] ++ r from rfl, h]; simp) hr
  | x :: o, [], r, r', _, _, _, hr', h => by
    rw [flatN_cons] at h
    exact absurd (show (10 : UInt8) ∈ r' by rw [show r' = flatN [] ++ r' from rfl, ← h]; simp) hr'
  | x :: o, x' :: o', r, r', ho, ho', hr, hr', h => by
    rw [flatN_cons, flatN_cons] at h
    have h1 := cut_nl (flatN o ++ r) (ho x (List.mem_cons_self ..))
    rw [h, cut_nl (flatN o' ++ r') (ho' x' (List.mem_cons_self ..))] at h1
    simp only [Prod.mk.injEq, and_true] at h1
    obtain ⟨e1, e2⟩ := h1
    obtain ⟨e3, e4⟩ := flatN_inj (fun l hl => ho l (List.mem_cons_of_mem _ hl)) (fun l hl => ho' l (List.mem_cons_of_mem _ hl)) hr hr' e2.symm
    exact ⟨by rw [e1, e3], e4⟩
def lnAt (s : ByteArray) : Nat → List ByteArray × Nat
  | 0 => ([], 0)
  | i + 1 => if (nums8 s).getD i 0 = 10 then ((lnAt s i).1 ++ [s.extract (lnAt s i).2 i], i + 1) else lnAt s i
def linesR (s : ByteArray) : List ByteArray := (lnAt s s.size).1
def restR (s : ByteArray) : ByteArray := s.extract (lnAt s s.size).2 s.size
theorem ext_toList (s : ByteArray) (a b : Nat) : (s.extract a b).data.toList = (s.data.toList.take b).drop a := by
  rw [Lib.extract_data, List.drop_take]
theorem nums8_getD {s : ByteArray} {i : Nat} (h : i < s.size) : ∃ b : UInt8, s.data.toList[i]? = some b ∧ (nums8 s).getD i 0 = (b.toNat : Int) := by
  obtain ⟨b, h1, h2⟩ := index_nums8 h
  exact ⟨b, h1, by rw [List.getD_eq_getElem?_getD, h2]; rfl⟩
theorem u8_ten {b : UInt8} : ((b.toNat : Nat) : Int) = 10 ↔ b = 10 := by
  constructor
  · intro h
    have h1 : b.toNat = 10 := by omega
    exact UInt8.toNat_inj.1 h1
  · rintro rfl; rfl
theorem lnAt_inv (s : ByteArray) : ∀ i, i ≤ s.size → (lnAt s i).2 ≤ i ∧ (lnAt s i).1.length ≤ i ∧ flatN ((lnAt s i).1.map fun l => l.data.toList) ++ (s.data.toList.take i).drop (lnAt s i).2 = s.data.toList.take i ∧ (∀ l ∈ (lnAt s i).1, (10 : UInt8) ∉ l.data.toList) ∧ (10 : UInt8) ∉ (s.data.toList.take i).drop (lnAt s i).2
  | 0, _ => ⟨Nat.le_refl _, Nat.le_refl _, by simp [lnAt, flatN], fun l hl => by simp [lnAt] at hl, by simp⟩
  | i + 1, h => by
    obtain ⟨h1, hl, h2, h3, h4⟩ := lnAt_inv s i (by omega)
    obtain ⟨b, hb1, hb2⟩ := nums8_getD (s := s) (i := i) (by omega)
    have hlen : (s.data.toList.take i).length = i := by
      have : s.data.toList.length = s.size := rfl
      rw [List.length_take]; omega
    have ht : s.data.toList.take (i + 1) = s.data.toList.take i ++ [b] := by rw [List.take_add_one, hb1]; rfl
    rw [lnAt]
    by_cases h10 : (nums8 s).getD i 0 = 10
    · rw [if_pos h10]
      rw [hb2] at h10
      have hbb : b = 10 := u8_ten.1 h10
      refine ⟨Nat.le_refl _, by rw [List.length_append, List.length_singleton]; omega, ?_, ?_, ?_⟩
      · dsimp only
        rw [List.map_append, List.map_cons, List.map_nil, flatN_app, ext_toList, h2, ht, hbb, List.drop_of_length_le (by rw [List.length_append, hlen, List.length_singleton]; omega), List.append_nil]
      · intro l hl
        rcases List.mem_append.1 hl with hl | hl
        · exact h3 l hl
        · rw [List.mem_singleton.1 hl, ext_toList]; exact h4
      · dsimp only
        rw [ht, List.drop_of_length_le (by rw [List.length_append, hlen, List.length_singleton]; omega)]
        simp
    · rw [if_neg h10]
      rw [hb2, u8_ten] at h10
      have hd : (s.data.toList.take i ++ [b]).drop (lnAt s i).2 = (s.data.toList.take i).drop (lnAt s i).2 ++ [b] := List.drop_append_of_le_length (by rw [hlen]; exact h1)
      refine ⟨by omega, by omega, ?_, h3, ?_⟩
      · rw [ht, hd, ← List.append_assoc, h2]
      · rw [ht, hd]
        intro hm
        rcases List.mem_append.1 hm with hm | hm
        · exact h4 hm
        · exact h10 (List.mem_singleton.1 hm).symm
theorem linesR_inv (s : ByteArray) : flatN ((linesR s).map fun l => l.data.toList) ++ (restR s).data.toList = s.data.toList ∧ (∀ l ∈ linesR s, (10 : UInt8) ∉ l.data.toList) ∧ (10 : UInt8) ∉ (restR s).data.toList := by
  obtain ⟨_, _, h2, h3, h4⟩ := lnAt_inv s s.size (Nat.le_refl _)
  have hs : s.data.toList.take s.size = s.data.toList := List.take_of_length_le (Nat.le_refl _)
  have hr : (restR s).data.toList = (s.data.toList.take s.size).drop (lnAt s s.size).2 := ext_toList _ _ _
  rw [hr]
  rw [hs] at h2 h4 ⊢
  exact ⟨h2, h3, h4⟩
def bAt (c : List Int) : Nat → Int × List Int
  | 0 => (0, [])
  | i + 1 => if i % 8 = 7 then (0, (bAt c i).2 ++ [2 * (bAt c i).1 + (if c.getD i 0 = 35 then 1 else 0)]) else (2 * (bAt c i).1 + (if c.getD i 0 = 35 then 1 else 0), (bAt c i).2)
def okRow (c : List Int) : Bool := decide (c.length % 8 = 0) && decide (c.length ≤ 64) && c.all fun x => decide (x = 35) || decide (x = 46)
theorem bAt_inv (c : List Int) : ∀ i, 0 ≤ (bAt c i).1 ∧ (bAt c i).1 < 2 ^ (i % 8) ∧ (bAt c i).2.length = i / 8 ∧ Byte (bAt c i).2
  | 0 => ⟨Int.le_refl _, (show (0 : Int) < 2 ^ 0 by decide), rfl, fun x hx => (by cases hx)⟩
  | i + 1 => by
    obtain ⟨h1, h2, h3, h4⟩ := bAt_inv c i
    rw [bAt]
    have hx : 0 ≤ 2 * (bAt c i).1 + (if c.getD i 0 = 35 then 1 else 0) ∧ 2 * (bAt c i).1 + (if c.getD i 0 = 35 then 1 else 0) < 2 * 2 ^ (i % 8) := by split <;> omega
    split
    · rename_i h7
      rw [h7] at hx
      refine ⟨Int.le_refl _, by rw [show (i + 1) % 8 = 0 by omega]; exact (show (0 : Int) < 2 ^ 0 by decide), by dsimp only; rw [List.length_append, h3, List.length_singleton]; omega, Byte.app h4 fun x hm => ?_⟩
      rw [List.mem_singleton.1 hm]
      omega
    · rename_i h7
      refine ⟨hx.1, ?_, by dsimp only; omega, h4⟩
      dsimp only
      rw [show (i + 1) % 8 = i % 8 + 1 by omega, Int.pow_succ]
      omega
theorem half_dbl (b : Int) {m : Nat} (hm : m < 8) : 2 * (b / 2 ^ (8 - m)) + (if bitL b m = 35 then 1 else 0) = b / 2 ^ (7 - m) := by
  have e : b / 2 ^ (8 - m) = b / 2 ^ (7 - m) / 2 := by
    rw [show 8 - m = (7 - m) + 1 by omega, Int.pow_succ, ← Int.ediv_ediv_of_nonneg (Int.le_of_lt (Int.pow_pos (by decide)))]
  rw [e]
  unfold bitL
  generalize b / 2 ^ (7 - m) = q
  by_cases h : q % 2 = 1
  · rw [if_pos h, if_pos rfl]; omega
  · rw [if_neg h, if_neg (by decide)]; omega
theorem bAt_rowL {r : List Int} (hb : Byte r) : ∀ i, i ≤ 8 * r.length → bAt (rowL r) i = (r.getD (i / 8) 0 / 2 ^ (8 - i % 8), r.take (i / 8))
  | 0, _ => by
    have h0 : r.getD 0 0 / 2 ^ 8 = 0 := by
      cases r with
      | nil => rfl
      | cons a l => have := hb a (List.mem_cons_self ..); simp only [List.getD_cons_zero]; omega
    show (0, []) = (r.getD 0 0 / 2 ^ 8, r.take 0)
    rw [h0]
    rfl
  | i + 1, h => by
    have ih := bAt_rowL hb i (by omega)
    have hj : i / 8 < r.length := by omega
    have hc := rowL_getD (m := i % 8) (by omega) hj
    rw [show 8 * (i / 8) + i % 8 = i by omega] at hc
    rw [bAt, ih, hc]
    dsimp only
    rw [half_dbl _ (by omega)]
    by_cases h7 : i % 8 = 7
    · rw [if_pos h7, h7, show (i + 1) / 8 = i / 8 + 1 by omega, show (i + 1) % 8 = 0 by omega]
      have h0 : r.getD (i / 8 + 1) 0 / 2 ^ 8 = 0 := by
        by_cases hl : i / 8 + 1 < r.length
        · have := hb _ (getD_memI hl); omega
        · rw [List.getD_eq_getElem?_getD, List.getElem?_eq_none (by omega)]; rfl
      rw [show 8 - 0 = 8 from rfl, h0, show 7 - 7 = 0 from rfl, List.take_add_one, getD_get (d := 0) hj, Int.pow_zero, Int.ediv_one]
      rfl
    · rw [if_neg h7, show (i + 1) / 8 = i / 8 by omega, show (i + 1) % 8 = i % 8 + 1 by omega, show 8 - (i % 8 + 1) = 7 - i % 8 by omega]
theorem bAt_row {r : List Int} (hb : Byte r) : (bAt (rowL r) (rowL r).length).2 = r := by
  rw [rowL_len, bAt_rowL hb _ (Nat.le_refl _)]
  dsimp only
  rw [show 8 * r.length / 8 = r.length by omega, List.take_length]
def sel (b : Bool) : Int := if b then 35 else 46
def val8 (a b c d e f g h : Bool) : Int := (if a then 128 else 0) + (if b then 64 else 0) + (if c then 32 else 0) + (if d then 16 else 0) + (if e then 8 else 0) + (if f then 4 else 0) + (if g then 2 else 0) + (if h then 1 else 0)
theorem byteL_all : ∀ a b c d e f g h : Bool, byteL (val8 a b c d e f g h) = [sel a, sel b, sel c, sel d, sel e, sel f, sel g, sel h] ∧ 0 ≤ val8 a b c d e f g h ∧ val8 a b c d e f g h ≤ 255 := by decide +kernel
theorem sel_of {x : Int} (h : x = 35 ∨ x = 46) : ∃ b, x = sel b := by
  rcases h with rfl | rfl
  · exact ⟨true, rfl⟩
  · exact ⟨false, rfl⟩
theorem chunk8 {l : List Int} (hl : l.length = 8) (h : ∀ x ∈ l, x = 35 ∨ x = 46) : ∃ b, (0 ≤ b ∧ b ≤ 255) ∧ byteL b = l := by
  match l, hl with
  | [x0, x1, x2, x3, x4, x5, x6, x7], _ =>
    obtain ⟨a, rfl⟩ := sel_of (h x0 (by simp))
    obtain ⟨b, rfl⟩ := sel_of (h x1 (by simp))
    obtain ⟨c, rfl⟩ := sel_of (h x2 (by simp))
    obtain ⟨d, rfl⟩ := sel_of (h x3 (by simp))
    obtain ⟨e, rfl⟩ := sel_of (h x4 (by simp))
    obtain ⟨f, rfl⟩ := sel_of (h x5 (by simp))
    obtain ⟨g, rfl⟩ := sel_of (h x6 (by simp))
    obtain ⟨q, rfl⟩ := sel_of (h x7 (by simp))
    have := byteL_all a b c d e f g q
    exact ⟨_, this.2, this.1⟩
theorem chunks : ∀ (n : Nat) {c : List Int}, c.length = 8 * n → (∀ x ∈ c, x = 35 ∨ x = 46) → ∃ r, Byte r ∧ r.length = n ∧ c = rowL r
  | 0, c, hl, _ => ⟨[], fun x hx => (by cases hx), rfl, List.eq_nil_of_length_eq_zero hl⟩
  | n + 1, c, hl, h => by
    obtain ⟨b, hb, he⟩ := chunk8 (l := c.take 8) (by rw [List.length_take]; omega) fun x hx => h x (List.mem_of_mem_take hx)
    obtain ⟨r, hr, hn, he2⟩ := chunks n (c := c.drop 8) (by rw [List.length_drop]; omega) fun x hx => h x (List.mem_of_mem_drop hx)
    refine ⟨b :: r, fun x hx => ?_, by rw [List.length_cons, hn], ?_⟩
    · rcases List.mem_cons.1 hx with rfl | hx
      · exact hb
      · exact hr x hx
    · show c = byteL b ++ rowL r
      rw [he, ← he2, List.take_append_drop]
theorem okRow_ex {c : List Int} (h : okRow c = true) : ∃ r, Byte r ∧ r.length ≤ 8 ∧ c = rowL r := by
  unfold okRow at h
  simp only [Bool.and_eq_true, decide_eq_true_eq, List.all_eq_true, Bool.or_eq_true] at h
  obtain ⟨⟨h1, h2⟩, h3⟩ := h
  obtain ⟨r, hr, hn, he⟩ := chunks (c.length / 8) (c := c) (by omega) h3
  exact ⟨r, hr, by omega, he⟩
theorem okRow_rowL {r : List Int} (hl : r.length ≤ 8) : okRow (rowL r) = true := by
  unfold okRow
  simp only [Bool.and_eq_true, decide_eq_true_eq, List.all_eq_true, Bool.or_eq_true]
  rw [rowL_len]
  exact ⟨⟨by omega, by omega⟩, fun x hx => rowL_dot hx⟩
def rowT (l : ByteArray) : List Int := (bAt (nums8 l) (nums8 l).length).2
def okLine (l : ByteArray) : Bool := okRow (nums8 l)
def refRows (s : ByteArray) : List (List Int) := (linesR s).map rowT
def refReadP (s : ByteArray) : Fm × Int := if 65536 < s.size then (zF, 100) else if (linesR s).length = 128 ∧ restR s = ⟨#[]⟩ ∧ (linesR s).all okLine = true then (⟨0, refRows s, shortB (refRows s)⟩, 0) else (zF, 100)
theorem ba_ext {a b : ByteArray} (h : a.data.toList = b.data.toList) : a = b := by
  cases a; cases b
  exact congrArg ByteArray.mk (Array.toList_inj.1 h)
theorem txt_rows : ∀ (R : List (List Int)), (txt (rowsL R)).data.toList = flatN (R.map fun r => (txt (rowL r)).data.toList)
  | [] => rfl
  | r :: R => by
    have ih := txt_rows R
    rw [List.map_cons, ← List.append_nil (flatN _), flatN_cons, List.append_nil, ← ih]
    unfold txt
    rw [rowsL]
    simp
theorem okLine_ex {l : ByteArray} (h : okLine l = true) : Byte (rowT l) ∧ (rowT l).length ≤ 8 ∧ l = txt (rowL (rowT l)) := by
  obtain ⟨r, hr, hn, he⟩ := okRow_ex h
  have e : rowT l = r := by unfold rowT; rw [he]; exact bAt_row hr
  rw [e]
  exact ⟨hr, hn, by rw [← he, txt_nums8]⟩
theorem may_mk {R : List (List Int)} (h1 : R.length = 128) (h2 : ∀ r ∈ R, r.length ≤ 8) : mayF ⟨0, R, shortB R⟩ = true := by
  unfold mayF
  simp only [Bool.and_eq_true, decide_eq_true_eq, beq_iff_eq]
  exact ⟨⟨⟨Int.le_refl _, h1⟩, rfl⟩, fun j hj => h2 _ (List.mem_of_getElem? (getD_get (d := []) hj))⟩
theorem nums8_nl {r : List Int} : (10 : UInt8) ∉ (txt (rowL r)).data.toList := fun h => by
  have h1 : (10 : UInt8) ∈ (rowL r).map fun n : Int => UInt8.ofNat n.toNat := by simpa [txt] using h
  obtain ⟨x, hx, he⟩ := List.mem_map.1 h1
  exact toU8_ne (rowL_dot hx) he.symm
theorem refReadP_eq (s : ByteArray) : refReadP s = readP s := by
  obtain ⟨hf, hn, hr⟩ := linesR_inv s
  by_cases hok : (linesR s).length = 128 ∧ restR s = ⟨#[]⟩ ∧ (linesR s).all okLine = true
  · obtain ⟨h1, h2, h3⟩ := hok
    rw [List.all_eq_true] at h3
    have hR : ∀ r ∈ refRows s, Byte r ∧ r.length ≤ 8 := fun r hr => by
      obtain ⟨l, hl, rfl⟩ := List.mem_map.1 hr
      have := okLine_ex (h3 l hl)
      exact ⟨this.1, this.2.1⟩
    have hm : mayF ⟨0, refRows s, shortB (refRows s)⟩ = true := may_mk (by unfold refRows; rw [List.length_map]; exact h1) fun r hr => (hR r hr).2
    have hs : s = txt (rowsL (refRows s)) := by
      refine ba_ext ?_
      rw [txt_rows, ← hf, h2]
      show flatN _ ++ [] = _
      rw [List.append_nil]
      unfold refRows
      rw [List.map_map]
      congr 1
      refine List.map_congr_left fun l hl => ?_
      exact congrArg (fun x : ByteArray => x.data.toList) (okLine_ex (h3 l hl)).2.2
    have hp := readP_show hm fun r hr => (hR r hr).1
    rw [show showS ⟨0, refRows s, shortB (refRows s)⟩ = (txt (rowsL (refRows s)), 0) from if_pos hm] at hp
    dsimp only at hp
    rw [← hs] at hp
    have hsz : s.size ≤ 8320 := by
      have hl := rowsL_len (l := refRows s) (fun j hj => (hR _ (List.mem_of_getElem? (getD_get (d := []) hj))).2) (refRows s).length (Nat.le_refl _)
      rw [List.take_length] at hl
      have hlen : (refRows s).length = 128 := by unfold refRows; rw [List.length_map]; exact h1
      rw [hs, txt_size]
      omega
    unfold refReadP
    rw [if_neg (by omega), if_pos ⟨h1, h2, List.all_eq_true.2 h3⟩, hp]
  · have h1 : refReadP s = (zF, 100) := by
      unfold refReadP
      rw [if_neg hok]
      split <;> rfl
    rw [h1]
    unfold readP
    split
    · rfl
    · split
      · rename_i hsz hsh
        exfalso
        apply hok
        have hm : mayF (readF s) = true := by
          rcases hmm : mayF (readF s) with _ | _
          · have : showS (readF s) = (txt [], 1) := by unfold showS; rw [if_neg (by rw [hmm]; exact Bool.false_ne_true)]
            rw [this] at hsh
            cases hsh
          · rfl
        have hss : showS (readF s) = (txt (rowsL (rowsAt s 128)), 0) := if_pos hm
        rw [hss] at hsh
        have hs : txt (rowsL (rowsAt s 128)) = s := (Prod.mk.inj hsh).1
        have h4 := (of_mayF hm).2.2.2
        have e := congrArg (fun x : ByteArray => x.data.toList) hs
        rw [txt_rows, ← hf, ← List.append_nil (flatN _)] at e
        obtain ⟨e1, e2⟩ := flatN_inj (fun l hl => by
          obtain ⟨r, _, rfl⟩ := List.mem_map.1 hl
          exact nums8_nl) (fun l hl => by
          obtain ⟨x, hx, rfl⟩ := List.mem_map.1 hl
          exact hn x hx) (by simp) hr e
        have hlen : (linesR s).length = 128 := by
          have := congrArg List.length e1
          rw [List.length_map, List.length_map, rowsAt_len] at this
          exact this.symm
        refine ⟨hlen, ba_ext e2.symm, List.all_eq_true.2 fun l hl => ?_⟩
        have hm2 : l.data.toList ∈ (rowsAt s 128).map fun r => (txt (rowL r)).data.toList := by rw [e1]; exact List.mem_map_of_mem hl
        obtain ⟨r, hr2, he⟩ := List.mem_map.1 hm2
        have hl2 : txt (rowL r) = l := ba_ext he
        have hr8 : r.length ≤ 8 := by
          obtain ⟨j, hj⟩ := List.mem_iff_getElem?.1 hr2
          have hjl := (List.getElem?_eq_some_iff.1 hj).1
          have := h4 j hjl
          rw [show (readF s).rows = rowsAt s 128 from rfl, List.getD_eq_getElem?_getD, hj] at this
          exact this
        unfold okLine
        rw [← hl2, nums8_txt (rowL_byte r)]
        exact okRow_rowL hr8
      · rfl
end Go.Proofs.YtpakphgeichopaaDoor
