/- A part of a proof: contracts and plain facts that it stands on. -/
import Derived.Test.YtpakphgeichopaaDoorCC
import Derived.Test.YtpakphgeichopaaDoorRows
import Derived.Test.YtpakphgeichopaaDoorCards
import Derived.Test.YtpakphgeichopaaDoorTie
import Derived.SevenTiedAt
import Derived.Lib.SmallJoins
set_option linter.unusedVariables false
set_option linter.unusedSimpArgs false
namespace Go.Proofs.YtpakphgeichopaaDoor
open Go.RowKit Go.SX Go.Proofs
open Go.SX renaming ia_someH → Φa
set_option maxHeartbeats 1000000 in
set_option maxRecDepth 100000 in
theorem ShowB_spec {Γ : Ctx} (hP : Γ.P = Tryd.prog) {L : Hp} (ho : Γ.own = []) {v : Value} {f : Fm} (hr : SlR (Cell Γ []) v f.rows) (hm : cnt f.rows ≤ 9000000000000000000) (hrl : f.rows.length ≤ 9000000000000000000) (hby : ∀ i, i < f.rows.length → ∀ j, j < (f.rows.getD i []).length → 0 ≤ (f.rows.getD i []).getD j 0 ∧ (f.rows.getD i []).getD j 0 ≤ 255) :
    SCall Γ 18 #[(.agg (f.cells v).toArray)] ([]) (fun v L' => v = .tuple #[.string (showS f).1, .int .i64 (showS f).2] ∧ L' = []) := by
  obtain ⟨A, c, rfl, hc⟩ := Sl.shape hr
  obtain ⟨a1, e1, _, hA⟩ := slR_at hr
  refine SCall.enter (n := 41) (res2 2 3) (hP ▸ Tryd.func18) rfl rfl (by simp) (res2_ok rfl) ?_
  refine SX.seq_k fun K1 hK1 => ?_
  refine SX.region_d [some 1, some 2, some 3] rfl (fun ops hops => ?_)
  unfold Dsts at hops
  simp (maxSteps:=1000000)(dsimp:=false)(disch:=omega) only [go_sem, Φa, hP, hops]
  intro b0
  try with_reducible refine stI ?_
  try simp (maxSteps:=1000000)(dsimp:=false)(disch:=omega) only [go_sem, Φa, hP, hops]
  refine hK1 _ _ ?_
  try clear hK1 K1
  refine SX.seq_k fun K2 hK2 => ?_
  refine SX.seq_k fun K3 hK3 => ?_
  refine SX.region_d [some 10, some 11, some 12] rfl (fun ops hops => ?_)
  unfold Dsts at hops
  simp (maxSteps:=1000000)(dsimp:=false)(disch:=omega) only [go_sem, Φa, hP, hops]
  refine ⟨_, Cell.at 0 rfl (show (Fm.cells _ _)[0]? = _ from rfl), _, Cell.at 0 rfl (show (Fm.cells _ _)[1]? = _ from rfl), _, Cell.at 0 rfl (show (Fm.cells _ _)[2]? = _ from rfl), ?_⟩
  try with_reducible refine stI ?_
  try simp (maxSteps:=1000000)(dsimp:=false)(disch:=omega) only [go_sem, Φa, hP, hops]
  refine SCall.mono (check_spec (f := f) hP (SlR.mono (fun a v h => Cell.any h) hr) hm hrl) ?_
  rintro v_ L_ ⟨hv_, hL_⟩
  rw [hv_, hL_]
  clear hv_ hL_ v_ L_
  try with_reducible refine stI ?_
  try simp (maxSteps:=1000000)(dsimp:=false)(disch:=omega) only [go_sem, Φa, hP, hops]
  refine hK3 _ _ ?_
  try clear hK3 K3
  refine SX.cond_k fun X4 Y4 hX4 hY4 => ?_
  simp (maxSteps:=1000000)(dsimp:=false)(disch:=omega) only [go_sem, Φa, hP, condVC]
  refine ⟨fun hc12 => hX4 ?_, fun hc12 => hY4 ?_⟩
  · clear hX4 hY4 X4 Y4
    refine SX.seq_k fun K5 hK5 => ?_
    refine SX.region_d [some 2, some 3] rfl (fun ops hops => ?_)
    unfold Dsts at hops
    simp (maxSteps:=1000000)(dsimp:=false)(disch:=omega) only [go_sem, Φa, hP, hops]
    refine hK5 _ _ ?_
    try clear hK5 K5
    refine SX.ret ?_
    simp only [andThen_normal, andThen_ret, andThen_exit, inBlk_normal, inBlk_ret, inBlk_exit, Nat.reduceEqDiff, if_true, if_false, ↓reduceIte, retQ_ret]
    try simp only [res0, res1, res2, res3, stK_e, go_sem, Φa, hP]
    refine ⟨_, _, Less.drop _ _, rfl, ?_, rfl⟩
    have h0 : mayF f = false := by simpa using hc12
    unfold showS
    rw [if_neg (by rw [h0]; exact Bool.false_ne_true)]
    rfl
  · clear hX4 hY4 X4 Y4
    refine SX.skip ?_
    try simp only [andThen_normal, andThen_ret, andThen_exit, inBlk_normal, inBlk_ret, inBlk_exit, Nat.reduceEqDiff, if_true, if_false, ↓reduceIte]
    refine hK2 _ _ ?_
    try clear hK2 K2
    refine SX.seq_k fun K6 hK6 => ?_
    have hmt : mayF f = true := by simpa using hc12
    have hmf := of_mayF hmt
    refine SX.region_d [some 4] rfl (fun ops hops => ?_)
    unfold Dsts at hops
    simp (maxSteps:=1000000)(dsimp:=false)(disch:=omega) only [go_sem, Φa, hP, hops]
    intro bb
    try with_reducible refine stI ?_
    try simp (maxSteps:=1000000)(dsimp:=false)(disch:=omega) only [go_sem, Φa, hP, hops]
    refine hK6 _ _ ?_
    try clear hK6 K6
    refine SX.seq_k fun K7 hK7 => ?_
    refine SX.seq_k fun K8 hK8 => ?_
    refine SX.less less_ins ?_
    refine SX.region_d [some 13, some 14, some 15, some 16] rfl (fun ops hops => ?_)
    unfold Dsts at hops
    simp (maxSteps:=1000000)(dsimp:=false)(disch:=omega) only [go_sem, Φa, hP, hops]
    refine ⟨_, Cell.at 2 rfl (show (Fm.cells _ _)[1]? = _ from rfl), ?_⟩
    try with_reducible refine stI ?_
    try simp (maxSteps:=1000000)(dsimp:=false)(disch:=omega) only [go_sem, Φa, hP, hops]
    refine hK8 _ _ ?_
    try clear hK8 K8
    refine SX.live [4, 14, 15, 16] (fun T1 hT1 => ?_)
    simp only [forall_mem_cons', forall_mem_nil', go_sem, Φa, hP] at hT1
    obtain ⟨h1_4, h1_14, h1_15, h1_16⟩ := hT1
    refine SX.block ?_
    refine SX.live [4, 14, 15, 16] (fun T2 hT2 => ?_)
    simp only [forall_mem_cons', forall_mem_nil', go_sem, Φa, hP, h1_4, h1_14, h1_15, h1_16] at hT2
    obtain ⟨h2_4, h2_14, h2_15, h2_16⟩ := hT2
    clear h1_4 h1_14 h1_15 h1_16 T1
    refine SX.loop_k (fun (ss : (Nat) × (Value) × (Value) × (Slot)) T L' => (fun (i : Nat) (p : Value) (vb : Value) (sb : Slot) => T 16 = .int .i64 (i : Int) ∧ T 4 = T2 4 ∧ T 14 = T2 14 ∧ T 15 = T2 15 ∧ L' = BD bb p vb :: sb :: some (b0, .cells (f.cells (.slice A f.rows.length c)).toArray 41 (0, 0)) :: [] ∧ (i ≤ f.rows.length ∧ Ptr bb p ∧ RowI .u8 5 vb (rowsL (f.rows.take i)) sb)) (ss.1) (ss.2.1) (ss.2.2.1) (ss.2.2.2)) (fun (ss : (Nat) × (Value) × (Value) × (Slot)) => (fun (i : Nat) (p : Value) (vb : Value) (sb : Slot) => f.rows.length - i) (ss.1) (ss.2.1) (ss.2.2.1) (ss.2.2.2)) (0, .pointer none, .slice none 0 0, none) ?_ ?_
    · try dsimp only
      refine ⟨?_, ?_, ?_, ?_, ?_, ?_⟩
      · first | exact h2_16 | (rw [h2_16]; rfl) | (rw [h2_16]; simp; done)
      · rfl
      · rfl
      · rfl
      · rfl
      · exact ⟨Nat.zero_le _, .inl rfl, RowI.nil _ _⟩
    · intro ss T3 L3 hI K9 hK9
      obtain ⟨i, p, vb, sb⟩ := ss
      try dsimp only at hI hK9
      simp only [h2_4, h2_14, h2_15] at hI hK9
      obtain ⟨h3_16, h3_4, h3_14, h3_15, hL3, ⟨hi, hp, hrow⟩⟩ := hI
      replace hL3 := hL3.symm
      subst hL3
      clear h2_4 h2_14 h2_15 h2_16 T2
      refine SX.seq_k fun K10 hK10 => ?_
      refine SX.region_d [some 17] rfl (fun ops hops => ?_)
      unfold Dsts at hops
      simp (maxSteps:=1000000)(dsimp:=false)(disch:=omega) only [go_sem, Φa, hP, h3_16, h3_4, h3_14, h3_15, hops]
      repeat' ((first | refine And.intro (by omega) ?_ | fail); try (with_reducible refine stI ?_); try simp (maxSteps:=1000000)(dsimp:=false)(disch:=omega) only [go_sem, Φa, hP, h3_16, h3_4, h3_14, h3_15, hops])
      refine hK10 _ _ ?_
      try clear hK10 K10
      refine SX.seq_k fun K11 hK11 => ?_
      refine SX.cond_k fun X12 Y12 hX12 hY12 => ?_
      simp (maxSteps:=1000000)(dsimp:=false)(disch:=omega) only [go_sem, Φa, hP, h3_16, h3_4, h3_14, h3_15, condVC]
      refine ⟨fun hc17 => hX12 ?_, fun hc17 => hY12 ?_⟩
      · clear hX12 hY12 X12 Y12
        refine SX.skip ?_
        try simp only [andThen_normal, andThen_ret, andThen_exit, inBlk_normal, inBlk_ret, inBlk_exit, Nat.reduceEqDiff, if_true, if_false, ↓reduceIte]
        refine hK11 _ _ ?_
        try clear hK11 K11
        refine SX.seq_k fun K13 hK13 => ?_
        refine SX.block ?_
        refine SX.seq_k fun K14 hK14 => ?_
        have hil : i < f.rows.length := by omega
        obtain ⟨Ai, ci, hci, hcil, hsi⟩ := hA i hil
        obtain ⟨a2, e2, _, hB⟩ := sl_at hsi
        have hr8 := hmf.2.2.2 i hil
        have hlr := rowsL_len hmf.2.2.2 i (by omega)
        refine SX.region_d [some 18, some 19, some 6] rfl (fun ops hops => ?_)
        unfold Dsts at hops
        simp (maxSteps:=1000000)(dsimp:=false)(disch:=omega) only [go_sem, Φa, hP, h3_16, h3_4, h3_14, h3_15, hops, ia_at e1]
        refine ⟨_, Cell.any hci, ?_⟩
        try with_reducible refine stI ?_
        try simp (maxSteps:=1000000)(dsimp:=false)(disch:=omega) only [go_sem, Φa, hP, h3_16, h3_4, h3_14, h3_15, hops, ia_at e1]
        refine hK14 _ _ ?_
        try clear hK14 K14
        refine SX.seq_k fun K15 hK15 => ?_
        refine SX.seq_k fun K16 hK16 => ?_
        refine SX.region_d [some 20, some 21, some 22] rfl (fun ops hops => ?_)
        unfold Dsts at hops
        simp (maxSteps:=1000000)(dsimp:=false)(disch:=omega) only [go_sem, Φa, hP, h3_16, h3_4, h3_14, h3_15, hops]
        repeat' ((first | refine And.intro (by omega) ?_ | fail); try (with_reducible refine stI ?_); try simp (maxSteps:=1000000)(dsimp:=false)(disch:=omega) only [go_sem, Φa, hP, h3_16, h3_4, h3_14, h3_15, hops])
        refine hK16 _ _ ?_
        try clear hK16 K16
        refine SX.block ?_
        refine SX.live [4, 14, 15, 16, 20, 21, 22] (fun T4 hT4 => ?_)
        simp only [forall_mem_cons', forall_mem_nil', go_sem, Φa, hP, h3_16, h3_4, h3_14, h3_15] at hT4
        obtain ⟨h4_4, h4_14, h4_15, h4_16, h4_20, h4_21, h4_22⟩ := hT4
        clear h3_16 h3_4 h3_14 h3_15 T3
        refine SX.loop_k (fun (ss : (Nat) × (Value) × (Value) × (Slot)) T L' => (fun (j : Nat) (p2 : Value) (vb2 : Value) (sb2 : Slot) => T 22 = .int .i64 (j : Int) ∧ T 4 = T4 4 ∧ T 14 = T4 14 ∧ T 15 = T4 15 ∧ T 16 = T4 16 ∧ T 20 = T4 20 ∧ T 21 = T4 21 ∧ L' = BD bb p2 vb2 :: sb2 :: some (b0, .cells (f.cells (.slice A f.rows.length c)).toArray 41 (0, 0)) :: [] ∧ (j ≤ (f.rows.getD i []).length ∧ Ptr bb p2 ∧ RowI .u8 5 vb2 (rowsL (f.rows.take i) ++ rowL ((f.rows.getD i []).take j)) sb2)) (ss.1) (ss.2.1) (ss.2.2.1) (ss.2.2.2)) (fun (ss : (Nat) × (Value) × (Value) × (Slot)) => (fun (j : Nat) (p2 : Value) (vb2 : Value) (sb2 : Slot) => (f.rows.getD i []).length - j) (ss.1) (ss.2.1) (ss.2.2.1) (ss.2.2.2)) (0, p, vb, sb) ?_ ?_
        · try dsimp only
          refine ⟨?_, ?_, ?_, ?_, ?_, ?_, ?_, ?_, ?_⟩
          · first | exact h4_22 | (rw [h4_22]; rfl) | (rw [h4_22]; simp; done)
          · rfl
          · rfl
          · rfl
          · rfl
          · rfl
          · rfl
          · rfl
          · refine ⟨Nat.zero_le _, hp, ?_⟩
            rw [List.take_zero]
            show RowI .u8 5 vb (_ ++ []) sb
            rw [List.append_nil]
            exact hrow
        · intro ss T5 L5 hI K17 hK17
          obtain ⟨j, p2, vb2, sb2⟩ := ss
          try dsimp only at hI hK17
          simp only [h4_4, h4_14, h4_15, h4_16, h4_20, h4_21] at hI hK17
          obtain ⟨h5_22, h5_4, h5_14, h5_15, h5_16, h5_20, h5_21, hL5, ⟨hj, hp2, hrow2⟩⟩ := hI
          replace hL5 := hL5.symm
          subst hL5
          clear h4_4 h4_14 h4_15 h4_16 h4_20 h4_21 h4_22 T4
          refine SX.seq_k fun K18 hK18 => ?_
          refine SX.region_d [some 23] rfl (fun ops hops => ?_)
          unfold Dsts at hops
          simp (maxSteps:=1000000)(dsimp:=false)(disch:=omega) only [go_sem, Φa, hP, h5_22, h5_4, h5_14, h5_15, h5_16, h5_20, h5_21, hops]
          repeat' ((first | refine And.intro (by omega) ?_ | fail); try (with_reducible refine stI ?_); try simp (maxSteps:=1000000)(dsimp:=false)(disch:=omega) only [go_sem, Φa, hP, h5_22, h5_4, h5_14, h5_15, h5_16, h5_20, h5_21, hops])
          refine hK18 _ _ ?_
          try clear hK18 K18
          refine SX.seq_k fun K19 hK19 => ?_
          refine SX.cond_k fun X20 Y20 hX20 hY20 => ?_
          simp (maxSteps:=1000000)(dsimp:=false)(disch:=omega) only [go_sem, Φa, hP, h5_22, h5_4, h5_14, h5_15, h5_16, h5_20, h5_21, condVC]
          refine ⟨fun hc23 => hX20 ?_, fun hc23 => hY20 ?_⟩
          · clear hX20 hY20 X20 Y20
            refine SX.skip ?_
            try simp only [andThen_normal, andThen_ret, andThen_exit, inBlk_normal, inBlk_ret, inBlk_exit, Nat.reduceEqDiff, if_true, if_false, ↓reduceIte]
            refine hK19 _ _ ?_
            try clear hK19 K19
            refine SX.seq_k fun K21 hK21 => ?_
            refine SX.block ?_
            refine SX.seq_k fun K22 hK22 => ?_
            have hjl : j < (f.rows.getD i []).length := by omega
            have hbj := hB j hjl
            have hbb := hby i hil j hjl
            refine SX.region_d [some 24, some 25, some 8] rfl (fun ops hops => ?_)
            unfold Dsts at hops
            simp (maxSteps:=1000000)(dsimp:=false)(disch:=omega) only [go_sem, Φa, hP, h5_22, h5_4, h5_14, h5_15, h5_16, h5_20, h5_21, hops, ia_at e2]
            refine ⟨_, Cell.any hbj, ?_⟩
            try with_reducible refine stI ?_
            try simp (maxSteps:=1000000)(dsimp:=false)(disch:=omega) only [go_sem, Φa, hP, h5_22, h5_4, h5_14, h5_15, h5_16, h5_20, h5_21, hops, ia_at e2]
            refine hK22 _ _ ?_
            try clear hK22 K22
            refine SX.seq_k fun K23 hK23 => ?_
            refine SX.region_d [some 26] rfl (fun ops hops => ?_)
            unfold Dsts at hops
            simp (maxSteps:=1000000)(dsimp:=false)(disch:=omega) only [go_sem, Φa, hP, h5_22, h5_4, h5_14, h5_15, h5_16, h5_20, h5_21, hops]
            refine hK23 _ _ ?_
            try clear hK23 K23
            refine SX.block ?_
            refine SX.live [4, 8, 14, 15, 16, 20, 21, 22, 26] (fun T6 hT6 => ?_)
            simp only [forall_mem_cons', forall_mem_nil', go_sem, Φa, hP, h5_22, h5_4, h5_14, h5_15, h5_16, h5_20, h5_21] at hT6
            obtain ⟨h6_4, h6_8, h6_14, h6_15, h6_16, h6_20, h6_21, h6_22, h6_26⟩ := hT6
            clear h5_22 h5_4 h5_14 h5_15 h5_16 h5_20 h5_21 T5
            refine SX.loop_k (fun (ss : (Nat) × (Value) × (Value) × (Slot)) T L' => (fun (k : Nat) (p3 : Value) (vb3 : Value) (sb3 : Slot) => T 26 = .int .i64 (k : Int) ∧ T 4 = T6 4 ∧ T 8 = T6 8 ∧ T 14 = T6 14 ∧ T 15 = T6 15 ∧ T 16 = T6 16 ∧ T 20 = T6 20 ∧ T 21 = T6 21 ∧ T 22 = T6 22 ∧ L' = BD bb p3 vb3 :: sb3 :: some (b0, .cells (f.cells (.slice A f.rows.length c)).toArray 41 (0, 0)) :: [] ∧ (k ≤ 8 ∧ Ptr bb p3 ∧ RowI .u8 5 vb3 (rowsL (f.rows.take i) ++ rowL ((f.rows.getD i []).take j) ++ (List.range k).map (bitL ((f.rows.getD i []).getD j 0))) sb3)) (ss.1) (ss.2.1) (ss.2.2.1) (ss.2.2.2)) (fun (ss : (Nat) × (Value) × (Value) × (Slot)) => (fun (k : Nat) (p3 : Value) (vb3 : Value) (sb3 : Slot) => 8 - k) (ss.1) (ss.2.1) (ss.2.2.1) (ss.2.2.2)) (0, p2, vb2, sb2) ?_ ?_
            · try dsimp only
              refine ⟨?_, ?_, ?_, ?_, ?_, ?_, ?_, ?_, ?_, ?_, ?_⟩
              · first | exact h6_26 | (rw [h6_26]; rfl) | (rw [h6_26]; simp; done)
              · rfl
              · rfl
              · rfl
              · rfl
              · rfl
              · rfl
              · rfl
              · rfl
              · rfl
              · refine ⟨Nat.zero_le _, hp2, ?_⟩
                rw [List.range_zero, List.map_nil, List.append_nil]
                exact hrow2
            · intro ss T7 L7 hI K24 hK24
              obtain ⟨k, p3, vb3, sb3⟩ := ss
              try dsimp only at hI hK24
              simp only [h6_4, h6_8, h6_14, h6_15, h6_16, h6_20, h6_21, h6_22] at hI hK24
              obtain ⟨h7_26, h7_4, h7_8, h7_14, h7_15, h7_16, h7_20, h7_21, h7_22, hL7, ⟨hk, hp3, hrow3⟩⟩ := hI
              replace hL7 := hL7.symm
              subst hL7
              clear h6_4 h6_8 h6_14 h6_15 h6_16 h6_20 h6_21 h6_22 h6_26 T6
              refine SX.seq_k fun K25 hK25 => ?_
              refine SX.region_d [some 27] rfl (fun ops hops => ?_)
              unfold Dsts at hops
              simp (maxSteps:=1000000)(dsimp:=false)(disch:=omega) only [go_sem, Φa, hP, h7_26, h7_4, h7_8, h7_14, h7_15, h7_16, h7_20, h7_21, h7_22, hops]
              repeat' ((first | refine And.intro (by omega) ?_ | fail); try (with_reducible refine stI ?_); try simp (maxSteps:=1000000)(dsimp:=false)(disch:=omega) only [go_sem, Φa, hP, h7_26, h7_4, h7_8, h7_14, h7_15, h7_16, h7_20, h7_21, h7_22, hops])
              refine hK25 _ _ ?_
              try clear hK25 K25
              refine SX.seq_k fun K26 hK26 => ?_
              refine SX.cond_k fun X27 Y27 hX27 hY27 => ?_
              simp (maxSteps:=1000000)(dsimp:=false)(disch:=omega) only [go_sem, Φa, hP, h7_26, h7_4, h7_8, h7_14, h7_15, h7_16, h7_20, h7_21, h7_22, condVC]
              refine ⟨fun hc27 => hX27 ?_, fun hc27 => hY27 ?_⟩
              · clear hX27 hY27 X27 Y27
                refine SX.skip ?_
                try simp only [andThen_normal, andThen_ret, andThen_exit, inBlk_normal, inBlk_ret, inBlk_exit, Nat.reduceEqDiff, if_true, if_false, ↓reduceIte]
                refine hK26 _ _ ?_
                try clear hK26 K26
                refine SX.seq_k fun K28 hK28 => ?_
                refine SX.block ?_
                refine SX.seq_k fun K29 hK29 => ?_
                refine SX.region_d [some 28, some 9] rfl (fun ops hops => ?_)
                unfold Dsts at hops
                simp (maxSteps:=1000000)(dsimp:=false)(disch:=omega) only [go_sem, Φa, hP, h7_26, h7_4, h7_8, h7_14, h7_15, h7_16, h7_20, h7_21, h7_22, hops]
                refine hK29 _ _ ?_
                try clear hK29 K29
                refine SX.seq_k fun K30 hK30 => ?_
                have hk8 : k < 8 := by omega
                have hmin : min k 8 = k := by omega
                refine SX.region_d [some 29, some 30, some 31, some 32, some 33] rfl (fun ops hops => ?_)
                unfold Dsts at hops
                simp (maxSteps:=1000000)(dsimp:=false)(disch:=omega) only [go_sem, Φa, hP, h7_26, h7_4, h7_8, h7_14, h7_15, h7_16, h7_20, h7_21, h7_22, hops, hmin, bit_test hbb hk8]
                repeat' ((first | refine And.intro (by omega) ?_ | fail); try (with_reducible refine stI ?_); try simp (maxSteps:=1000000)(dsimp:=false)(disch:=omega) only [go_sem, Φa, hP, h7_26, h7_4, h7_8, h7_14, h7_15, h7_16, h7_20, h7_21, h7_22, hops, hmin, bit_test hbb hk8])
                refine hK30 _ _ ?_
                try clear hK30 K30
                refine SX.cond_k fun X31 Y31 hX31 hY31 => ?_
                simp (maxSteps:=1000000)(dsimp:=false)(disch:=omega) only [go_sem, Φa, hP, h7_26, h7_4, h7_8, h7_14, h7_15, h7_16, h7_20, h7_21, h7_22, condVC]
                refine ⟨fun hc33 => hX31 ?_, fun hc33 => hY31 ?_⟩
                · clear hX31 hY31 X31 Y31
                  refine SX.region_d [some 34] rfl (fun ops hops => ?_)
                  unfold Dsts at hops
                  simp (maxSteps:=1000000)(dsimp:=false)(disch:=omega) only [go_sem, Φa, hP, h7_26, h7_4, h7_8, h7_14, h7_15, h7_16, h7_20, h7_21, h7_22, hops]
                  refine SCall.mono (WriteByte_spec hP hp3 hrow3 (by simp only [List.length_append, rowL_len, List.length_map, List.length_range, List.length_take]; omega)) ?_
                  rintro v_ L_ ⟨rfl, vb', sb', rfl, hrow'⟩
                  try with_reducible refine stI ?_
                  try simp (maxSteps:=1000000)(dsimp:=false)(disch:=omega) only [go_sem, Φa, hP, h7_26, h7_4, h7_8, h7_14, h7_15, h7_16, h7_20, h7_21, h7_22, hops]
                  refine hK28 _ _ ?_
                  try clear hK28 K28
                  refine SX.live [4, 8, 14, 15, 16, 20, 21, 22, 26] (fun T8 hT8 => ?_)
                  simp only [forall_mem_cons', forall_mem_nil', go_sem, Φa, hP, h7_26, h7_4, h7_8, h7_14, h7_15, h7_16, h7_20, h7_21, h7_22] at hT8
                  obtain ⟨h8_4, h8_8, h8_14, h8_15, h8_16, h8_20, h8_21, h8_22, h8_26⟩ := hT8
                  clear h7_26 h7_4 h7_8 h7_14 h7_15 h7_16 h7_20 h7_21 h7_22 T7
                  refine SX.region_d [some 36, some 26] rfl (fun ops hops => ?_)
                  unfold Dsts at hops
                  simp (maxSteps:=1000000)(dsimp:=false)(disch:=omega) only [go_sem, Φa, hP, h8_4, h8_8, h8_14, h8_15, h8_16, h8_20, h8_21, h8_22, h8_26, hops]
                  repeat' ((first | refine And.intro (by omega) ?_ | fail); try (with_reducible refine stI ?_); try simp (maxSteps:=1000000)(dsimp:=false)(disch:=omega) only [go_sem, Φa, hP, h8_4, h8_8, h8_14, h8_15, h8_16, h8_20, h8_21, h8_22, h8_26, hops])
                  refine hK24 (k + 1, selfP bb, vb', sb') _ (BD bb (selfP bb) vb' :: sb' :: some (b0, .cells (f.cells (.slice A f.rows.length c)).toArray 41 (0, 0)) :: []) _ (by first | exact Less.refl _ | exact Less.drop _ _ | exact Less.drops (Less.drop _ _) | exact Less.drops (Less.drops (Less.drop _ _)) | exact Less.drops (Less.drops (Less.drops (Less.drop _ _))) | exact Less.drops (Less.drops (Less.drops (Less.drops (Less.drop _ _))))) ?_ ?_
                  · try dsimp only
                    refine ⟨?_, ?_, ?_, ?_, ?_, ?_, ?_, ?_, ?_, ?_, ?_⟩
                    · simp (maxSteps:=1000000)(dsimp:=false)(disch:=omega) only [go_sem, Φa, hP, h8_4, h8_8, h8_14, h8_15, h8_16, h8_20, h8_21, h8_22, h8_26]
                      first | done | rfl | skip
                    · simp (maxSteps:=1000000)(dsimp:=false)(disch:=omega) only [go_sem, Φa, hP, h8_4, h8_8, h8_14, h8_15, h8_16, h8_20, h8_21, h8_22, h8_26]
                    · simp (maxSteps:=1000000)(dsimp:=false)(disch:=omega) only [go_sem, Φa, hP, h8_4, h8_8, h8_14, h8_15, h8_16, h8_20, h8_21, h8_22, h8_26]
                    · simp (maxSteps:=1000000)(dsimp:=false)(disch:=omega) only [go_sem, Φa, hP, h8_4, h8_8, h8_14, h8_15, h8_16, h8_20, h8_21, h8_22, h8_26]
                    · simp (maxSteps:=1000000)(dsimp:=false)(disch:=omega) only [go_sem, Φa, hP, h8_4, h8_8, h8_14, h8_15, h8_16, h8_20, h8_21, h8_22, h8_26]
                    · simp (maxSteps:=1000000)(dsimp:=false)(disch:=omega) only [go_sem, Φa, hP, h8_4, h8_8, h8_14, h8_15, h8_16, h8_20, h8_21, h8_22, h8_26]
                    · simp (maxSteps:=1000000)(dsimp:=false)(disch:=omega) only [go_sem, Φa, hP, h8_4, h8_8, h8_14, h8_15, h8_16, h8_20, h8_21, h8_22, h8_26]
                    · simp (maxSteps:=1000000)(dsimp:=false)(disch:=omega) only [go_sem, Φa, hP, h8_4, h8_8, h8_14, h8_15, h8_16, h8_20, h8_21, h8_22, h8_26]
                    · simp (maxSteps:=1000000)(dsimp:=false)(disch:=omega) only [go_sem, Φa, hP, h8_4, h8_8, h8_14, h8_15, h8_16, h8_20, h8_21, h8_22, h8_26]
                    · rfl
                    · refine ⟨by omega, .inr rfl, ?_⟩
                      rw [range_bit, ← List.append_assoc, show bitL ((f.rows.getD i []).getD j 0) k = 35 from if_pos (by simpa using hc33)]
                      exact hrow'
                  · (try dsimp only); omega
                · clear hX31 hY31 X31 Y31
                  refine SX.region_d [some 35] rfl (fun ops hops => ?_)
                  unfold Dsts at hops
                  simp (maxSteps:=1000000)(dsimp:=false)(disch:=omega) only [go_sem, Φa, hP, h7_26, h7_4, h7_8, h7_14, h7_15, h7_16, h7_20, h7_21, h7_22, hops]
                  refine SCall.mono (WriteByte_spec hP hp3 hrow3 (by simp only [List.length_append, rowL_len, List.length_map, List.length_range, List.length_take]; omega)) ?_
                  rintro v_ L_ ⟨rfl, vb', sb', rfl, hrow'⟩
                  try with_reducible refine stI ?_
                  try simp (maxSteps:=1000000)(dsimp:=false)(disch:=omega) only [go_sem, Φa, hP, h7_26, h7_4, h7_8, h7_14, h7_15, h7_16, h7_20, h7_21, h7_22, hops]
                  refine hK28 _ _ ?_
                  try clear hK28 K28
                  refine SX.live [4, 8, 14, 15, 16, 20, 21, 22, 26] (fun T9 hT9 => ?_)
                  simp only [forall_mem_cons', forall_mem_nil', go_sem, Φa, hP, h7_26, h7_4, h7_8, h7_14, h7_15, h7_16, h7_20, h7_21, h7_22] at hT9
                  obtain ⟨h9_4, h9_8, h9_14, h9_15, h9_16, h9_20, h9_21, h9_22, h9_26⟩ := hT9
                  clear h7_26 h7_4 h7_8 h7_14 h7_15 h7_16 h7_20 h7_21 h7_22 T7
                  refine SX.region_d [some 36, some 26] rfl (fun ops hops => ?_)
                  unfold Dsts at hops
                  simp (maxSteps:=1000000)(dsimp:=false)(disch:=omega) only [go_sem, Φa, hP, h9_4, h9_8, h9_14, h9_15, h9_16, h9_20, h9_21, h9_22, h9_26, hops]
                  repeat' ((first | refine And.intro (by omega) ?_ | fail); try (with_reducible refine stI ?_); try simp (maxSteps:=1000000)(dsimp:=false)(disch:=omega) only [go_sem, Φa, hP, h9_4, h9_8, h9_14, h9_15, h9_16, h9_20, h9_21, h9_22, h9_26, hops])
                  refine hK24 (k + 1, selfP bb, vb', sb') _ (BD bb (selfP bb) vb' :: sb' :: some (b0, .cells (f.cells (.slice A f.rows.length c)).toArray 41 (0, 0)) :: []) _ (by first | exact Less.refl _ | exact Less.drop _ _ | exact Less.drops (Less.drop _ _) | exact Less.drops (Less.drops (Less.drop _ _)) | exact Less.drops (Less.drops (Less.drops (Less.drop _ _))) | exact Less.drops (Less.drops (Less.drops (Less.drops (Less.drop _ _))))) ?_ ?_
                  · try dsimp only
                    refine ⟨?_, ?_, ?_, ?_, ?_, ?_, ?_, ?_, ?_, ?_, ?_⟩
                    · simp (maxSteps:=1000000)(dsimp:=false)(disch:=omega) only [go_sem, Φa, hP, h9_4, h9_8, h9_14, h9_15, h9_16, h9_20, h9_21, h9_22, h9_26]
                      first | done | rfl | skip
                    · simp (maxSteps:=1000000)(dsimp:=false)(disch:=omega) only [go_sem, Φa, hP, h9_4, h9_8, h9_14, h9_15, h9_16, h9_20, h9_21, h9_22, h9_26]
                    · simp (maxSteps:=1000000)(dsimp:=false)(disch:=omega) only [go_sem, Φa, hP, h9_4, h9_8, h9_14, h9_15, h9_16, h9_20, h9_21, h9_22, h9_26]
                    · simp (maxSteps:=1000000)(dsimp:=false)(disch:=omega) only [go_sem, Φa, hP, h9_4, h9_8, h9_14, h9_15, h9_16, h9_20, h9_21, h9_22, h9_26]
                    · simp (maxSteps:=1000000)(dsimp:=false)(disch:=omega) only [go_sem, Φa, hP, h9_4, h9_8, h9_14, h9_15, h9_16, h9_20, h9_21, h9_22, h9_26]
                    · simp (maxSteps:=1000000)(dsimp:=false)(disch:=omega) only [go_sem, Φa, hP, h9_4, h9_8, h9_14, h9_15, h9_16, h9_20, h9_21, h9_22, h9_26]
                    · simp (maxSteps:=1000000)(dsimp:=false)(disch:=omega) only [go_sem, Φa, hP, h9_4, h9_8, h9_14, h9_15, h9_16, h9_20, h9_21, h9_22, h9_26]
                    · simp (maxSteps:=1000000)(dsimp:=false)(disch:=omega) only [go_sem, Φa, hP, h9_4, h9_8, h9_14, h9_15, h9_16, h9_20, h9_21, h9_22, h9_26]
                    · simp (maxSteps:=1000000)(dsimp:=false)(disch:=omega) only [go_sem, Φa, hP, h9_4, h9_8, h9_14, h9_15, h9_16, h9_20, h9_21, h9_22, h9_26]
                    · rfl
                    · refine ⟨by omega, .inr rfl, ?_⟩
                      rw [range_bit, ← List.append_assoc, show bitL ((f.rows.getD i []).getD j 0) k = 46 from if_neg (by simpa using hc33)]
                      exact hrow'
                  · (try dsimp only); omega
              · clear hX27 hY27 X27 Y27
                refine SX.exit ?_
                try simp only [andThen_normal, andThen_ret, andThen_exit, inBlk_normal, inBlk_ret, inBlk_exit, Nat.reduceEqDiff, if_true, if_false, ↓reduceIte]
                refine hK21 _ _ ?_
                try clear hK21 K21
                refine SX.region_d [some 37, some 22] rfl (fun ops hops => ?_)
                unfold Dsts at hops
                simp (maxSteps:=1000000)(dsimp:=false)(disch:=omega) only [go_sem, Φa, hP, h7_26, h7_4, h7_8, h7_14, h7_15, h7_16, h7_20, h7_21, h7_22, hops]
                repeat' ((first | refine And.intro (by omega) ?_ | fail); try (with_reducible refine stI ?_); try simp (maxSteps:=1000000)(dsimp:=false)(disch:=omega) only [go_sem, Φa, hP, h7_26, h7_4, h7_8, h7_14, h7_15, h7_16, h7_20, h7_21, h7_22, hops])
                refine hK17 (j + 1, p3, vb3, sb3) _ (BD bb p3 vb3 :: sb3 :: some (b0, .cells (f.cells (.slice A f.rows.length c)).toArray 41 (0, 0)) :: []) _ (by first | exact Less.refl _ | exact Less.drop _ _ | exact Less.drops (Less.drop _ _) | exact Less.drops (Less.drops (Less.drop _ _)) | exact Less.drops (Less.drops (Less.drops (Less.drop _ _))) | exact Less.drops (Less.drops (Less.drops (Less.drops (Less.drop _ _))))) ?_ ?_
                · try dsimp only
                  refine ⟨?_, ?_, ?_, ?_, ?_, ?_, ?_, ?_, ?_⟩
                  · simp (maxSteps:=1000000)(dsimp:=false)(disch:=omega) only [go_sem, Φa, hP, h7_26, h7_4, h7_8, h7_14, h7_15, h7_16, h7_20, h7_21, h7_22]
                    first | done | rfl | skip
                  · simp (maxSteps:=1000000)(dsimp:=false)(disch:=omega) only [go_sem, Φa, hP, h7_26, h7_4, h7_8, h7_14, h7_15, h7_16, h7_20, h7_21, h7_22]
                  · simp (maxSteps:=1000000)(dsimp:=false)(disch:=omega) only [go_sem, Φa, hP, h7_26, h7_4, h7_8, h7_14, h7_15, h7_16, h7_20, h7_21, h7_22]
                  · simp (maxSteps:=1000000)(dsimp:=false)(disch:=omega) only [go_sem, Φa, hP, h7_26, h7_4, h7_8, h7_14, h7_15, h7_16, h7_20, h7_21, h7_22]
                  · simp (maxSteps:=1000000)(dsimp:=false)(disch:=omega) only [go_sem, Φa, hP, h7_26, h7_4, h7_8, h7_14, h7_15, h7_16, h7_20, h7_21, h7_22]
                  · simp (maxSteps:=1000000)(dsimp:=false)(disch:=omega) only [go_sem, Φa, hP, h7_26, h7_4, h7_8, h7_14, h7_15, h7_16, h7_20, h7_21, h7_22]
                  · simp (maxSteps:=1000000)(dsimp:=false)(disch:=omega) only [go_sem, Φa, hP, h7_26, h7_4, h7_8, h7_14, h7_15, h7_16, h7_20, h7_21, h7_22]
                  · rfl
                  · refine ⟨by omega, hp3, ?_⟩
                    obtain rfl : k = 8 := by omega
                    rw [rowL_take hjl, ← List.append_assoc]
                    exact hrow3
                · (try dsimp only); omega
          · clear hX20 hY20 X20 Y20
            refine SX.exit ?_
            try simp only [andThen_normal, andThen_ret, andThen_exit, inBlk_normal, inBlk_ret, inBlk_exit, Nat.reduceEqDiff, if_true, if_false, ↓reduceIte]
            refine hK15 _ _ ?_
            try clear hK15 K15
            refine SX.region_d [some 38] rfl (fun ops hops => ?_)
            unfold Dsts at hops
            simp (maxSteps:=1000000)(dsimp:=false)(disch:=omega) only [go_sem, Φa, hP, h5_22, h5_4, h5_14, h5_15, h5_16, h5_20, h5_21, hops]
            refine SCall.mono (WriteByte_spec hP hp2 hrow2 (by simp only [List.length_append, rowL_len, List.length_map, List.length_range, List.length_take]; omega)) ?_
            rintro v_ L_ ⟨rfl, vb', sb', rfl, hrow'⟩
            try with_reducible refine stI ?_
            try simp (maxSteps:=1000000)(dsimp:=false)(disch:=omega) only [go_sem, Φa, hP, h5_22, h5_4, h5_14, h5_15, h5_16, h5_20, h5_21, hops]
            refine hK13 _ _ ?_
            try clear hK13 K13
            refine SX.region_d [some 39, some 16] rfl (fun ops hops => ?_)
            unfold Dsts at hops
            simp (maxSteps:=1000000)(dsimp:=false)(disch:=omega) only [go_sem, Φa, hP, h5_22, h5_4, h5_14, h5_15, h5_16, h5_20, h5_21, hops]
            repeat' ((first | refine And.intro (by omega) ?_ | fail); try (with_reducible refine stI ?_); try simp (maxSteps:=1000000)(dsimp:=false)(disch:=omega) only [go_sem, Φa, hP, h5_22, h5_4, h5_14, h5_15, h5_16, h5_20, h5_21, hops])
            refine hK9 (i + 1, selfP bb, vb', sb') _ (BD bb (selfP bb) vb' :: sb' :: some (b0, .cells (f.cells (.slice A f.rows.length c)).toArray 41 (0, 0)) :: []) _ (by first | exact Less.refl _ | exact Less.drop _ _ | exact Less.drops (Less.drop _ _) | exact Less.drops (Less.drops (Less.drop _ _)) | exact Less.drops (Less.drops (Less.drops (Less.drop _ _))) | exact Less.drops (Less.drops (Less.drops (Less.drops (Less.drop _ _))))) ?_ ?_
            · try dsimp only
              refine ⟨?_, ?_, ?_, ?_, ?_, ?_⟩
              · simp (maxSteps:=1000000)(dsimp:=false)(disch:=omega) only [go_sem, Φa, hP, h5_22, h5_4, h5_14, h5_15, h5_16, h5_20, h5_21]
                first | done | rfl | skip
              · simp (maxSteps:=1000000)(dsimp:=false)(disch:=omega) only [go_sem, Φa, hP, h5_22, h5_4, h5_14, h5_15, h5_16, h5_20, h5_21]
              · simp (maxSteps:=1000000)(dsimp:=false)(disch:=omega) only [go_sem, Φa, hP, h5_22, h5_4, h5_14, h5_15, h5_16, h5_20, h5_21]
              · simp (maxSteps:=1000000)(dsimp:=false)(disch:=omega) only [go_sem, Φa, hP, h5_22, h5_4, h5_14, h5_15, h5_16, h5_20, h5_21]
              · rfl
              · refine ⟨by omega, .inr rfl, ?_⟩
                rw [rowsL_take hil]
                obtain rfl : j = (f.rows.getD i []).length := by omega
                rw [List.take_of_length_le (Nat.le_refl _)] at hrow'
                exact hrow'
            · (try dsimp only); omega
      · clear hX12 hY12 X12 Y12
        refine SX.exit ?_
        try simp only [andThen_normal, andThen_ret, andThen_exit, inBlk_normal, inBlk_ret, inBlk_exit, Nat.reduceEqDiff, if_true, if_false, ↓reduceIte]
        refine hK7 _ _ ?_
        try clear hK7 K7
        refine SX.seq_k fun K32 hK32 => ?_
        refine SX.region_d [some 40, some 2, some 3] rfl (fun ops hops => ?_)
        unfold Dsts at hops
        simp (maxSteps:=1000000)(dsimp:=false)(disch:=omega) only [go_sem, Φa, hP, h3_16, h3_4, h3_14, h3_15, hops]
        obtain rfl : i = f.rows.length := by omega
        rw [List.take_length] at hrow
        refine SCall.mono (String_spec hP ho hp hrow (rowsL_byte _)) ?_
        rintro v_ L_ ⟨hv_, hL_⟩
        rw [hv_, hL_]
        clear hv_ hL_ v_ L_
        try with_reducible refine stI ?_
        try simp (maxSteps:=1000000)(dsimp:=false)(disch:=omega) only [go_sem, Φa, hP, h3_16, h3_4, h3_14, h3_15, hops]
        refine hK32 _ _ ?_
        try clear hK32 K32
        refine SX.ret ?_
        simp only [andThen_normal, andThen_ret, andThen_exit, inBlk_normal, inBlk_ret, inBlk_exit, Nat.reduceEqDiff, if_true, if_false, ↓reduceIte, retQ_ret]
        try simp only [res0, res1, res2, res3, stK_e, go_sem, Φa, hP, h3_16, h3_4, h3_14, h3_15]
        refine ⟨_, _, Less.refl _, rfl, ?_, rfl⟩
        unfold showS
        rw [if_pos hmt]

end Go.Proofs.YtpakphgeichopaaDoor
set_option linter.unusedVariables false
set_option linter.unusedSimpArgs false
namespace Go.Proofs.YtpakphgeichopaaDoor
open Go.RowKit Go.SX Go.Proofs

end Go.Proofs.YtpakphgeichopaaDoor
set_option linter.unusedVariables false
set_option linter.unusedSimpArgs false
namespace Go.Proofs.YtpakphgeichopaaDoor
open Go.RowKit Go.SX Go.Proofs
theorem Show_spec {Γ : Ctx} (hP : Γ.P = Tryd.prog) {L : Hp} {v : Value} {f : Fm} (hr : SlR (Cell Γ L) v f.rows) (hm : cnt f.rows ≤ 9000000000000000000) (hrl : f.rows.length ≤ 9000000000000000000) (hby : ∀ i, i < f.rows.length → ∀ j, j < (f.rows.getD i []).length → 0 ≤ (f.rows.getD i []).getD j 0 ∧ (f.rows.getD i []).getD j 0 ≤ 255) :
    SCall Γ 18 #[(.agg (f.cells v).toArray)] L (fun v L' => v = .tuple #[.string (showS f).1, .int .i64 (showS f).2] ∧ L' = L) :=
  SCall.lift fun w hi => ShowB_spec (Γ := ⟨Γ.P, w, []⟩) (L := []) hP rfl (SlR.mono (fun a v h => Cell.lift hi h) hr) hm hrl hby

end Go.Proofs.YtpakphgeichopaaDoor
set_option linter.unusedVariables false
set_option linter.unusedSimpArgs false
namespace Go.Proofs.YtpakphgeichopaaDoor
open Go.RowKit Go.SX Go.Proofs

theorem less_mid1 {a b : Slot} {L : Hp} : Less (a :: b :: L) (a :: L) := Less.sublist (.cons_cons _ (.cons _ (List.Sublist.refl _)))
theorem zerosV_flat {α : Type} (f : α → List Value) (x : α) (n : Nat) : zerosV (f x) n = (List.replicate n x).flatMap f := by
  unfold zerosV
  induction n with
  | zero => rfl
  | succ n ih => rw [List.replicate_succ, List.flatten_cons, ih, List.replicate_succ, List.flatMap_cons]
theorem Sl.take {α : Type} {sz : Nat} {R : (Addr → Value → Prop) → Addr → α → Prop} {C : Addr → Value → Prop} {A : Option Addr} {n c k : Nat} {xs : List α} (h : Sl sz R C (.slice A n c) xs) (hk : k ≤ n) : Sl sz R C (.slice A k c) (xs.take k) := by
  obtain ⟨A', c', he, hc, hA⟩ := h
  injection he with e1 e2 e3
  subst e1 e2 e3
  refine ⟨A, c, by rw [List.length_take, Nat.min_eq_left hk], by rw [List.length_take]; omega, fun j x hj => ?_⟩
  rw [List.getElem?_take] at hj
  split at hj
  · exact hA j x hj
  · cases hj
theorem cutA0 (b : Option Addr) (sz m : Nat) : cutA b sz m 0 = b := by
  unfold cutA
  split
  · rfl
  · cases b <;> simp [Addr.add_zero']
/-! A trace in which nothing is asked. -/
def pos (p : Nat) : Ras := ((p / 14 : Nat), (p % 14 : Nat), false, 0)
theorem pos_ok {p : Nat} (h : p < 3668) : okR (pos p) = true := by
  show okB ((p / 14 : Nat) : Int) ((p % 14 : Nat) : Int) 0 = true
  exact okB_of (by omega)
theorem idle_step {l c : Int} (h : okB l c 0 = true) : rasN (l, c, false, 0) default = if c + 1 = 14 then (if l + 1 = 262 then 0 else l + 1, 0, false, 0) else (l, c + 1, false, 0) := by
  show step l c false 0 0 0 false false 0 = _
  unfold step
  rw [if_pos ⟨h, by decide⟩]
  simp [tB, wB, onB]
theorem pos_step {p : Nat} (h : p < 3668) : rasN (pos p) default = if p + 1 = 3668 then pos 0 else pos (p + 1) := by
  have hs := idle_step (l := ((p / 14 : Nat) : Int)) (c := ((p % 14 : Nat) : Int)) (pos_ok h)
  have hp : rasN (pos p) default = _ := hs
  rw [hp]
  by_cases h1 : p % 14 = 13
  · rw [if_pos (by omega)]
    by_cases h2 : p + 1 = 3668
    · rw [if_pos h2, if_pos (by omega)]; rfl
    · rw [if_neg h2, if_neg (by omega)]
      have e1 : (p + 1) / 14 = p / 14 + 1 := by omega
      have e2 : (p + 1) % 14 = 0 := by omega
      unfold pos
      rw [e1, e2]; rfl
  · rw [if_neg (by omega), if_neg (by omega)]
    have e1 : (p + 1) / 14 = p / 14 := by omega
    have e2 : (p + 1) % 14 = p % 14 + 1 := by omega
    unfold pos
    rw [e1, e2]; simp
theorem pos_atZ {p : Nat} : atZ (pos p) = decide (p = 0) := by
  unfold atZ pos
  simp only
  rw [Bool.eq_iff_iff]
  simp only [Bool.and_eq_true, decide_eq_true_eq]
  omega
theorem rep_getD_default {α : Type} [Inhabited α] (n k : Nat) : (List.replicate n (default : α)).getD k default = default := by
  rw [List.getD_eq_getElem?_getD, List.getElem?_replicate]
  split <;> rfl
theorem took_none {p : Nat} {rows : List (List Int)} : tookN (pos p) default rows = rows := by
  unfold tookN
  rw [if_neg (by simp [takesN, tB, wB, pos])]
theorem still_at {n : Nat} : ∀ k, k + 1 < 3668 → stAt (pos 0) (List.replicate n default) (k + 1) = ⟨pos (k + 1), some (0, List.replicate 128 []), []⟩
  | 0, _ => by
    rw [stAt, rep_getD_default]
    show stF ⟨pos 0, none, []⟩ _ _ = _
    have hs := pos_step (p := 0) (by decide)
    rw [if_neg (by decide)] at hs
    rw [stF_go (a := 0) (rows := List.replicate 128 []) rfl (by rw [hs, pos_atZ]; rfl), took_none, hs]
  | k + 1, hk => by
    have hs := pos_step (p := k + 1) (by omega)
    rw [if_neg (by omega)] at hs
    rw [stAt, rep_getD_default, still_at k (by omega), stF_go (a := 0) (rows := List.replicate 128 []) (by unfold begunN; rw [if_neg (by rw [pos_atZ]; simp)]) (by rw [hs, pos_atZ]; simp), took_none, hs]
theorem zChk {n : Nat} (h : n ≤ 4194304) : chkL (List.replicate n default) = 0 := chkL_good (by rw [List.length_replicate]; omega) fun j hj => by rw [rep_getD_default]; rfl
theorem ofP_short : ofP (pos 0) (List.replicate 3667 default) = ([], 0) := by
  rw [ofP_ok (pos_ok (by decide)) (zChk (by decide)), List.length_replicate, still_at 3666 (by decide)]
theorem ofP_one : ofP (pos 0) (List.replicate 3668 default) = ([⟨0, List.replicate 128 [], true⟩], 0) := by
  rw [ofP_ok (pos_ok (by decide)) (zChk (by decide)), List.length_replicate, stAt, rep_getD_default, still_at 3666 (by decide)]
  have hs := pos_step (p := 3667) (by decide)
  rw [if_pos rfl] at hs
  rw [stF_fin (a := 0) (rows := List.replicate 128 []) (by unfold begunN; rw [if_neg (by rw [pos_atZ]; simp)]) (by rw [hs, pos_atZ]; rfl), took_none]
  simp only [List.nil_append, shortB, cnt_rep]
  rfl
/-! The frame of one byte. -/
def oneF : Fm := ⟨0, [129] :: List.replicate 127 [], true⟩
theorem oneF_sl {Γ : Ctx} {L : Hp} {g h c : Nat} (hg : some (g, Obj.cells ((List.replicate 128 (Value.slice none 0 0)).set 0 (.slice (some ⟨h, 0, none⟩) 1 c)).toArray 50 (0, 0)) ∈ L) (hh : some (h, Obj.cells [Value.int .u8 129].toArray 5 (0, 0)) ∈ L) (hc : 1 ≤ c) : SlR (Cell Γ L) (.slice (some ⟨g, 0, none⟩) 128 128) oneF.rows := by
  obtain ⟨i, hi⟩ := List.mem_iff_getElem?.1 hg
  obtain ⟨i2, hi2⟩ := List.mem_iff_getElem?.1 hh
  have hl128 : oneF.rows.length = 128 := by rw [oneF]; simp only [List.length_cons, List.length_replicate]
  refine ⟨_, 128, by rw [hl128], by rw [hl128]; exact Nat.le_refl _, fun j r hj => ⟨_, rfl, ?_⟩⟩
  have hjl : j < 128 := by have := (List.getElem?_eq_some_iff.1 hj).1; omega
  rw [Nat.mul_one, Addr.add_lit, Nat.zero_add]
  cases j with
  | zero =>
    simp only [oneF, List.getElem?_cons_zero, Option.some.injEq] at hj
    subst hj
    exact ⟨_, Cell.at i hi rfl, SlI.own (xs := [129]) i2 hi2 rfl hc⟩
  | succ j =>
    simp only [oneF, List.getElem?_cons_succ] at hj
    rw [List.getElem?_replicate] at hj
    split at hj
    · cases hj
      refine ⟨.slice none 0 0, Cell.at i hi ?_, ⟨none, 0, rfl, Nat.le_refl _, fun j x hj => by simp at hj⟩⟩
      rw [List.getElem?_set, if_neg (by omega), List.getElem?_replicate, if_pos hjl]
    · cases hj
theorem oneF_may : mayF oneF = true := by decide +kernel
theorem oneF_len : (txt (rowsL oneF.rows)).size = 136 := by decide +kernel
theorem oneF_head : (txt (rowsL oneF.rows)).extract 0 9 = ⟨#[35, 46, 46, 46, 46, 46, 46, 35, 10]⟩ := by decide +kernel
theorem oneF_show : showS oneF = (txt (rowsL oneF.rows), 0) := if_pos oneF_may
set_option maxHeartbeats 1000000 in
set_option maxRecDepth 100000 in
theorem empty_spec {Γ : Ctx} (hP : Γ.P = Tryd.prog) {L : Hp} {h n c : Nat} :
    SCall Γ 26 #[(.slice (some ⟨h, 0, none⟩) n c)] L (fun v L' => ∃ g, v = .agg #[.int .i64 0, .slice (some ⟨g, 0, none⟩) 128 128, .bool true] ∧ L' = some (g, .cells ((List.replicate 128 (.slice none 0 0)).set 0 (.slice (some ⟨h, 0, none⟩) n c)).toArray 50 (0, 0)) :: L) := by
  refine SCall.enter (n := 11) (resX Γ [.cell 2 41]) (hP ▸ Tryd.func26) rfl rfl (by simp) (resX_ok rfl) ?_
  refine SX.seq_k fun K1 hK1 => ?_
  refine SX.region_d [some 2] rfl (fun ops hops => ?_)
  unfold Dsts at hops
  simp (maxSteps := 1000000) (dsimp := false) (disch := omega) only [go_sem, ia_someH, hP, hops]
  intro b2
  try with_reducible refine stI ?_
  try simp (maxSteps := 1000000) (dsimp := false) (disch := omega) only [go_sem, ia_someH, hP, hops]
  refine hK1 _ _ ?_
  try clear hK1 K1
  refine SX.seq_k fun K2 hK2 => ?_
  refine SX.region_d [some 4, some 5, some 3, none] rfl (fun ops hops => ?_)
  unfold Dsts at hops
  simp (maxSteps := 1000000) (dsimp := false) (disch := omega) only [go_sem, ia_someH, hP, hops]
  intro g
  try with_reducible refine stI ?_
  try simp (maxSteps := 1000000) (dsimp := false) (disch := omega) only [go_sem, ia_someH, hP, hops]
  rw [zerosV_one]
  try with_reducible refine stI ?_
  try simp (maxSteps := 1000000) (dsimp := false) (disch := omega) only [go_sem, ia_someH, hP, hops]
  intro b3
  try with_reducible refine stI ?_
  try simp (maxSteps := 1000000) (dsimp := false) (disch := omega) only [go_sem, ia_someH, hP, hops]
  refine ⟨0, _, _, _, rfl, (by simp), .inr (by decide), ?_⟩
  try with_reducible refine stI ?_
  try simp (maxSteps := 1000000) (dsimp := false) (disch := omega) only [go_sem, ia_someH, hP, hops]
  refine hK2 _ _ ?_
  try clear hK2 K2
  refine SX.seq_k fun K3 hK3 => ?_
  refine SX.region_d [some 6, some 7, some 8, some 9, none] rfl (fun ops hops => ?_)
  unfold Dsts at hops
  simp (maxSteps := 1000000) (dsimp := false) (disch := omega) only [go_sem, ia_someH, hP, hops]
  refine ⟨_, Cell.at 0 rfl rfl, ?_⟩
  try with_reducible refine stI ?_
  try simp (maxSteps := 1000000) (dsimp := false) (disch := omega) only [go_sem, ia_someH, hP, hops]
  refine ⟨1, _, _, _, rfl, (by simp), .inr (by decide), ?_⟩
  try with_reducible refine stI ?_
  try simp (maxSteps := 1000000) (dsimp := false) (disch := omega) only [go_sem, ia_someH, hP, hops]
  refine hK3 _ _ ?_
  try clear hK3 K3
  refine SX.seq_k fun K4 hK4 => ?_
  refine SX.region_d [some 10, none] rfl (fun ops hops => ?_)
  unfold Dsts at hops
  simp (maxSteps := 1000000) (dsimp := false) (disch := omega) only [go_sem, ia_someH, hP, hops]
  refine ⟨_, Cell.at 0 rfl rfl, _, Cell.at 0 rfl rfl, _, Cell.at 0 rfl rfl, ?_⟩
  try with_reducible refine stI ?_
  try simp (maxSteps := 1000000) (dsimp := false) (disch := omega) only [go_sem, ia_someH, hP, hops]
  refine ⟨2, _, _, _, rfl, (by simp), .inr (by decide), ?_⟩
  try with_reducible refine stI ?_
  try simp (maxSteps := 1000000) (dsimp := false) (disch := omega) only [go_sem, ia_someH, hP, hops]
  refine hK4 _ _ ?_
  try clear hK4 K4
  refine SX.ret ?_
  simp only [andThen_normal, andThen_ret, andThen_exit, inBlk_normal, inBlk_ret, inBlk_exit, Nat.reduceEqDiff, if_true, if_false, ↓reduceIte, retQ_ret]
  try simp only [res0, res1, res2, res3, stK_e, resX, resK, oneOr, ld_ptr, loadVC, loadN, List.nil_append, List.cons_append, Nat.reduceAdd, Nat.add_zero, Nat.zero_add, Addr.add_lit, Addr.add_zero', add_addS, T.elA_41, T.lay_41, T.szA_41, T.zr_41, Tryd.underlying41, go_sem, ia_someH, hP]
  exact ⟨_, _, Less.drops (less_mid1), ⟨_, Cell.at 2 rfl rfl, _, Cell.at 2 rfl rfl, _, Cell.at 2 rfl rfl, rfl⟩, g, rfl, rfl⟩

end Go.Proofs.YtpakphgeichopaaDoor
set_option linter.unusedVariables false
set_option linter.unusedSimpArgs false
namespace Go.Proofs.YtpakphgeichopaaDoor
open Go.RowKit Go.SX Go.Proofs
open Go.SX renaming ia_someH → Φa

theorem map_one {α β : Type} {f : α → β} {l : List α} {b : β} (h : l.map f = [b]) : ∃ p, l = [p] ∧ f p = b := by
  match l, h with
  | [p], h => exact ⟨p, rfl, by simpa using h⟩
theorem oneF_by : ∀ i, i < oneF.rows.length → ∀ j, j < (oneF.rows.getD i []).length → 0 ≤ (oneF.rows.getD i []).getD j 0 ∧ (oneF.rows.getD i []).getD j 0 ≤ 255 := by
  intro i hi j hj
  cases i with
  | zero =>
    have : j = 0 := by simp [oneF] at hj; omega
    subst this
    exact ⟨by decide, by decide⟩
  | succ i =>
    exfalso
    have hl : oneF.rows.length = 128 := by rw [oneF]; simp only [List.length_cons, List.length_replicate]
    have h0 : oneF.rows.getD (i + 1) [] = [] := by
      show (List.replicate 127 []).getD i [] = _
      exact rep_getD (by omega)
    rw [h0] at hj
    simp at hj
theorem oneF_cnt : cnt oneF.rows = 1 := by decide +kernel
theorem zSl {Γ : Ctx} {L : Hp} {g : Nat} {Z : List Rc} {n : Nat} (hl : Z.length = n) (hn : n ≤ 9223372036854775807) : SlC (Cell Γ (some (g, .cells (Z.flatMap Rc.cells).toArray 29 (0, 0)) :: L)) (.slice (some ⟨g, 0, none⟩) n n) Z := by
  refine RowL.sl (i := 0) Rc.len (e := 29) (s := some (g, .cells (Z.flatMap Rc.cells).toArray 29 (0, 0))) ?_ rfl
  show Row 29 8 _ Z.length _ _
  rw [hl]
  exact Row.lit (by rw [flat_len Rc.len, hl]) hn
set_option maxHeartbeats 1000000 in
set_option maxRecDepth 100000 in
theorem awake_spec {Γ : Ctx} (hP : Γ.P = Tryd.prog) {L : Hp} (S : SH Γ) :
    SCall Γ 11 #[] L (fun v L' => v = .bool true ∧ L' = L) := by
  refine SCall.enter (n := 72) (res1 0) (hP ▸ Tryd.func11) rfl rfl (by simp) (res1_ok rfl) ?_
  refine SX.seq_k fun K1 hK1 => ?_
  refine SX.region_d [some 0] rfl (fun ops hops => ?_)
  unfold Dsts at hops
  simp (maxSteps:=1000000)(dsimp:=false)(disch:=omega) only [go_sem, Φa, hP, hops]
  refine hK1 _ _ ?_
  try clear hK1 K1
  refine SX.seq_k fun K2 hK2 => ?_
  refine SX.region_d [some 8, some 1] rfl (fun ops hops => ?_)
  unfold Dsts at hops
  simp (maxSteps:=1000000)(dsimp:=false)(disch:=omega) only [go_sem, Φa, hP, hops]
  intro g1
  try with_reducible refine stI ?_
  try simp (maxSteps:=1000000)(dsimp:=false)(disch:=omega) only [go_sem, Φa, hP, hops]
  rw [show zerosV [.int .u8 0, .int .u16 0, .int .u8 0, .bool false, .bool false, .int .u8 0, .bool false, .int .u8 0] 3668 = (List.replicate 3668 (default : Rc)).flatMap Rc.cells from zerosV_flat Rc.cells default 3668]
  try with_reducible refine stI ?_
  try simp (maxSteps:=1000000)(dsimp:=false)(disch:=omega) only [go_sem, Φa, hP, hops]
  refine hK2 _ _ ?_
  try clear hK2 K2
  refine SX.seq_k fun K3 hK3 => ?_
  have hO1 := ofP_one
  have hO2 := ofP_short
  have hZl : (List.replicate 3668 (default : Rc)).length = 3668 := List.length_replicate ..
  rw [show List.replicate 3667 (default : Rc) = (List.replicate 3668 default).take 3667 by rw [List.take_replicate]; rfl] at hO2
  generalize List.replicate 3668 (default : Rc) = Z at hO1 hO2 hZl ⊢
  generalize List.replicate 128 ([] : List Int) = R at hO1
  have hS1 : SlC (Cell Γ (some (g1, .cells (Z.flatMap Rc.cells).toArray 29 (0, 0)) :: L)) (.slice (some ⟨g1, 0, none⟩) 3668 3668) Z := zSl hZl (by decide)
  refine SX.region_d [some 10, some 11, some 12, some 9, some 13, some 14, some 2, some 3] rfl (fun ops hops => ?_)
  unfold Dsts at hops
  simp (maxSteps:=1000000)(dsimp:=false)(disch:=omega) only [go_sem, Φa, hP, hops]
  refine SCall.mono (Of_spec (x := pos 0) (l := Z) hP hS1 (by rw [hZl]; decide) S) ?_
  rintro v_ L_ ⟨vo1, so1, fs1, rfl, rfl, hrow1, hfs1, hmap1⟩
  rw [hO1] at hmap1 ⊢
  obtain ⟨⟨f1, d1⟩, rfl, hp1⟩ := map_one hmap1
  dsimp only at hp1
  subst hp1
  obtain ⟨gA, capA, junkA, rfl, rfl, hcA, _⟩ := RowL.form hrow1 (by simp)
  try with_reducible refine stI ?_
  try simp (maxSteps:=1000000)(dsimp:=false)(disch:=omega) only [go_sem, Φa, hP, hops]
  refine hK3 _ _ ?_
  try clear hK3 K3
  refine SX.live [1, 2, 3] (fun T1 hT1 => ?_)
  simp only [forall_mem_cons', forall_mem_nil', go_sem, Φa, hP] at hT1
  obtain ⟨h1_1, h1_2, h1_3⟩ := hT1
  refine SX.seq_k fun K4 hK4 => ?_
  have hS2 : SlC (Cell Γ (some (gA, .cells ([((⟨0, R, true⟩ : Fm), d1)].flatMap fval ++ junkA).toArray 41 (0, 0)) :: (segs [((⟨0, R, true⟩ : Fm), d1)] ++ (some (g1, .cells (Z.flatMap Rc.cells).toArray 29 (0, 0)) :: L)))) (.slice (some ⟨g1, 0, none⟩) 3667 3668) (Z.take 3667) := Sl.take (SlC.mono (fun a v h => Cell.cons _ (Cell.app _ h)) hS1) (by decide)
  refine SX.region_d [some 16, some 17, some 18, some 19, some 15, some 20, some 21, some 4, some 5] rfl (fun ops hops => ?_)
  unfold Dsts at hops
  simp (maxSteps:=1000000)(dsimp:=false)(disch:=omega) only [go_sem, Φa, hP, h1_1, h1_2, h1_3, hops, cutA0, Nat.sub_zero]
  refine SCall.mono (Of_spec (x := pos 0) (l := Z.take 3667) hP hS2 (by rw [List.length_take, hZl]; decide) S) ?_
  rintro v_ L_ ⟨vo2, so2, fs2, rfl, rfl, hrow2, hfs2, hmap2⟩
  rw [hO2] at hmap2 ⊢
  obtain rfl := List.map_eq_nil_iff.1 hmap2
  obtain ⟨A2, c2, rfl, hc2, _⟩ := Row.form hrow2
  simp only [segs, List.nil_append]
  try with_reducible refine stI ?_
  try simp (maxSteps:=1000000)(dsimp:=false)(disch:=omega) only [go_sem, Φa, hP, h1_1, h1_2, h1_3, hops, cutA0, Nat.sub_zero]
  refine hK4 _ _ ?_
  try clear hK4 K4
  refine SX.live [2, 3, 4, 5] (fun T2 hT2 => ?_)
  simp only [forall_mem_cons', forall_mem_nil', go_sem, Φa, hP, h1_1, h1_2, h1_3] at hT2
  obtain ⟨h2_2, h2_3, h2_4, h2_5⟩ := hT2
  clear h1_1 h1_2 h1_3 T1
  refine SX.seq_k fun K5 hK5 => ?_
  refine SX.region_d [some 23, some 24, some 25, some 22, some 26, some 27, some 6, some 7] rfl (fun ops hops => ?_)
  unfold Dsts at hops
  simp (maxSteps:=1000000)(dsimp:=false)(disch:=omega) only [go_sem, Φa, hP, h2_2, h2_3, h2_4, h2_5, hops]
  intro g4
  try with_reducible refine stI ?_
  try simp (maxSteps:=1000000)(dsimp:=false)(disch:=omega) only [go_sem, Φa, hP, h2_2, h2_3, h2_4, h2_5, hops]
  refine SCall.mono (empty_spec hP) ?_
  rintro v_ L_ ⟨g5, rfl, rfl⟩
  try with_reducible refine stI ?_
  try simp (maxSteps:=1000000)(dsimp:=false)(disch:=omega) only [go_sem, Φa, hP, h2_2, h2_3, h2_4, h2_5, hops]
  refine SCall.mono (Show_spec (f := oneF) hP (oneF_sl (g := g5) (h := g4) (c := 1) (List.mem_cons_self ..) (List.mem_cons_of_mem _ (List.mem_cons_self ..)) (Nat.le_refl _)) (by rw [oneF_cnt]; decide) (by decide +kernel) oneF_by) ?_
  rintro v_ L_ ⟨rfl, rfl⟩
  rw [oneF_show]
  try with_reducible refine stI ?_
  try simp (maxSteps:=1000000)(dsimp:=false)(disch:=omega) only [go_sem, Φa, hP, h2_2, h2_3, h2_4, h2_5, hops]
  refine hK5 _ _ ?_
  try clear hK5 K5
  refine SX.seq_k fun K6 hK6 => ?_
  refine SX.region_xd [some 28, some 29, some 30, some 31, some 32, some 33, some 34, some 35, some 36, some 37, some 38, some 39, some 40, some 41, some 42, some 43, some 44, some 45, some 46, some 47, some 48, some 49, some 50, some 51, some 52, some 53, some 54, some 55, some 56, some 57, some 58, some 59, some 60, some 61, some 62, some 63, some 64, some 65, some 66, some 67, some 68, some 69, some 70, some 71, some 0] rfl (fun ops hops => ?_)
  unfold Dsts at hops
  refine RX.live [2, 3, 4, 5, 6, 7] (fun T3 hT3 => ?_)
  simp only [forall_mem_cons', forall_mem_nil', go_sem, Φa, hP, h2_2, h2_3, h2_4, h2_5] at hT3
  obtain ⟨h3_2, h3_3, h3_4, h3_5, h3_6, h3_7⟩ := hT3
  clear h2_2 h2_3 h2_4 h2_5 T2
  have hs1 := oneF_len
  have hs2 := oneF_head
  refine RX.join 7 (fun (ss : Unit) T L' => T 34 = .bool (true) ∧ T 2 = T3 2 ∧ T 4 = T3 4 ∧ T 5 = T3 5 ∧ T 6 = T3 6 ∧ T 7 = T3 7 ∧ L' = some (g5, .cells ((List.replicate 128 (.slice none 0 0)).set 0 (.slice (some ⟨g4, 0, none⟩) 1 1)).toArray 50 (0, 0)) :: some (g4, .cells [.int .u8 129].toArray 5 (0, 0)) :: so2 :: some (gA, .cells ([((⟨0, R, true⟩ : Fm), d1)].flatMap fval ++ junkA).toArray 41 (0, 0)) :: (segs [((⟨0, R, true⟩ : Fm), d1)] ++ (some (g1, .cells (Z.flatMap Rc.cells).toArray 29 (0, 0)) :: L)) ∧ (True)) (fun K7 hK7 => ?_) ?_
  · simp only [h3_2, h3_4, h3_5, h3_6, h3_7] at hK7
    simp (maxSteps:=1000000)(dsimp:=false)(disch:=omega) only [go_sem, Φa, hP, h3_2, h3_3, h3_4, h3_5, h3_6, h3_7, hops, hs1, hs2]
    repeat' (first | refine iteB (fun hg => ?_) (fun hg => ?_) | refine iteI (fun hg => ?_) (fun hg => ?_) | ((first | refine ⟨_, Cell.at 3 rfl rfl, ?_⟩ | refine And.intro (by omega) ?_ | refine ⟨_, Cell.at 0 rfl rfl, ?_⟩ | refine ⟨_, Cell.at 1 rfl rfl, ?_⟩ | refine ⟨_, Cell.at 2 rfl rfl, ?_⟩ | refine ⟨_, Cell.at 3 rfl rfl, ?_⟩ | refine ⟨_, Cell.at 4 rfl rfl, ?_⟩ | fail); try (with_reducible refine stI ?_); try simp (maxSteps:=1000000)(dsimp:=false)(disch:=omega) only [go_sem, Φa, hP, h3_2, h3_3, h3_4, h3_5, h3_6, h3_7, hops, hs1, hs2]) | fail)
    all_goals
      refine hK7 () _ (some (g5, .cells ((List.replicate 128 (.slice none 0 0)).set 0 (.slice (some ⟨g4, 0, none⟩) 1 1)).toArray 50 (0, 0)) :: some (g4, .cells [.int .u8 129].toArray 5 (0, 0)) :: so2 :: some (gA, .cells ([((⟨0, R, true⟩ : Fm), d1)].flatMap fval ++ junkA).toArray 41 (0, 0)) :: (segs [((⟨0, R, true⟩ : Fm), d1)] ++ (some (g1, .cells (Z.flatMap Rc.cells).toArray 29 (0, 0)) :: L))) _ (by first | exact Less.refl _ | exact Less.drop _ _ | exact Less.drops (Less.drop _ _) | exact Less.drops (Less.drops (Less.drop _ _)) | exact Less.drops (Less.drops (Less.drops (Less.drop _ _))) | exact Less.drops (Less.drops (Less.drops (Less.drops (Less.drop _ _))))) ?_
      try dsimp only
      refine ⟨?_, ?_, ?_, ?_, ?_, ?_, ?_, ?_⟩
      · simp (maxSteps:=1000000)(dsimp:=false)(disch:=omega) only [go_sem, Φa, hP, h3_2, h3_3, h3_4, h3_5, h3_6, h3_7]
        first | done | rfl
      · simp (maxSteps:=1000000)(dsimp:=false)(disch:=omega) only [go_sem, Φa, hP, h3_2, h3_3, h3_4, h3_5, h3_6, h3_7]
      · simp (maxSteps:=1000000)(dsimp:=false)(disch:=omega) only [go_sem, Φa, hP, h3_2, h3_3, h3_4, h3_5, h3_6, h3_7]
      · simp (maxSteps:=1000000)(dsimp:=false)(disch:=omega) only [go_sem, Φa, hP, h3_2, h3_3, h3_4, h3_5, h3_6, h3_7]
      · simp (maxSteps:=1000000)(dsimp:=false)(disch:=omega) only [go_sem, Φa, hP, h3_2, h3_3, h3_4, h3_5, h3_6, h3_7]
      · simp (maxSteps:=1000000)(dsimp:=false)(disch:=omega) only [go_sem, Φa, hP, h3_2, h3_3, h3_4, h3_5, h3_6, h3_7]
      · rfl
      · trivial
  · intro ss T4 L4 hI
    simp only [h3_2, h3_4, h3_5, h3_6, h3_7] at hI 
    obtain ⟨h4_34, h4_2, h4_4, h4_5, h4_6, h4_7, hL4, hinv⟩ := hI
    replace hL4 := hL4.symm
    subst hL4
    clear h3_2 h3_3 h3_4 h3_5 h3_6 h3_7 T3
    refine RX.live [2, 4, 5, 6, 7, 34] (fun T5 hT5 => ?_)
    simp only [forall_mem_cons', forall_mem_nil', go_sem, Φa, hP, h4_34, h4_2, h4_4, h4_5, h4_6, h4_7] at hT5
    obtain ⟨h5_2, h5_4, h5_5, h5_6, h5_7, h5_34⟩ := hT5
    clear h4_34 h4_2 h4_4 h4_5 h4_6 h4_7 T4
    refine RX.join 6 (fun (ss : Unit) T L' => T 40 = .bool (true) ∧ T 2 = T5 2 ∧ T 4 = T5 4 ∧ T 5 = T5 5 ∧ T 6 = T5 6 ∧ T 7 = T5 7 ∧ L' = some (g5, .cells ((List.replicate 128 (.slice none 0 0)).set 0 (.slice (some ⟨g4, 0, none⟩) 1 1)).toArray 50 (0, 0)) :: some (g4, .cells [.int .u8 129].toArray 5 (0, 0)) :: so2 :: some (gA, .cells ([((⟨0, R, true⟩ : Fm), d1)].flatMap fval ++ junkA).toArray 41 (0, 0)) :: (segs [((⟨0, R, true⟩ : Fm), d1)] ++ (some (g1, .cells (Z.flatMap Rc.cells).toArray 29 (0, 0)) :: L)) ∧ (True)) (fun K8 hK8 => ?_) ?_
    · simp only [h5_2, h5_4, h5_5, h5_6, h5_7] at hK8
      simp (maxSteps:=1000000)(dsimp:=false)(disch:=omega) only [go_sem, Φa, hP, h5_2, h5_4, h5_5, h5_6, h5_7, h5_34, hops, hs1, hs2]
      repeat' (first | refine iteB (fun hg => ?_) (fun hg => ?_) | refine iteI (fun hg => ?_) (fun hg => ?_) | ((first | refine ⟨_, Cell.at 3 rfl rfl, ?_⟩ | refine And.intro (by omega) ?_ | refine ⟨_, Cell.at 0 rfl rfl, ?_⟩ | refine ⟨_, Cell.at 1 rfl rfl, ?_⟩ | refine ⟨_, Cell.at 2 rfl rfl, ?_⟩ | refine ⟨_, Cell.at 3 rfl rfl, ?_⟩ | refine ⟨_, Cell.at 4 rfl rfl, ?_⟩ | fail); try (with_reducible refine stI ?_); try simp (maxSteps:=1000000)(dsimp:=false)(disch:=omega) only [go_sem, Φa, hP, h5_2, h5_4, h5_5, h5_6, h5_7, h5_34, hops, hs1, hs2]) | fail)
      all_goals
        refine hK8 () _ (some (g5, .cells ((List.replicate 128 (.slice none 0 0)).set 0 (.slice (some ⟨g4, 0, none⟩) 1 1)).toArray 50 (0, 0)) :: some (g4, .cells [.int .u8 129].toArray 5 (0, 0)) :: so2 :: some (gA, .cells ([((⟨0, R, true⟩ : Fm), d1)].flatMap fval ++ junkA).toArray 41 (0, 0)) :: (segs [((⟨0, R, true⟩ : Fm), d1)] ++ (some (g1, .cells (Z.flatMap Rc.cells).toArray 29 (0, 0)) :: L))) _ (by first | exact Less.refl _ | exact Less.drop _ _ | exact Less.drops (Less.drop _ _) | exact Less.drops (Less.drops (Less.drop _ _)) | exact Less.drops (Less.drops (Less.drops (Less.drop _ _))) | exact Less.drops (Less.drops (Less.drops (Less.drops (Less.drop _ _))))) ?_
        try dsimp only
        refine ⟨?_, ?_, ?_, ?_, ?_, ?_, ?_, ?_⟩
        · simp (maxSteps:=1000000)(dsimp:=false)(disch:=omega) only [go_sem, Φa, hP, h5_2, h5_4, h5_5, h5_6, h5_7, h5_34]
          first | done | rfl
        · simp (maxSteps:=1000000)(dsimp:=false)(disch:=omega) only [go_sem, Φa, hP, h5_2, h5_4, h5_5, h5_6, h5_7, h5_34]
        · simp (maxSteps:=1000000)(dsimp:=false)(disch:=omega) only [go_sem, Φa, hP, h5_2, h5_4, h5_5, h5_6, h5_7, h5_34]
        · simp (maxSteps:=1000000)(dsimp:=false)(disch:=omega) only [go_sem, Φa, hP, h5_2, h5_4, h5_5, h5_6, h5_7, h5_34]
        · simp (maxSteps:=1000000)(dsimp:=false)(disch:=omega) only [go_sem, Φa, hP, h5_2, h5_4, h5_5, h5_6, h5_7, h5_34]
        · simp (maxSteps:=1000000)(dsimp:=false)(disch:=omega) only [go_sem, Φa, hP, h5_2, h5_4, h5_5, h5_6, h5_7, h5_34]
        · rfl
        · trivial
    · intro ss T6 L6 hI
      simp only [h5_2, h5_4, h5_5, h5_6, h5_7] at hI 
      obtain ⟨h6_40, h6_2, h6_4, h6_5, h6_6, h6_7, hL6, hinv⟩ := hI
      replace hL6 := hL6.symm
      subst hL6
      clear h5_2 h5_4 h5_5 h5_6 h5_7 h5_34 T5
      refine RX.live [2, 4, 5, 6, 7, 40] (fun T7 hT7 => ?_)
      simp only [forall_mem_cons', forall_mem_nil', go_sem, Φa, hP, h6_40, h6_2, h6_4, h6_5, h6_6, h6_7] at hT7
      obtain ⟨h7_2, h7_4, h7_5, h7_6, h7_7, h7_40⟩ := hT7
      clear h6_40 h6_2 h6_4 h6_5 h6_6 h6_7 T6
      refine RX.join 8 (fun (ss : Unit) T L' => T 48 = .bool (true) ∧ T 4 = T7 4 ∧ T 5 = T7 5 ∧ T 6 = T7 6 ∧ T 7 = T7 7 ∧ L' = some (g5, .cells ((List.replicate 128 (.slice none 0 0)).set 0 (.slice (some ⟨g4, 0, none⟩) 1 1)).toArray 50 (0, 0)) :: some (g4, .cells [.int .u8 129].toArray 5 (0, 0)) :: so2 :: some (gA, .cells ([((⟨0, R, true⟩ : Fm), d1)].flatMap fval ++ junkA).toArray 41 (0, 0)) :: (segs [((⟨0, R, true⟩ : Fm), d1)] ++ (some (g1, .cells (Z.flatMap Rc.cells).toArray 29 (0, 0)) :: L)) ∧ (True)) (fun K9 hK9 => ?_) ?_
      · simp only [h7_4, h7_5, h7_6, h7_7] at hK9
        simp (maxSteps:=1000000)(dsimp:=false)(disch:=omega) only [go_sem, Φa, hP, h7_2, h7_4, h7_5, h7_6, h7_7, h7_40, hops, hs1, hs2]
        repeat' (first | refine iteB (fun hg => ?_) (fun hg => ?_) | refine iteI (fun hg => ?_) (fun hg => ?_) | ((first | refine ⟨_, Cell.at 3 rfl rfl, ?_⟩ | refine And.intro (by omega) ?_ | refine ⟨_, Cell.at 0 rfl rfl, ?_⟩ | refine ⟨_, Cell.at 1 rfl rfl, ?_⟩ | refine ⟨_, Cell.at 2 rfl rfl, ?_⟩ | refine ⟨_, Cell.at 3 rfl rfl, ?_⟩ | refine ⟨_, Cell.at 4 rfl rfl, ?_⟩ | fail); try (with_reducible refine stI ?_); try simp (maxSteps:=1000000)(dsimp:=false)(disch:=omega) only [go_sem, Φa, hP, h7_2, h7_4, h7_5, h7_6, h7_7, h7_40, hops, hs1, hs2]) | fail)
        all_goals
          refine hK9 () _ (some (g5, .cells ((List.replicate 128 (.slice none 0 0)).set 0 (.slice (some ⟨g4, 0, none⟩) 1 1)).toArray 50 (0, 0)) :: some (g4, .cells [.int .u8 129].toArray 5 (0, 0)) :: so2 :: some (gA, .cells ([((⟨0, R, true⟩ : Fm), d1)].flatMap fval ++ junkA).toArray 41 (0, 0)) :: (segs [((⟨0, R, true⟩ : Fm), d1)] ++ (some (g1, .cells (Z.flatMap Rc.cells).toArray 29 (0, 0)) :: L))) _ (by first | exact Less.refl _ | exact Less.drop _ _ | exact Less.drops (Less.drop _ _) | exact Less.drops (Less.drops (Less.drop _ _)) | exact Less.drops (Less.drops (Less.drops (Less.drop _ _))) | exact Less.drops (Less.drops (Less.drops (Less.drops (Less.drop _ _))))) ?_
          try dsimp only
          refine ⟨?_, ?_, ?_, ?_, ?_, ?_, ?_⟩
          · simp (maxSteps:=1000000)(dsimp:=false)(disch:=omega) only [go_sem, Φa, hP, h7_2, h7_4, h7_5, h7_6, h7_7, h7_40]
            first | done | rfl
          · simp (maxSteps:=1000000)(dsimp:=false)(disch:=omega) only [go_sem, Φa, hP, h7_2, h7_4, h7_5, h7_6, h7_7, h7_40]
          · simp (maxSteps:=1000000)(dsimp:=false)(disch:=omega) only [go_sem, Φa, hP, h7_2, h7_4, h7_5, h7_6, h7_7, h7_40]
          · simp (maxSteps:=1000000)(dsimp:=false)(disch:=omega) only [go_sem, Φa, hP, h7_2, h7_4, h7_5, h7_6, h7_7, h7_40]
          · simp (maxSteps:=1000000)(dsimp:=false)(disch:=omega) only [go_sem, Φa, hP, h7_2, h7_4, h7_5, h7_6, h7_7, h7_40]
          · rfl
          · trivial
      · intro ss T8 L8 hI
        simp only [h7_4, h7_5, h7_6, h7_7] at hI 
        obtain ⟨h8_48, h8_4, h8_5, h8_6, h8_7, hL8, hinv⟩ := hI
        replace hL8 := hL8.symm
        subst hL8
        clear h7_2 h7_4 h7_5 h7_6 h7_7 h7_40 T7
        refine RX.live [4, 5, 6, 7, 48] (fun T9 hT9 => ?_)
        simp only [forall_mem_cons', forall_mem_nil', go_sem, Φa, hP, h8_48, h8_4, h8_5, h8_6, h8_7] at hT9
        obtain ⟨h9_4, h9_5, h9_6, h9_7, h9_48⟩ := hT9
        clear h8_48 h8_4 h8_5 h8_6 h8_7 T8
        refine RX.join 4 (fun (ss : Unit) T L' => T 52 = .bool (true) ∧ T 4 = T9 4 ∧ T 6 = T9 6 ∧ T 7 = T9 7 ∧ L' = some (g5, .cells ((List.replicate 128 (.slice none 0 0)).set 0 (.slice (some ⟨g4, 0, none⟩) 1 1)).toArray 50 (0, 0)) :: some (g4, .cells [.int .u8 129].toArray 5 (0, 0)) :: so2 :: some (gA, .cells ([((⟨0, R, true⟩ : Fm), d1)].flatMap fval ++ junkA).toArray 41 (0, 0)) :: (segs [((⟨0, R, true⟩ : Fm), d1)] ++ (some (g1, .cells (Z.flatMap Rc.cells).toArray 29 (0, 0)) :: L)) ∧ (True)) (fun K10 hK10 => ?_) ?_
        · simp only [h9_4, h9_6, h9_7] at hK10
          simp (maxSteps:=1000000)(dsimp:=false)(disch:=omega) only [go_sem, Φa, hP, h9_4, h9_5, h9_6, h9_7, h9_48, hops, hs1, hs2]
          repeat' (first | refine iteB (fun hg => ?_) (fun hg => ?_) | refine iteI (fun hg => ?_) (fun hg => ?_) | ((first | refine ⟨_, Cell.at 3 rfl rfl, ?_⟩ | refine And.intro (by omega) ?_ | refine ⟨_, Cell.at 0 rfl rfl, ?_⟩ | refine ⟨_, Cell.at 1 rfl rfl, ?_⟩ | refine ⟨_, Cell.at 2 rfl rfl, ?_⟩ | refine ⟨_, Cell.at 3 rfl rfl, ?_⟩ | refine ⟨_, Cell.at 4 rfl rfl, ?_⟩ | fail); try (with_reducible refine stI ?_); try simp (maxSteps:=1000000)(dsimp:=false)(disch:=omega) only [go_sem, Φa, hP, h9_4, h9_5, h9_6, h9_7, h9_48, hops, hs1, hs2]) | fail)
          all_goals
            refine hK10 () _ (some (g5, .cells ((List.replicate 128 (.slice none 0 0)).set 0 (.slice (some ⟨g4, 0, none⟩) 1 1)).toArray 50 (0, 0)) :: some (g4, .cells [.int .u8 129].toArray 5 (0, 0)) :: so2 :: some (gA, .cells ([((⟨0, R, true⟩ : Fm), d1)].flatMap fval ++ junkA).toArray 41 (0, 0)) :: (segs [((⟨0, R, true⟩ : Fm), d1)] ++ (some (g1, .cells (Z.flatMap Rc.cells).toArray 29 (0, 0)) :: L))) _ (by first | exact Less.refl _ | exact Less.drop _ _ | exact Less.drops (Less.drop _ _) | exact Less.drops (Less.drops (Less.drop _ _)) | exact Less.drops (Less.drops (Less.drops (Less.drop _ _))) | exact Less.drops (Less.drops (Less.drops (Less.drops (Less.drop _ _))))) ?_
            try dsimp only
            refine ⟨?_, ?_, ?_, ?_, ?_, ?_⟩
            · simp (maxSteps:=1000000)(dsimp:=false)(disch:=omega) only [go_sem, Φa, hP, h9_4, h9_5, h9_6, h9_7, h9_48]
              first | done | rfl
            · simp (maxSteps:=1000000)(dsimp:=false)(disch:=omega) only [go_sem, Φa, hP, h9_4, h9_5, h9_6, h9_7, h9_48]
            · simp (maxSteps:=1000000)(dsimp:=false)(disch:=omega) only [go_sem, Φa, hP, h9_4, h9_5, h9_6, h9_7, h9_48]
            · simp (maxSteps:=1000000)(dsimp:=false)(disch:=omega) only [go_sem, Φa, hP, h9_4, h9_5, h9_6, h9_7, h9_48]
            · rfl
            · trivial
        · intro ss T10 L10 hI
          simp only [h9_4, h9_6, h9_7] at hI 
          obtain ⟨h10_52, h10_4, h10_6, h10_7, hL10, hinv⟩ := hI
          replace hL10 := hL10.symm
          subst hL10
          clear h9_4 h9_5 h9_6 h9_7 h9_48 T9
          refine RX.live [4, 6, 7, 52] (fun T11 hT11 => ?_)
          simp only [forall_mem_cons', forall_mem_nil', go_sem, Φa, hP, h10_52, h10_4, h10_6, h10_7] at hT11
          obtain ⟨h11_4, h11_6, h11_7, h11_52⟩ := hT11
          clear h10_52 h10_4 h10_6 h10_7 T10
          refine RX.join 5 (fun (ss : Unit) T L' => T 57 = .bool (true) ∧ T 6 = T11 6 ∧ T 7 = T11 7 ∧ L' = some (g5, .cells ((List.replicate 128 (.slice none 0 0)).set 0 (.slice (some ⟨g4, 0, none⟩) 1 1)).toArray 50 (0, 0)) :: some (g4, .cells [.int .u8 129].toArray 5 (0, 0)) :: so2 :: some (gA, .cells ([((⟨0, R, true⟩ : Fm), d1)].flatMap fval ++ junkA).toArray 41 (0, 0)) :: (segs [((⟨0, R, true⟩ : Fm), d1)] ++ (some (g1, .cells (Z.flatMap Rc.cells).toArray 29 (0, 0)) :: L)) ∧ (True)) (fun K11 hK11 => ?_) ?_
          · simp only [h11_6, h11_7] at hK11
            simp (maxSteps:=1000000)(dsimp:=false)(disch:=omega) only [go_sem, Φa, hP, h11_4, h11_6, h11_7, h11_52, hops, hs1, hs2]
            repeat' (first | refine iteB (fun hg => ?_) (fun hg => ?_) | refine iteI (fun hg => ?_) (fun hg => ?_) | ((first | refine ⟨_, Cell.at 3 rfl rfl, ?_⟩ | refine And.intro (by omega) ?_ | refine ⟨_, Cell.at 0 rfl rfl, ?_⟩ | refine ⟨_, Cell.at 1 rfl rfl, ?_⟩ | refine ⟨_, Cell.at 2 rfl rfl, ?_⟩ | refine ⟨_, Cell.at 3 rfl rfl, ?_⟩ | refine ⟨_, Cell.at 4 rfl rfl, ?_⟩ | fail); try (with_reducible refine stI ?_); try simp (maxSteps:=1000000)(dsimp:=false)(disch:=omega) only [go_sem, Φa, hP, h11_4, h11_6, h11_7, h11_52, hops, hs1, hs2]) | fail)
            all_goals
              refine hK11 () _ (some (g5, .cells ((List.replicate 128 (.slice none 0 0)).set 0 (.slice (some ⟨g4, 0, none⟩) 1 1)).toArray 50 (0, 0)) :: some (g4, .cells [.int .u8 129].toArray 5 (0, 0)) :: so2 :: some (gA, .cells ([((⟨0, R, true⟩ : Fm), d1)].flatMap fval ++ junkA).toArray 41 (0, 0)) :: (segs [((⟨0, R, true⟩ : Fm), d1)] ++ (some (g1, .cells (Z.flatMap Rc.cells).toArray 29 (0, 0)) :: L))) _ (by first | exact Less.refl _ | exact Less.drop _ _ | exact Less.drops (Less.drop _ _) | exact Less.drops (Less.drops (Less.drop _ _)) | exact Less.drops (Less.drops (Less.drops (Less.drop _ _))) | exact Less.drops (Less.drops (Less.drops (Less.drops (Less.drop _ _))))) ?_
              try dsimp only
              refine ⟨?_, ?_, ?_, ?_, ?_⟩
              · simp (maxSteps:=1000000)(dsimp:=false)(disch:=omega) only [go_sem, Φa, hP, h11_4, h11_6, h11_7, h11_52]
                first | done | rfl
              · simp (maxSteps:=1000000)(dsimp:=false)(disch:=omega) only [go_sem, Φa, hP, h11_4, h11_6, h11_7, h11_52]
              · simp (maxSteps:=1000000)(dsimp:=false)(disch:=omega) only [go_sem, Φa, hP, h11_4, h11_6, h11_7, h11_52]
              · rfl
              · trivial
          · intro ss T12 L12 hI
            simp only [h11_6, h11_7] at hI 
            obtain ⟨h12_57, h12_6, h12_7, hL12, hinv⟩ := hI
            replace hL12 := hL12.symm
            subst hL12
            clear h11_4 h11_6 h11_7 h11_52 T11
            refine RX.live [6, 7, 57] (fun T13 hT13 => ?_)
            simp only [forall_mem_cons', forall_mem_nil', go_sem, Φa, hP, h12_57, h12_6, h12_7] at hT13
            obtain ⟨h13_6, h13_7, h13_57⟩ := hT13
            clear h12_57 h12_6 h12_7 T12
            refine RX.join 4 (fun (ss : Unit) T L' => T 61 = .bool (true) ∧ T 6 = T13 6 ∧ L' = some (g5, .cells ((List.replicate 128 (.slice none 0 0)).set 0 (.slice (some ⟨g4, 0, none⟩) 1 1)).toArray 50 (0, 0)) :: some (g4, .cells [.int .u8 129].toArray 5 (0, 0)) :: so2 :: some (gA, .cells ([((⟨0, R, true⟩ : Fm), d1)].flatMap fval ++ junkA).toArray 41 (0, 0)) :: (segs [((⟨0, R, true⟩ : Fm), d1)] ++ (some (g1, .cells (Z.flatMap Rc.cells).toArray 29 (0, 0)) :: L)) ∧ (True)) (fun K12 hK12 => ?_) ?_
            · simp only [h13_6] at hK12
              simp (maxSteps:=1000000)(dsimp:=false)(disch:=omega) only [go_sem, Φa, hP, h13_6, h13_7, h13_57, hops, hs1, hs2]
              repeat' (first | refine iteB (fun hg => ?_) (fun hg => ?_) | refine iteI (fun hg => ?_) (fun hg => ?_) | ((first | refine ⟨_, Cell.at 3 rfl rfl, ?_⟩ | refine And.intro (by omega) ?_ | refine ⟨_, Cell.at 0 rfl rfl, ?_⟩ | refine ⟨_, Cell.at 1 rfl rfl, ?_⟩ | refine ⟨_, Cell.at 2 rfl rfl, ?_⟩ | refine ⟨_, Cell.at 3 rfl rfl, ?_⟩ | refine ⟨_, Cell.at 4 rfl rfl, ?_⟩ | fail); try (with_reducible refine stI ?_); try simp (maxSteps:=1000000)(dsimp:=false)(disch:=omega) only [go_sem, Φa, hP, h13_6, h13_7, h13_57, hops, hs1, hs2]) | fail)
              all_goals
                refine hK12 () _ (some (g5, .cells ((List.replicate 128 (.slice none 0 0)).set 0 (.slice (some ⟨g4, 0, none⟩) 1 1)).toArray 50 (0, 0)) :: some (g4, .cells [.int .u8 129].toArray 5 (0, 0)) :: so2 :: some (gA, .cells ([((⟨0, R, true⟩ : Fm), d1)].flatMap fval ++ junkA).toArray 41 (0, 0)) :: (segs [((⟨0, R, true⟩ : Fm), d1)] ++ (some (g1, .cells (Z.flatMap Rc.cells).toArray 29 (0, 0)) :: L))) _ (by first | exact Less.refl _ | exact Less.drop _ _ | exact Less.drops (Less.drop _ _) | exact Less.drops (Less.drops (Less.drop _ _)) | exact Less.drops (Less.drops (Less.drops (Less.drop _ _))) | exact Less.drops (Less.drops (Less.drops (Less.drops (Less.drop _ _))))) ?_
                try dsimp only
                refine ⟨?_, ?_, ?_, ?_⟩
                · simp (maxSteps:=1000000)(dsimp:=false)(disch:=omega) only [go_sem, Φa, hP, h13_6, h13_7, h13_57]
                  first | done | rfl
                · simp (maxSteps:=1000000)(dsimp:=false)(disch:=omega) only [go_sem, Φa, hP, h13_6, h13_7, h13_57]
                · rfl
                · trivial
            · intro ss T14 L14 hI
              simp only [h13_6] at hI 
              obtain ⟨h14_61, h14_6, hL14, hinv⟩ := hI
              replace hL14 := hL14.symm
              subst hL14
              clear h13_6 h13_7 h13_57 T13
              refine RX.live [6, 61] (fun T15 hT15 => ?_)
              simp only [forall_mem_cons', forall_mem_nil', go_sem, Φa, hP, h14_61, h14_6] at hT15
              obtain ⟨h15_6, h15_61⟩ := hT15
              clear h14_61 h14_6 T14
              refine RX.join 5 (fun (ss : Unit) T L' => T 66 = .bool (true) ∧ T 6 = T15 6 ∧ L' = some (g5, .cells ((List.replicate 128 (.slice none 0 0)).set 0 (.slice (some ⟨g4, 0, none⟩) 1 1)).toArray 50 (0, 0)) :: some (g4, .cells [.int .u8 129].toArray 5 (0, 0)) :: so2 :: some (gA, .cells ([((⟨0, R, true⟩ : Fm), d1)].flatMap fval ++ junkA).toArray 41 (0, 0)) :: (segs [((⟨0, R, true⟩ : Fm), d1)] ++ (some (g1, .cells (Z.flatMap Rc.cells).toArray 29 (0, 0)) :: L)) ∧ (True)) (fun K13 hK13 => ?_) ?_
              · simp only [h15_6] at hK13
                simp (maxSteps:=1000000)(dsimp:=false)(disch:=omega) only [go_sem, Φa, hP, h15_6, h15_61, hops, hs1, hs2]
                repeat' (first | refine iteB (fun hg => ?_) (fun hg => ?_) | refine iteI (fun hg => ?_) (fun hg => ?_) | ((first | refine ⟨_, Cell.at 3 rfl rfl, ?_⟩ | refine And.intro (by omega) ?_ | refine ⟨_, Cell.at 0 rfl rfl, ?_⟩ | refine ⟨_, Cell.at 1 rfl rfl, ?_⟩ | refine ⟨_, Cell.at 2 rfl rfl, ?_⟩ | refine ⟨_, Cell.at 3 rfl rfl, ?_⟩ | refine ⟨_, Cell.at 4 rfl rfl, ?_⟩ | fail); try (with_reducible refine stI ?_); try simp (maxSteps:=1000000)(dsimp:=false)(disch:=omega) only [go_sem, Φa, hP, h15_6, h15_61, hops, hs1, hs2]) | fail)
                all_goals
                  refine hK13 () _ (some (g5, .cells ((List.replicate 128 (.slice none 0 0)).set 0 (.slice (some ⟨g4, 0, none⟩) 1 1)).toArray 50 (0, 0)) :: some (g4, .cells [.int .u8 129].toArray 5 (0, 0)) :: so2 :: some (gA, .cells ([((⟨0, R, true⟩ : Fm), d1)].flatMap fval ++ junkA).toArray 41 (0, 0)) :: (segs [((⟨0, R, true⟩ : Fm), d1)] ++ (some (g1, .cells (Z.flatMap Rc.cells).toArray 29 (0, 0)) :: L))) _ (by first | exact Less.refl _ | exact Less.drop _ _ | exact Less.drops (Less.drop _ _) | exact Less.drops (Less.drops (Less.drop _ _)) | exact Less.drops (Less.drops (Less.drops (Less.drop _ _))) | exact Less.drops (Less.drops (Less.drops (Less.drops (Less.drop _ _))))) ?_
                  try dsimp only
                  refine ⟨?_, ?_, ?_, ?_⟩
                  · simp (maxSteps:=1000000)(dsimp:=false)(disch:=omega) only [go_sem, Φa, hP, h15_6, h15_61]
                    first | done | rfl
                  · simp (maxSteps:=1000000)(dsimp:=false)(disch:=omega) only [go_sem, Φa, hP, h15_6, h15_61]
                  · rfl
                  · trivial
              · intro ss T16 L16 hI
                simp only [h15_6] at hI 
                obtain ⟨h16_66, h16_6, hL16, hinv⟩ := hI
                replace hL16 := hL16.symm
                subst hL16
                clear h15_6 h15_61 T15
                refine RX.live [6, 66] (fun T17 hT17 => ?_)
                simp only [forall_mem_cons', forall_mem_nil', go_sem, Φa, hP, h16_66, h16_6] at hT17
                obtain ⟨h17_6, h17_66⟩ := hT17
                clear h16_66 h16_6 T16
                refine RX.join 5 (fun (ss : Unit) T L' => T 71 = .bool (true) ∧ L' = some (g5, .cells ((List.replicate 128 (.slice none 0 0)).set 0 (.slice (some ⟨g4, 0, none⟩) 1 1)).toArray 50 (0, 0)) :: some (g4, .cells [.int .u8 129].toArray 5 (0, 0)) :: so2 :: some (gA, .cells ([((⟨0, R, true⟩ : Fm), d1)].flatMap fval ++ junkA).toArray 41 (0, 0)) :: (segs [((⟨0, R, true⟩ : Fm), d1)] ++ (some (g1, .cells (Z.flatMap Rc.cells).toArray 29 (0, 0)) :: L)) ∧ (True)) (fun K14 hK14 => ?_) ?_
                · simp (maxSteps:=1000000)(dsimp:=false)(disch:=omega) only [go_sem, Φa, hP, h17_6, h17_66, hops, hs1, hs2]
                  repeat' (first | refine iteB (fun hg => ?_) (fun hg => ?_) | refine iteI (fun hg => ?_) (fun hg => ?_) | ((first | refine ⟨_, Cell.at 3 rfl rfl, ?_⟩ | refine And.intro (by omega) ?_ | refine ⟨_, Cell.at 0 rfl rfl, ?_⟩ | refine ⟨_, Cell.at 1 rfl rfl, ?_⟩ | refine ⟨_, Cell.at 2 rfl rfl, ?_⟩ | refine ⟨_, Cell.at 3 rfl rfl, ?_⟩ | refine ⟨_, Cell.at 4 rfl rfl, ?_⟩ | fail); try (with_reducible refine stI ?_); try simp (maxSteps:=1000000)(dsimp:=false)(disch:=omega) only [go_sem, Φa, hP, h17_6, h17_66, hops, hs1, hs2]) | fail)
                  all_goals
                    refine hK14 () _ (some (g5, .cells ((List.replicate 128 (.slice none 0 0)).set 0 (.slice (some ⟨g4, 0, none⟩) 1 1)).toArray 50 (0, 0)) :: some (g4, .cells [.int .u8 129].toArray 5 (0, 0)) :: so2 :: some (gA, .cells ([((⟨0, R, true⟩ : Fm), d1)].flatMap fval ++ junkA).toArray 41 (0, 0)) :: (segs [((⟨0, R, true⟩ : Fm), d1)] ++ (some (g1, .cells (Z.flatMap Rc.cells).toArray 29 (0, 0)) :: L))) _ (by first | exact Less.refl _ | exact Less.drop _ _ | exact Less.drops (Less.drop _ _) | exact Less.drops (Less.drops (Less.drop _ _)) | exact Less.drops (Less.drops (Less.drops (Less.drop _ _))) | exact Less.drops (Less.drops (Less.drops (Less.drops (Less.drop _ _))))) ?_
                    try dsimp only
                    refine ⟨?_, ?_, ?_⟩
                    · simp (maxSteps:=1000000)(dsimp:=false)(disch:=omega) only [go_sem, Φa, hP, h17_6, h17_66]
                      first | done | rfl
                    · rfl
                    · trivial
                · intro ss T18 L18 hI
                  obtain ⟨h18_71, hL18, hinv⟩ := hI
                  replace hL18 := hL18.symm
                  subst hL18
                  clear h17_6 h17_66 T17
                  refine RX.done ?_
                  simp (maxSteps:=1000000)(dsimp:=false)(disch:=omega) only [go_sem, Φa, hP, h18_71, hops]
                  refine hK6 _ _ ?_
                  try clear hK6 K6
                  refine SX.ret ?_
                  simp only [andThen_normal, andThen_ret, andThen_exit, inBlk_normal, inBlk_ret, inBlk_exit, Nat.reduceEqDiff, if_true, if_false, ↓reduceIte, retQ_ret]
                  try simp only [res0, res1, res2, res3, stK_e, go_sem, Φa, hP, h18_71]
                  exact ⟨_, _, Less.drops (Less.drops (Less.drops (Less.drops (Less.sublist ((List.sublist_cons_self _ _).trans (List.sublist_append_right _ _)))))), rfl, rfl, rfl⟩

end Go.Proofs.YtpakphgeichopaaDoor
set_option linter.unusedVariables false
set_option linter.unusedSimpArgs false
namespace Go.Proofs.YtpakphgeichopaaDoor
open Go.RowKit Go.SX
/-! A frame out of its text: a row's bytes, the text's lines. -/
def sh7 (m : Nat) : Int := (128 : Int).fdiv (2 ^ min m 8)
def rowAt (c : List Int) : Nat → List Int
  | 0 => List.replicate (c.length / 8) 0
  | i + 1 => if c.getD i 0 = 35 then (rowAt c i).set (i / 8) (bits .or .u8 ((rowAt c i).getD (i / 8) 0) (sh7 (i % 8))) else rowAt c i
def rowP (c : List Int) : List Int := rowAt c (c.length / 8 * 8)
theorem rowAt_len (c : List Int) : ∀ i, (rowAt c i).length = c.length / 8
  | 0 => List.length_replicate ..
  | i + 1 => by
    rw [rowAt]
    split
    · rw [List.length_set, rowAt_len c i]
    · exact rowAt_len c i
def partA (c : List Int) (j : Nat) : Nat → Int
  | 0 => 0
  | m + 1 => if c.getD (8 * j + m) 0 = 35 then bits .or .u8 (partA c j m) (sh7 m) else partA c j m
theorem rowAt_getD {c : List Int} {j : Nat} (hj : j < c.length / 8) : ∀ i, (rowAt c i).getD j 0 = partA c j (min 8 (i - 8 * j))
  | 0 => by rw [rowAt, rep_getD hj, Nat.zero_sub, Nat.min_zero]; rfl
  | i + 1 => by
    have ih := rowAt_getD hj i
    rw [rowAt]
    by_cases h : i / 8 = j
    · have h1 : min 8 (i - 8 * j) = i % 8 := by omega
      have h2 : min 8 (i + 1 - 8 * j) = i % 8 + 1 := by omega
      rw [h1] at ih
      rw [h2, partA, show 8 * j + i % 8 = i by omega, ← ih]
      split
      · rw [set_getD, rowAt_len, if_pos ⟨h, by omega⟩, h]
      · rfl
    · have h2 : min 8 (i + 1 - 8 * j) = min 8 (i - 8 * j) := by omega
      rw [h2, ← ih]
      split
      · rw [set_getD, if_neg (fun hh => h hh.1)]
      · rfl
theorem or_byte (x y : Int) : 0 ≤ bits .or .u8 x y ∧ bits .or .u8 x y ≤ 255 := by
  have h : bits .or .u8 x y = IntKind.u8.wrap (((BitVec.ofInt 8 x) ||| (BitVec.ofInt 8 y)).toNat : Int) := rfl
  rw [h, wu8 (by have := ((BitVec.ofInt 8 x) ||| (BitVec.ofInt 8 y)).isLt; omega)]
  have := ((BitVec.ofInt 8 x) ||| (BitVec.ofInt 8 y)).isLt
  omega
theorem partA_byte (c : List Int) (j : Nat) : ∀ m, 0 ≤ partA c j m ∧ partA c j m ≤ 255
  | 0 => by rw [partA]; omega
  | m + 1 => by
    rw [partA]
    split
    · exact or_byte _ _
    · exact partA_byte c j m
theorem rowP_len (c : List Int) : (rowP c).length = c.length / 8 := rowAt_len _ _
theorem rowP_getD {c : List Int} {j : Nat} (hj : j < c.length / 8) : (rowP c).getD j 0 = partA c j 8 := by
  rw [rowP, rowAt_getD hj, show min 8 (c.length / 8 * 8 - 8 * j) = 8 by omega]
theorem rowP_byte (c : List Int) : Byte (rowP c) := fun x hx => by
  obtain ⟨j, hj⟩ := List.mem_iff_getElem?.1 hx
  have hl := (List.getElem?_eq_some_iff.1 hj).1
  rw [rowP_len] at hl
  have h1 := rowP_getD hl
  rw [List.getD_eq_getElem?_getD, hj] at h1
  have h2 : x = partA c j 8 := h1
  rw [h2]
  exact partA_byte c j 8
def partB (b : Int) : Nat → Int
  | 0 => 0
  | m + 1 => if bitL b m = 35 then bits .or .u8 (partB b m) (sh7 m) else partB b m
theorem partB_all : ∀ b : Fin 256, partB (b.1 : Int) 8 = (b.1 : Int) := by decide +kernel
theorem partB_eq {b : Int} (hb : 0 ≤ b ∧ b ≤ 255) : partB b 8 = b := by
  have h := partB_all ⟨b.toNat, by omega⟩
  rw [show ((b.toNat : Nat) : Int) = b by omega] at h
  exact h
theorem rowL_getD {m : Nat} (hm : m < 8) : ∀ {r : List Int} {j : Nat}, j < r.length → (rowL r).getD (8 * j + m) 0 = bitL (r.getD j 0) m
  | [], j, h => by simp at h
  | b :: r, 0, _ => by
    show (byteL b ++ rowL r).getD _ _ = _
    rw [List.getD_eq_getElem?_getD, List.getElem?_append_left (by rw [byteL_len]; omega)]
    unfold byteL
    rw [List.getElem?_map, List.getElem?_range (by omega)]
    simp
  | b :: r, j + 1, h => by
    show (byteL b ++ rowL r).getD _ _ = _
    rw [List.getD_eq_getElem?_getD, List.getElem?_append_right (by rw [byteL_len]; omega), byteL_len, show 8 * (j + 1) + m - 8 = 8 * j + m by omega, ← List.getD_eq_getElem?_getD]
    rw [List.getD_cons_succ]
    exact rowL_getD hm (by simpa using h)
theorem rowP_rowL {r : List Int} (hb : Byte r) : rowP (rowL r) = r := by
  have hl : (rowL r).length / 8 = r.length := by rw [rowL_len]; omega
  refine List.ext_getElem? fun j => ?_
  by_cases hj : j < r.length
  · rw [getD_get (d := 0) (by rw [rowP_len, hl]; exact hj), getD_get (d := 0) hj, rowP_getD (by rw [hl]; exact hj)]
    congr 1
    have hp : ∀ m, m ≤ 8 → partA (rowL r) j m = partB (r.getD j 0) m := by
      intro m
      induction m with
      | zero => intro _; rfl
      | succ m ih => intro h; rw [partA, partB, rowL_getD (by omega) hj, ih (by omega)]
    rw [hp 8 (Nat.le_refl _)]
    exact partB_eq (hb _ (List.mem_of_getElem? (getD_get (d := 0) hj)))
  · rw [List.getElem?_eq_none (by rw [rowP_len, hl]; omega), List.getElem?_eq_none (by omega)]
def cL (s : ByteArray) : ByteArray := ⟨(Lib.cut s.data.toList [10]).1.toArray⟩
def cR (s : ByteArray) : ByteArray := ⟨(Lib.cut s.data.toList [10]).2.1.toArray⟩
theorem cL_size (s : ByteArray) : (cL s).size ≤ s.size := by
  show (Lib.cut s.data.toList [10]).1.length ≤ s.data.toList.length
  unfold Lib.cut
  split
  · exact List.length_take_le' ..
  · exact Nat.le_refl _
theorem cR_size (s : ByteArray) : (cR s).size ≤ s.size := by
  show (Lib.cut s.data.toList [10]).2.1.length ≤ s.data.toList.length
  unfold Lib.cut
  split
  · rw [List.length_drop]; omega
  · exact Nat.zero_le _
def restAt (s : ByteArray) : Nat → ByteArray
  | 0 => s
  | i + 1 => cR (restAt s i)
theorem restAt_size (s : ByteArray) : ∀ i, (restAt s i).size ≤ s.size
  | 0 => Nat.le_refl _
  | i + 1 => Nat.le_trans (cR_size _) (restAt_size s i)
def lineAt (s : ByteArray) (j : Nat) : List Int := rowP (nums8 (cL (restAt s j)))
def rowsAt (s : ByteArray) (n : Nat) : List (List Int) := (List.range n).map (lineAt s)
theorem rowsAt_succ (s : ByteArray) (n : Nat) : rowsAt s (n + 1) = rowsAt s n ++ [lineAt s n] := by
  unfold rowsAt
  rw [List.range_succ, List.map_append]
  rfl
theorem rowsAt_len (s : ByteArray) (n : Nat) : (rowsAt s n).length = n := by unfold rowsAt; rw [List.length_map, List.length_range]
theorem rowsAt_mem {s : ByteArray} {n : Nat} {r : List Int} (h : r ∈ rowsAt s n) : Byte r ∧ r.length ≤ s.size := by
  unfold rowsAt at h
  obtain ⟨j, _, rfl⟩ := List.mem_map.1 h
  refine ⟨rowP_byte _, ?_⟩
  unfold lineAt
  rw [rowP_len, nums8_length]
  have h1 := cL_size (restAt s j)
  have h2 := restAt_size s j
  omega
theorem cnt_le {m : Nat} : ∀ {l : List (List Int)}, (∀ r ∈ l, r.length ≤ m) → cnt l ≤ m * l.length
  | [], _ => Nat.le_refl _
  | r :: l, h => by
    have h1 := h r (List.mem_cons_self ..)
    have h2 := cnt_le (l := l) fun r hr => h r (List.mem_cons_of_mem _ hr)
    rw [cnt, List.length_cons, Nat.mul_succ]
    omega
theorem rowsAt_cnt {s : ByteArray} (hs : s.size ≤ 8320) : cnt (rowsAt s 128) ≤ 1064960 := by
  have h := cnt_le (m := s.size) (l := rowsAt s 128) fun r hr => (rowsAt_mem hr).2
  rw [rowsAt_len] at h
  omega
theorem rowsAt_by {s : ByteArray} {n : Nat} : ∀ i, i < (rowsAt s n).length → ∀ j, j < ((rowsAt s n).getD i []).length → 0 ≤ ((rowsAt s n).getD i []).getD j 0 ∧ ((rowsAt s n).getD i []).getD j 0 ≤ 255 := fun i hi j hj =>
  (rowsAt_mem (List.mem_of_getElem? (getD_get (d := []) hi))).1 _ (List.mem_of_getElem? (getD_get (d := 0) hj))
theorem index_nl : ∀ {x : List UInt8} (y : List UInt8), (10 : UInt8) ∉ x → Lib.index (x ++ 10 :: y) [10] = x.length
  | [], y, _ => by
    show Lib.index (10 :: y) [10] = _
    rw [Lib.index, if_pos (by simp [List.isPrefixOf])]
    rfl
  | a :: x, y, h => by
    have ih := index_nl (x := x) y fun hh => h (List.mem_cons_of_mem _ hh)
    have ha : (10 : UInt8) ≠ a := fun hh => h (hh ▸ List.mem_cons_self ..)
    show Lib.index (a :: (x ++ 10 :: y)) [10] = _
    rw [Lib.index, if_neg (by simp [List.isPrefixOf, ha]), ih, if_neg (by simp), List.length_cons]
    omega
theorem cut_nl {x : List UInt8} (y : List UInt8) (h : (10 : UInt8) ∉ x) : Lib.cut (x ++ 10 :: y) [10] = (x, y, true) := by
  unfold Lib.cut
  rw [index_nl y h, if_pos (Int.natCast_nonneg _), Int.toNat_natCast, List.take_left']
  · rw [List.length_singleton, List.drop_append, Nat.add_sub_cancel_left, List.drop_of_length_le (by omega)]
    rfl
  · rfl
theorem toU8_ne {n : Int} (h : n = 35 ∨ n = 46) : (10 : UInt8) ≠ UInt8.ofNat n.toNat := by rcases h with rfl | rfl <;> decide
theorem rowL_dot {r : List Int} {x : Int} (hx : x ∈ rowL r) : x = 35 ∨ x = 46 := by
  unfold rowL byteL at hx
  obtain ⟨b, _, hb⟩ := List.mem_flatMap.1 hx
  obtain ⟨k, _, rfl⟩ := List.mem_map.1 hb
  unfold bitL
  split
  · exact .inl rfl
  · exact .inr rfl
theorem cut_rows (r : List Int) (l : List (List Int)) : Lib.cut (txt (rowsL (r :: l))).data.toList [10] = ((txt (rowL r)).data.toList, (txt (rowsL l)).data.toList, true) := by
  have e : (txt (rowsL (r :: l))).data.toList = (txt (rowL r)).data.toList ++ 10 :: (txt (rowsL l)).data.toList := by
    unfold txt
    rw [rowsL]
    simp
  rw [e]
  refine cut_nl _ fun h => ?_
  have h1 : (10 : UInt8) ∈ (rowL r).map fun n : Int => UInt8.ofNat n.toNat := by simpa [txt] using h
  obtain ⟨x, hx, he⟩ := List.mem_map.1 h1
  exact toU8_ne (rowL_dot hx) he.symm
theorem cL_rows (r : List Int) (l : List (List Int)) : cL (txt (rowsL (r :: l))) = txt (rowL r) := by
  unfold cL
  rw [cut_rows]
theorem cR_rows (r : List Int) (l : List (List Int)) : cR (txt (rowsL (r :: l))) = txt (rowsL l) := by
  unfold cR
  rw [cut_rows]
theorem restAt_rows {l : List (List Int)} : ∀ i, i ≤ l.length → restAt (txt (rowsL l)) i = txt (rowsL (l.drop i))
  | 0, _ => rfl
  | i + 1, h => by
    rw [restAt, restAt_rows i (by omega), List.drop_eq_getElem_cons (by omega), cR_rows]
theorem rowsAt_rows {l : List (List Int)} (hb : ∀ r ∈ l, Byte r) : rowsAt (txt (rowsL l)) l.length = l := by
  refine List.ext_getElem? fun j => ?_
  by_cases hj : j < l.length
  · unfold rowsAt lineAt
    rw [List.getElem?_map, List.getElem?_range hj]
    show some (rowP (nums8 (cL (restAt (txt (rowsL l)) j)))) = _
    rw [restAt_rows j (by omega), List.drop_eq_getElem_cons hj, cL_rows, nums8_txt (rowL_byte _), rowP_rowL (hb _ (List.getElem_mem hj)), List.getElem?_eq_getElem hj]
  · rw [List.getElem?_eq_none (by rw [rowsAt_len]; omega), List.getElem?_eq_none (by omega)]
abbrev zF : Fm := ⟨0, [], false⟩
def readF (s : ByteArray) : Fm := ⟨0, rowsAt s 128, shortB (rowsAt s 128)⟩
def readP (s : ByteArray) : Fm × Int := if 8320 < s.size then (zF, 100) else if showS (readF s) = (s, 0) then (readF s, 0) else (zF, 100)
theorem readP_show {f : Fm} (hm : mayF f = true) (hb : ∀ r ∈ f.rows, Byte r) : readP (showS f).1 = (⟨0, f.rows, f.sh⟩, 0) := by
  obtain ⟨h1, h2, h3, h4⟩ := of_mayF hm
  have hs : showS f = (txt (rowsL f.rows), 0) := if_pos hm
  have hr := rowsAt_rows hb
  rw [h2] at hr
  have hF : readF (txt (rowsL f.rows)) = ⟨0, f.rows, f.sh⟩ := by
    unfold readF
    rw [hr, h3]
    rfl
  have hsz : (txt (rowsL f.rows)).size ≤ 8320 := by
    have := rowsL_len h4 128 (by omega)
    rw [← h2, List.take_length] at this
    rw [txt_size]
    omega
  have hm2 : mayF ⟨0, f.rows, f.sh⟩ = true := by
    unfold mayF at hm ⊢
    simp only [Bool.and_eq_true] at hm ⊢
    exact ⟨⟨⟨decide_eq_true (Int.le_refl 0), hm.1.1.2⟩, hm.1.2⟩, hm.2⟩
  rw [hs]
  dsimp only
  unfold readP
  rw [if_neg (by omega), hF, if_pos]
  exact if_pos hm2
theorem readP_ok {s : ByteArray} (h : (readP s).2 = 0) : showS (readP s).1 = (s, 0) := by
  unfold readP at h ⊢
  split
  · rename_i hc; rw [if_pos hc] at h; cases h
  · rename_i hc
    rw [if_neg hc] at h
    split
    · assumption
    · rename_i hd; rw [if_neg hd] at h; cases h
theorem readP_bad {s : ByteArray} (h : (readP s).2 ≠ 0) : (readP s).1 = zF := by
  unfold readP at h ⊢
  split
  · rfl
  · rename_i hc
    rw [if_neg hc] at h
    split
    · rename_i hd; rw [if_pos hd] at h; exact absurd rfl h
    · rfl
/-- Rows of bytes in memory. -/
structure Rw where
  l : List Int
  v : Value
  s : Slot
def rwV (r : Rw) : List Value := [r.v]
theorem rwV_len (r : Rw) : (rwV r).length = 1 := rfl
def RwsOk (rs : List Rw) : Prop := ∀ r ∈ rs, RowI .u8 5 r.v r.l r.s
theorem RwsOk.nil : RwsOk [] := fun r h => by cases h
theorem RwsOk.app {rs : List Rw} {r : Rw} (h : RwsOk rs) (hr : RowI .u8 5 r.v r.l r.s) : RwsOk (rs ++ [r]) := fun q hq => by
  rcases List.mem_append.1 hq with hq | hq
  · exact h q hq
  · rw [List.mem_singleton.1 hq]; exact hr
def rsl : List Rw → Hp
  | [] => []
  | r :: l => rsl l ++ [r.s]
theorem rsl_app (rs : List Rw) (r : Rw) : rsl (rs ++ [r]) = r.s :: rsl rs := by
  induction rs with
  | nil => rfl
  | cons q rs ih => rw [List.cons_append, rsl, ih, rsl]; rfl
theorem mem_rsl {rs : List Rw} {r : Rw} (h : r ∈ rs) : r.s ∈ rsl rs := by
  induction rs with
  | nil => cases h
  | cons q rs ih =>
    rw [rsl]
    rcases List.mem_cons.1 h with rfl | h
    · exact List.mem_append_right _ (List.mem_singleton.2 rfl)
    · exact List.mem_append_left _ (ih h)
abbrev RowR (v : Value) (rs : List Rw) (s : Slot) : Prop := RowL rwV 50 1 v rs s
theorem RowR.sl {Γ : Ctx} {L : Hp} {v : Value} {rs : List Rw} {s : Slot} (h : RowR v rs s) (hok : RwsOk rs) (hL : s ∈ L) (hm : ∀ s, s ∈ rsl rs → s ∈ L) : SlR (Cell Γ L) v (rs.map (·.l)) := by
  obtain ⟨i, hi⟩ := List.mem_iff_getElem?.1 hL
  refine Sl.map (RowL.sl rwV_len h hi) fun a r hr hc => ⟨r.v, ?_, ?_⟩
  · have := hc 0 r.v rfl
    simpa [Addr.add_zero'] using this
  · obtain ⟨k, hk⟩ := List.mem_iff_getElem?.1 (hm _ (mem_rsl hr))
    exact RowI.sl (hok r hr) hk
theorem lessRd {a b f s : Slot} {R : Hp} : Less (a :: b :: f :: s :: R) (f :: s :: b :: R) := by
  refine (Less.drop _ _).trans (Less.perm ?_)
  exact (List.perm_append_comm (l₁ := [b]) (l₂ := [f, s])).append_right R
def HasM (Γ : Ctx) : Prop := 1 ∉ Γ.own ∧ ∃ m, Γ.w0.cell? ⟨1, 0, none⟩ = some (.int .i64 m)
theorem Cut_spec {Γ : Ctx} (hP : Γ.P = Tryd.prog) (hM : HasM Γ) {L : Hp} {s : ByteArray} (hs : s.size < 4294967281) :
    SCall Γ 43 #[.string s, .string ⟨#[10]⟩] L (fun v L' => v = .tuple #[.string (cL s), .string (cR s), .bool (Lib.cut s.data.toList [10]).2.2] ∧ L' = L) := by
  obtain ⟨ho, m, hm⟩ := hM
  refine SCall.of_calls fun w hi => ?_
  rw [hP]
  exact Go.Proofs.Tryd.strings_Cut s ⟨#[10]⟩ m w hs (Cell.w0 ho hm hi)
end Go.Proofs.YtpakphgeichopaaDoor
set_option linter.unusedVariables false
set_option linter.unusedSimpArgs false
namespace Go.Proofs.YtpakphgeichopaaDoor
open Go.RowKit Go.SX Go.Proofs
open Go.SX renaming ia_someH → Φa
set_option maxHeartbeats 1000000 in
set_option maxRecDepth 100000 in
theorem row_spec {Γ : Ctx} (hP : Γ.P = Tryd.prog) {L : Hp} {s : ByteArray} (hs : s.size ≤ 8320) :
    SCall Γ 44 #[(.string s)] L (fun v L' => ∃ g, v = .slice (some ⟨g, 0, none⟩) (s.size / 8) (s.size / 8) ∧ L' = some (g, .cells (ints .u8 (rowP (nums8 s))).toArray 5 (0, 0)) :: L) := by
  refine SCall.enter (n := 31) (res1 2) (hP ▸ Tryd.func44) rfl rfl (by simp) (res1_ok rfl) ?_
  refine SX.seq_k fun K1 hK1 => ?_
  refine SX.region_d [some 2] rfl (fun ops hops => ?_)
  unfold Dsts at hops
  simp (maxSteps:=1000000)(dsimp:=false)(disch:=omega) only [go_sem, Φa, hP, hops]
  refine hK1 _ _ ?_
  try clear hK1 K1
  refine SX.seq_k fun K2 hK2 => ?_
  have htq : (s.size : Int).tdiv 8 = ((s.size / 8 : Nat) : Int) := by rw [Int.tdiv_eq_ediv_of_nonneg (Int.natCast_nonneg _)]; omega
  refine SX.region_d [some 5, some 6, some 7, some 8, some 3] rfl (fun ops hops => ?_)
  unfold Dsts at hops
  simp (maxSteps:=1000000)(dsimp:=false)(disch:=omega) only [go_sem, Φa, hP, hops, htq]
  intro g1
  try with_reducible refine stI ?_
  try simp (maxSteps:=1000000)(dsimp:=false)(disch:=omega) only [go_sem, Φa, hP, hops, htq]
  rw [zerosV_ints]
  try with_reducible refine stI ?_
  try simp (maxSteps:=1000000)(dsimp:=false)(disch:=omega) only [go_sem, Φa, hP, hops, htq]
  refine hK2 _ _ ?_
  try clear hK2 K2
  refine SX.seq_k fun K3 hK3 => ?_
  refine SX.seq_k fun K4 hK4 => ?_
  refine SX.region_d [some 9, some 10, some 11, some 12] rfl (fun ops hops => ?_)
  unfold Dsts at hops
  simp (maxSteps:=1000000)(dsimp:=false)(disch:=omega) only [go_sem, Φa, hP, hops]
  repeat' ((first | refine And.intro (by omega) ?_ | fail); try (with_reducible refine stI ?_); try simp (maxSteps:=1000000)(dsimp:=false)(disch:=omega) only [go_sem, Φa, hP, hops])
  refine hK4 _ _ ?_
  try clear hK4 K4
  refine SX.live [0, 3, 11, 12] (fun T1 hT1 => ?_)
  simp only [forall_mem_cons', forall_mem_nil', go_sem, Φa, hP] at hT1
  obtain ⟨h1_0, h1_3, h1_11, h1_12⟩ := hT1
  refine SX.block ?_
  have hcl : (nums8 s).length = s.size := nums8_length s
  refine SX.live [0, 3, 11, 12] (fun T2 hT2 => ?_)
  simp only [forall_mem_cons', forall_mem_nil', go_sem, Φa, hP, h1_0, h1_3, h1_11, h1_12] at hT2
  obtain ⟨h2_0, h2_3, h2_11, h2_12⟩ := hT2
  clear h1_0 h1_3 h1_11 h1_12 T1
  refine SX.loop_k (fun (ss : (Nat)) T L' => (fun (i : Nat) => T 12 = .int .i64 (i : Int) ∧ T 0 = T2 0 ∧ T 3 = T2 3 ∧ T 11 = T2 11 ∧ L' = some (g1, .cells (ints .u8 (rowAt (nums8 s) i)).toArray 5 (0, 0)) :: L ∧ (i ≤ s.size / 8 * 8)) (ss)) (fun (ss : (Nat)) => (fun (i : Nat) => s.size / 8 * 8 - i) (ss)) 0 ?_ ?_
  · try dsimp only
    refine ⟨?_, ?_, ?_, ?_, ?_, ?_⟩
    · first | exact h2_12 | (rw [h2_12]; rfl) | (rw [h2_12]; simp; done)
    · rfl
    · rfl
    · rfl
    · rw [rowAt, nums8_length]
    · exact Nat.zero_le _
  · intro i T3 L3 hI K5 hK5
    try dsimp only at hI hK5
    simp only [h2_0, h2_3, h2_11] at hI hK5
    obtain ⟨h3_12, h3_0, h3_3, h3_11, hL3, hi⟩ := hI
    replace hL3 := hL3.symm
    subst hL3
    clear h2_0 h2_3 h2_11 h2_12 T2
    refine SX.seq_k fun K6 hK6 => ?_
    refine SX.region_d [some 13] rfl (fun ops hops => ?_)
    unfold Dsts at hops
    simp (maxSteps:=1000000)(dsimp:=false)(disch:=omega) only [go_sem, Φa, hP, h3_12, h3_0, h3_3, h3_11, hops]
    repeat' ((first | refine And.intro (by omega) ?_ | fail); try (with_reducible refine stI ?_); try simp (maxSteps:=1000000)(dsimp:=false)(disch:=omega) only [go_sem, Φa, hP, h3_12, h3_0, h3_3, h3_11, hops])
    refine hK6 _ _ ?_
    try clear hK6 K6
    refine SX.seq_k fun K7 hK7 => ?_
    refine SX.cond_k fun X8 Y8 hX8 hY8 => ?_
    simp (maxSteps:=1000000)(dsimp:=false)(disch:=omega) only [go_sem, Φa, hP, h3_12, h3_0, h3_3, h3_11, condVC]
    refine ⟨fun hc13 => hX8 ?_, fun hc13 => hY8 ?_⟩
    · clear hX8 hY8 X8 Y8
      refine SX.skip ?_
      try simp only [andThen_normal, andThen_ret, andThen_exit, inBlk_normal, inBlk_ret, inBlk_exit, Nat.reduceEqDiff, if_true, if_false, ↓reduceIte]
      refine hK7 _ _ ?_
      try clear hK7 K7
      refine SX.seq_k fun K9 hK9 => ?_
      refine SX.block ?_
      refine SX.seq_k fun K10 hK10 => ?_
      refine SX.region_d [some 14, some 4] rfl (fun ops hops => ?_)
      unfold Dsts at hops
      simp (maxSteps:=1000000)(dsimp:=false)(disch:=omega) only [go_sem, Φa, hP, h3_12, h3_0, h3_3, h3_11, hops]
      refine hK10 _ _ ?_
      try clear hK10 K10
      refine SX.seq_k fun K11 hK11 => ?_
      have hil : i < s.size := by omega
      obtain ⟨b, hb1, hb2⟩ := index_nums8 hil
      have hgd : (nums8 s).getD i 0 = (b.toNat : Int) := by rw [List.getD_eq_getElem?_getD, hb2]; rfl
      refine SX.region_d [some 15, some 16, some 17, some 18] rfl (fun ops hops => ?_)
      unfold Dsts at hops
      simp (maxSteps:=1000000)(dsimp:=false)(disch:=omega) only [go_sem, Φa, hP, h3_12, h3_0, h3_3, h3_11, hops, hb1]
      refine ⟨_, rfl, ?_⟩
      try with_reducible refine stI ?_
      try simp (maxSteps:=1000000)(dsimp:=false)(disch:=omega) only [go_sem, Φa, hP, h3_12, h3_0, h3_3, h3_11, hops, hb1]
      refine hK11 _ _ ?_
      try clear hK11 K11
      refine SX.cond_k fun X12 Y12 hX12 hY12 => ?_
      simp (maxSteps:=1000000)(dsimp:=false)(disch:=omega) only [go_sem, Φa, hP, h3_12, h3_0, h3_3, h3_11, condVC]
      refine ⟨fun hc18 => hX12 ?_, fun hc18 => hY12 ?_⟩
      · clear hX12 hY12 X12 Y12
        have htd : (i : Int).tdiv 8 = ((i / 8 : Nat) : Int) := by rw [Int.tdiv_eq_ediv_of_nonneg (Int.natCast_nonneg _)]; omega
        have htm : (i : Int).tmod 8 = ((i % 8 : Nat) : Int) := by rw [Int.tmod_eq_emod_of_nonneg (Int.natCast_nonneg _)]; omega
        have hjl : i / 8 < (rowAt (nums8 s) i).length := by rw [rowAt_len, hcl]; omega
        have hv : (ints .u8 (rowAt (nums8 s) i))[i / 8]? = some (.int .u8 ((rowAt (nums8 s) i).getD (i / 8) 0)) := by rw [SX.ints_at, getD_get (d := 0) hjl]; rfl
        refine SX.drawn_d [(0, .q), (1, .q), (2, .q), (3, .q), (4, .q), (5, .q), (6, .q), (7, .q), (8, .q), (9, .q), (10, .t)] (fun L => L) (hP ▸ T.mixed) (by kernel_rfl) (by exact Less.refl _) [some 19, some 20, some 21, some 22, some 23, some 24, some 25, some 26, some 27, some 28, none] rfl (fun ops hops hopl => ?_)
        unfold Dsts at hops
        simp (maxSteps:=1000000)(dsimp:=false)(disch:=omega) only [go_sem, Φa, hP, h3_12, h3_0, h3_3, h3_11, hops, hopl, htd, htm]
        refine ⟨_, Cell.at 0 rfl hv, ?_⟩
        try with_reducible refine stI ?_
        try simp (maxSteps:=1000000)(dsimp:=false)(disch:=omega) only [go_sem, Φa, hP, h3_12, h3_0, h3_3, h3_11, hops, hopl, htd, htm]
        refine ⟨0, _, _, _, rfl, (by simp [ints_length]; omega), .inr (by omega), ?_⟩
        try with_reducible refine stI ?_
        try simp (maxSteps:=1000000)(dsimp:=false)(disch:=omega) only [go_sem, Φa, hP, h3_12, h3_0, h3_3, h3_11, hops, hopl, htd, htm]
        rw [ints_set]
        refine hK9 _ _ ?_
        try clear hK9 K9
        refine SX.live [0, 3, 11, 12] (fun T4 hT4 => ?_)
        simp only [forall_mem_cons', forall_mem_nil', go_sem, Φa, hP, h3_12, h3_0, h3_3, h3_11] at hT4
        obtain ⟨h4_0, h4_3, h4_11, h4_12⟩ := hT4
        clear h3_12 h3_0 h3_3 h3_11 T3
        refine SX.region_d [some 29, some 12] rfl (fun ops hops => ?_)
        unfold Dsts at hops
        simp (maxSteps:=1000000)(dsimp:=false)(disch:=omega) only [go_sem, Φa, hP, h4_0, h4_3, h4_11, h4_12, hops]
        repeat' ((first | refine And.intro (by omega) ?_ | fail); try (with_reducible refine stI ?_); try simp (maxSteps:=1000000)(dsimp:=false)(disch:=omega) only [go_sem, Φa, hP, h4_0, h4_3, h4_11, h4_12, hops])
        refine hK5 (i + 1) _ (_) _ (by first | exact Less.refl _ | exact Less.drop _ _ | exact Less.drops (Less.drop _ _) | exact Less.drops (Less.drops (Less.drop _ _)) | exact Less.drops (Less.drops (Less.drops (Less.drop _ _))) | exact Less.drops (Less.drops (Less.drops (Less.drops (Less.drop _ _))))) ?_ ?_
        · try dsimp only
          refine ⟨?_, ?_, ?_, ?_, ?_, ?_⟩
          · simp (maxSteps:=1000000)(dsimp:=false)(disch:=omega) only [go_sem, Φa, hP, h4_0, h4_3, h4_11, h4_12]
            first | done | rfl | skip
          · simp (maxSteps:=1000000)(dsimp:=false)(disch:=omega) only [go_sem, Φa, hP, h4_0, h4_3, h4_11, h4_12]
          · simp (maxSteps:=1000000)(dsimp:=false)(disch:=omega) only [go_sem, Φa, hP, h4_0, h4_3, h4_11, h4_12]
          · simp (maxSteps:=1000000)(dsimp:=false)(disch:=omega) only [go_sem, Φa, hP, h4_0, h4_3, h4_11, h4_12]
          · rw [rowAt, if_pos (by rw [hgd]; first | exact hc18 | simpa using hc18 | omega)]; rfl
          · omega
        · (try dsimp only); omega
      · clear hX12 hY12 X12 Y12
        refine SX.skip ?_
        try simp only [andThen_normal, andThen_ret, andThen_exit, inBlk_normal, inBlk_ret, inBlk_exit, Nat.reduceEqDiff, if_true, if_false, ↓reduceIte]
        refine hK9 _ _ ?_
        try clear hK9 K9
        refine SX.region_d [some 29, some 12] rfl (fun ops hops => ?_)
        unfold Dsts at hops
        simp (maxSteps:=1000000)(dsimp:=false)(disch:=omega) only [go_sem, Φa, hP, h3_12, h3_0, h3_3, h3_11, hops]
        repeat' ((first | refine And.intro (by omega) ?_ | fail); try (with_reducible refine stI ?_); try simp (maxSteps:=1000000)(dsimp:=false)(disch:=omega) only [go_sem, Φa, hP, h3_12, h3_0, h3_3, h3_11, hops])
        refine hK5 (i + 1) _ (_) _ (by first | exact Less.refl _ | exact Less.drop _ _ | exact Less.drops (Less.drop _ _) | exact Less.drops (Less.drops (Less.drop _ _)) | exact Less.drops (Less.drops (Less.drops (Less.drop _ _))) | exact Less.drops (Less.drops (Less.drops (Less.drops (Less.drop _ _))))) ?_ ?_
        · try dsimp only
          refine ⟨?_, ?_, ?_, ?_, ?_, ?_⟩
          · simp (maxSteps:=1000000)(dsimp:=false)(disch:=omega) only [go_sem, Φa, hP, h3_12, h3_0, h3_3, h3_11]
            first | done | rfl | skip
          · simp (maxSteps:=1000000)(dsimp:=false)(disch:=omega) only [go_sem, Φa, hP, h3_12, h3_0, h3_3, h3_11]
          · simp (maxSteps:=1000000)(dsimp:=false)(disch:=omega) only [go_sem, Φa, hP, h3_12, h3_0, h3_3, h3_11]
          · simp (maxSteps:=1000000)(dsimp:=false)(disch:=omega) only [go_sem, Φa, hP, h3_12, h3_0, h3_3, h3_11]
          · rw [rowAt, if_neg (by rw [hgd]; first | exact hc18 | simpa using hc18 | omega)]
          · omega
        · (try dsimp only); omega
    · clear hX8 hY8 X8 Y8
      refine SX.exit ?_
      try simp only [andThen_normal, andThen_ret, andThen_exit, inBlk_normal, inBlk_ret, inBlk_exit, Nat.reduceEqDiff, if_true, if_false, ↓reduceIte]
      refine hK3 _ _ ?_
      try clear hK3 K3
      refine SX.seq_k fun K13 hK13 => ?_
      refine SX.region_d [some 30, some 2] rfl (fun ops hops => ?_)
      unfold Dsts at hops
      simp (maxSteps:=1000000)(dsimp:=false)(disch:=omega) only [go_sem, Φa, hP, h3_12, h3_0, h3_3, h3_11, hops]
      refine hK13 _ _ ?_
      try clear hK13 K13
      refine SX.ret ?_
      simp only [andThen_normal, andThen_ret, andThen_exit, inBlk_normal, inBlk_ret, inBlk_exit, Nat.reduceEqDiff, if_true, if_false, ↓reduceIte, retQ_ret]
      try simp only [res0, res1, res2, res3, stK_e, go_sem, Φa, hP, h3_12, h3_0, h3_3, h3_11]
      refine ⟨_, _, Less.refl _, rfl, g1, rfl, ?_⟩
      obtain rfl : i = s.size / 8 * 8 := by omega
      rw [rowP, hcl]

def ReadR (s : ByteArray) (L : Hp) (v : Value) (L' : Hp) : Prop := ∃ vo so rs, v = .tuple #[.agg ((readP s).1.cells vo).toArray, .int .i64 (readP s).2] ∧ L' = so :: (rsl rs ++ L) ∧ RowR vo rs so ∧ RwsOk rs ∧ rs.map (·.l) = (readP s).1.rows
theorem ReadR.bad {s : ByteArray} {L : Hp} (h : readP s = (zF, 100)) : ReadR s L (.tuple #[.agg #[.int .i64 0, .slice none 0 0, .bool false], .int .i64 100]) (none :: L) := ⟨_, _, [], by rw [h]; rfl, rfl, RowL.nil _ _ _, RwsOk.nil, by rw [h]; rfl⟩
theorem row_ok {s : ByteArray} {g : Nat} (hs : s.size ≤ 8320) : RowI .u8 5 (.slice (some ⟨g, 0, none⟩) (s.size / 8) (s.size / 8)) (rowP (nums8 s)) (some (g, .cells (ints .u8 (rowP (nums8 s))).toArray 5 (0, 0))) := by
  have hl : (rowP (nums8 s)).length = s.size / 8 := by rw [rowP_len, nums8_length]
  have h := Row.lit (e := 5) (sz := 1) (b := g) (n := s.size / 8) (xs := ints .u8 (rowP (nums8 s))) (by rw [ints_length, hl, Nat.mul_one]) (by omega)
  show Row 5 1 _ (rowP (nums8 s)).length _ _
  rw [hl]
  exact h
theorem lessF {f s b : Slot} {M R : Hp} : Less (f :: s :: (M ++ (b :: R))) (b :: f :: s :: (M ++ R)) := by
  refine Less.perm ?_
  have h := (List.perm_middle (l₁ := f :: s :: M) (a := b) (l₂ := R))
  exact h
theorem lessI {a : Slot} {R : Hp} : Less (a :: R) (a :: Option.none :: R) := (Less.none _).trans (Less.perm (.swap _ _ _))
abbrev mkRw (s : ByteArray) (g : Nat) : Rw := ⟨rowP (nums8 s), .slice (some ⟨g, 0, none⟩) (s.size / 8) (s.size / 8), some (g, .cells (ints .u8 (rowP (nums8 s))).toArray 5 (0, 0))⟩
theorem lessR1 {a f : Slot} {R : Hp} : Less (a :: f :: R) [f] := Less.sublist (.cons _ (.cons_cons _ (List.nil_sublist _)))
theorem lessR2 {a b f : Slot} {R : Hp} : Less (a :: b :: f :: R) [f] := (Less.drop _ _).trans lessR1
theorem lessE4 {a b s : Slot} {M R : Hp} : Less (a :: b :: s :: (M ++ R)) R := Less.sublist (.cons _ (.cons _ (.cons _ (List.sublist_append_right M R))))
set_option maxHeartbeats 1000000 in
set_option maxRecDepth 100000 in
theorem Read_spec {Γ : Ctx} (hP : Γ.P = Tryd.prog) {L : Hp} (hM : HasM Γ) {s : ByteArray} :
    SCall Γ 24 #[(.string s)] L (ReadR s L) := by
  refine SCall.enter (n := 51) (resX Γ [.cell 2 41, .tmp 3]) (hP ▸ Tryd.func24) rfl rfl (by simp) (resX_ok rfl) ?_
  refine SX.seq_k fun K1 hK1 => ?_
  refine SX.region_d [some 2, some 3] rfl (fun ops hops => ?_)
  unfold Dsts at hops
  simp (maxSteps:=1000000)(dsimp:=false)(disch:=omega) only [go_sem, Φa, hP, hops]
  intro b0
  try with_reducible refine stI ?_
  try simp (maxSteps:=1000000)(dsimp:=false)(disch:=omega) only [go_sem, Φa, hP, hops]
  refine hK1 _ _ ?_
  try clear hK1 K1
  refine SX.seq_k fun K2 hK2 => ?_
  refine SX.seq_k fun K3 hK3 => ?_
  refine SX.region_d [some 11, some 12, some 13] rfl (fun ops hops => ?_)
  unfold Dsts at hops
  simp (maxSteps:=1000000)(dsimp:=false)(disch:=omega) only [go_sem, Φa, hP, hops]
  repeat' ((first | refine And.intro (by omega) ?_ | fail); try (with_reducible refine stI ?_); try simp (maxSteps:=1000000)(dsimp:=false)(disch:=omega) only [go_sem, Φa, hP, hops])
  refine hK3 _ _ ?_
  try clear hK3 K3
  refine SX.cond_k fun X4 Y4 hX4 hY4 => ?_
  simp (maxSteps:=1000000)(dsimp:=false)(disch:=omega) only [go_sem, Φa, hP, condVC]
  refine ⟨fun hc13 => hX4 ?_, fun hc13 => hY4 ?_⟩
  · clear hX4 hY4 X4 Y4
    refine SX.seq_k fun K5 hK5 => ?_
    refine SX.region_d [some 14, none, some 3] rfl (fun ops hops => ?_)
    unfold Dsts at hops
    simp (maxSteps:=1000000)(dsimp:=false)(disch:=omega) only [go_sem, Φa, hP, hops]
    refine ⟨0, _, _, _, rfl, by decide, .inr (by decide), ?_⟩
    try with_reducible refine stI ?_
    try simp (maxSteps:=1000000)(dsimp:=false)(disch:=omega) only [go_sem, Φa, hP, hops]
    refine hK5 _ _ ?_
    try clear hK5 K5
    refine SX.ret ?_
    simp only [andThen_normal, andThen_ret, andThen_exit, inBlk_normal, inBlk_ret, inBlk_exit, Nat.reduceEqDiff, if_true, if_false, ↓reduceIte, retQ_ret]
    try simp only [res0,res1,res2,res3,stK_e,resX,resK,oneOr,ld_ptr,loadVC,loadN,List.nil_append,List.cons_append,Nat.reduceAdd,Nat.add_zero,Nat.zero_add,Addr.add_lit,Addr.add_zero',add_addS,T.elA_41,T.lay_41,T.szA_41,T.zr_41,Tryd.underlying41,go_sem,Φa,hP]
    refine ⟨_, _, (Less.drop _ _).trans (Less.none _), ⟨_, Cell.at 0 rfl rfl, _, Cell.at 0 rfl rfl, _, Cell.at 0 rfl rfl, rfl⟩, ReadR.bad ?_⟩
    unfold readP
    rw [if_pos (by omega)]
  · clear hX4 hY4 X4 Y4
    refine SX.skip ?_
    try simp only [andThen_normal, andThen_ret, andThen_exit, inBlk_normal, inBlk_ret, inBlk_exit, Nat.reduceEqDiff, if_true, if_false, ↓reduceIte]
    refine hK2 _ _ ?_
    try clear hK2 K2
    refine SX.seq_k fun K6 hK6 => ?_
    have hs : s.size ≤ 8320 := by omega
    refine SX.region_d [some 4] rfl (fun ops hops => ?_)
    unfold Dsts at hops
    simp (maxSteps:=1000000)(dsimp:=false)(disch:=omega) only [go_sem, Φa, hP, hops]
    intro b4
    try with_reducible refine stI ?_
    try simp (maxSteps:=1000000)(dsimp:=false)(disch:=omega) only [go_sem, Φa, hP, hops]
    refine hK6 _ _ ?_
    try clear hK6 K6
    refine SX.seq_k fun K7 hK7 => ?_
    refine SX.region_d [some 15, some 5] rfl (fun ops hops => ?_)
    unfold Dsts at hops
    simp (maxSteps:=1000000)(dsimp:=false)(disch:=omega) only [go_sem, Φa, hP, hops]
    refine hK7 _ _ ?_
    try clear hK7 K7
    refine SX.seq_k fun K8 hK8 => ?_
    refine SX.seq_k fun K9 hK9 => ?_
    refine SX.less lessI ?_
    refine SX.region_d [some 16] rfl (fun ops hops => ?_)
    unfold Dsts at hops
    simp (maxSteps:=1000000)(dsimp:=false)(disch:=omega) only [go_sem, Φa, hP, hops]
    refine hK9 _ _ ?_
    try clear hK9 K9
    refine SX.live [0, 2, 4, 5, 16] (fun T1 hT1 => ?_)
    simp only [forall_mem_cons', forall_mem_nil', go_sem, Φa, hP] at hT1
    obtain ⟨h1_0, h1_2, h1_4, h1_5, h1_16⟩ := hT1
    refine SX.block ?_
    refine SX.live [0, 2, 4, 5, 16] (fun T2 hT2 => ?_)
    simp only [forall_mem_cons', forall_mem_nil', go_sem, Φa, hP, h1_0, h1_2, h1_4, h1_5, h1_16] at hT2
    obtain ⟨h2_0, h2_2, h2_4, h2_5, h2_16⟩ := hT2
    clear h1_0 h1_2 h1_4 h1_5 h1_16 T1
    refine SX.loop_k (fun (ss : (Nat) × (Value) × (Slot) × (List Rw)) T L' => (fun (i : Nat) (vo : Value) (so : Slot) (rs : List Rw) => T 5 = .string (restAt s i) ∧ T 16 = .int .i64 (i : Int) ∧ T 0 = T2 0 ∧ T 2 = T2 2 ∧ T 4 = T2 4 ∧ L' = some (b4, .cells [.int .i64 0, vo, .bool false].toArray 41 (0, 0)) :: so :: (rsl rs ++ some (b0, .cells [.int .i64 0, .slice none 0 0, .bool false].toArray 41 (0, 0)) :: L) ∧ (i ≤ 128 ∧ RowR vo rs so ∧ RwsOk rs ∧ rs.map (·.l) = rowsAt s i)) (ss.1) (ss.2.1) (ss.2.2.1) (ss.2.2.2)) (fun (ss : (Nat) × (Value) × (Slot) × (List Rw)) => (fun (i : Nat) (vo : Value) (so : Slot) (rs : List Rw) => 128 - i) (ss.1) (ss.2.1) (ss.2.2.1) (ss.2.2.2)) (0, .slice none 0 0, none, []) ?_ ?_
    · try dsimp only
      refine ⟨?_, ?_, ?_, ?_, ?_, ?_, ?_⟩
      · first | exact h2_5 | (rw [h2_5]; rfl) | (rw [h2_5]; simp; done)
      · first | exact h2_16 | (rw [h2_16]; rfl) | (rw [h2_16]; simp; done)
      · rfl
      · rfl
      · rfl
      · rfl
      · exact ⟨Nat.zero_le _, RowL.nil _ _ _, RwsOk.nil, rfl⟩
    · intro ss T3 L3 hI K10 hK10
      obtain ⟨i, vo, so, rs⟩ := ss
      try dsimp only at hI hK10
      simp only [h2_0, h2_2, h2_4] at hI hK10
      obtain ⟨h3_5, h3_16, h3_0, h3_2, h3_4, hL3, ⟨hi, hrow, hok, hrs⟩⟩ := hI
      replace hL3 := hL3.symm
      subst hL3
      clear h2_0 h2_2 h2_4 h2_5 h2_16 T2
      refine SX.seq_k fun K11 hK11 => ?_
      refine SX.region_d [some 17] rfl (fun ops hops => ?_)
      unfold Dsts at hops
      simp (maxSteps:=1000000)(dsimp:=false)(disch:=omega) only [go_sem, Φa, hP, h3_5, h3_16, h3_0, h3_2, h3_4, hops]
      repeat' ((first | refine And.intro (by omega) ?_ | fail); try (with_reducible refine stI ?_); try simp (maxSteps:=1000000)(dsimp:=false)(disch:=omega) only [go_sem, Φa, hP, h3_5, h3_16, h3_0, h3_2, h3_4, hops])
      refine hK11 _ _ ?_
      try clear hK11 K11
      refine SX.seq_k fun K12 hK12 => ?_
      refine SX.cond_k fun X13 Y13 hX13 hY13 => ?_
      simp (maxSteps:=1000000)(dsimp:=false)(disch:=omega) only [go_sem, Φa, hP, h3_5, h3_16, h3_0, h3_2, h3_4, condVC]
      refine ⟨fun hc17 => hX13 ?_, fun hc17 => hY13 ?_⟩
      · clear hX13 hY13 X13 Y13
        refine SX.skip ?_
        try simp only [andThen_normal, andThen_ret, andThen_exit, inBlk_normal, inBlk_ret, inBlk_exit, Nat.reduceEqDiff, if_true, if_false, ↓reduceIte]
        refine hK12 _ _ ?_
        try clear hK12 K12
        refine SX.seq_k fun K14 hK14 => ?_
        refine SX.block ?_
        refine SX.seq_k fun K15 hK15 => ?_
        have hsz := restAt_size s i
        have hsl := cL_size (restAt s i)
        have hrl : rs.length = i := by have := congrArg List.length hrs; rw [List.length_map, rowsAt_len] at this; exact this
        refine SX.region_d [some 19, some 20, some 18, some 21, some 22, some 23, some 6, some 7, some 8] rfl (fun ops hops => ?_)
        unfold Dsts at hops
        simp (maxSteps:=1000000)(dsimp:=false)(disch:=omega) only [go_sem, Φa, hP, h3_5, h3_16, h3_0, h3_2, h3_4, hops]
        refine SCall.mono (Cut_spec hP hM (s := restAt s i) (by omega)) ?_
        rintro v_ L_ ⟨hv_, hL_⟩
        rw [hv_, hL_]
        clear hv_ hL_ v_ L_
        try with_reducible refine stI ?_
        try simp (maxSteps:=1000000)(dsimp:=false)(disch:=omega) only [go_sem, Φa, hP, h3_5, h3_16, h3_0, h3_2, h3_4, hops]
        refine hK15 _ _ ?_
        try clear hK15 K15
        refine SX.live [0, 2, 4, 6, 7, 16] (fun T4 hT4 => ?_)
        simp only [forall_mem_cons', forall_mem_nil', go_sem, Φa, hP, h3_5, h3_16, h3_0, h3_2, h3_4] at hT4
        obtain ⟨h4_0, h4_2, h4_4, h4_6, h4_7, h4_16⟩ := hT4
        clear h3_5 h3_16 h3_0 h3_2 h3_4 T3
        refine SX.seq_k fun K16 hK16 => ?_
        refine SX.drawn_d [(0, .q), (1, .q), (2, .q), (3, .e), (4, .e), (5, .e), (6, .q), (7, .t)] (fun _ => [some (b4, .cells [.int .i64 0, vo, .bool false].toArray 41 (0, 0))]) (hP ▸ T.mixed) (by kernel_rfl) (by exact (Less.sublist (.cons_cons _ (List.nil_sublist _)))) [some 24, some 25, some 26, some 27, some 28, some 29, some 30, none] rfl (fun ops hops hopl => ?_)
        unfold Dsts at hops
        simp (maxSteps:=1000000)(dsimp:=false)(disch:=omega) only [go_sem, Φa, hP, h4_0, h4_2, h4_4, h4_6, h4_7, h4_16, hops, hopl]
        refine ⟨_, Cell.at 0 rfl rfl, ?_⟩
        try with_reducible refine stI ?_
        try simp (maxSteps:=1000000)(dsimp:=false)(disch:=omega) only [go_sem, Φa, hP, h4_0, h4_2, h4_4, h4_6, h4_7, h4_16, hops, hopl]
        refine SCall.mono (row_spec hP (s := cL (restAt s i)) (by omega)) ?_
        rintro v_ L_ ⟨gr, rfl, rfl⟩
        have hrN := row_ok (s := cL (restAt s i)) (g := gr) (by omega)
        try with_reducible refine stI ?_
        try simp (maxSteps:=1000000)(dsimp:=false)(disch:=omega) only [go_sem, Φa, hP, h4_0, h4_2, h4_4, h4_6, h4_7, h4_16, hops, hopl]
        refine ⟨lessR1, ?_⟩
        try with_reducible refine stI ?_
        try simp (maxSteps:=1000000)(dsimp:=false)(disch:=omega) only [go_sem, Φa, hP, h4_0, h4_2, h4_4, h4_6, h4_7, h4_16, hops, hopl]
        intro g8
        try with_reducible refine stI ?_
        try simp (maxSteps:=1000000)(dsimp:=false)(disch:=omega) only [go_sem, Φa, hP, h4_0, h4_2, h4_4, h4_6, h4_7, h4_16, hops, hopl]
        refine ⟨lessR2, ?_⟩
        try with_reducible refine stI ?_
        try simp (maxSteps:=1000000)(dsimp:=false)(disch:=omega) only [go_sem, Φa, hP, h4_0, h4_2, h4_4, h4_6, h4_7, h4_16, hops, hopl]
        refine YAppend.rowL (z := [.slice none 0 0]) (f := rwV) (x := mkRw (cL (restAt s i)) gr) (i := 2) (hP ▸ T.elS_39) (hP ▸ T.zr_50) rfl rfl rfl rfl hrow (by omega) (by decide) ?_
        intro v' s' hr'
        obtain ⟨A', c', rfl, hcc', _⟩ := Row.form hr'
        try with_reducible refine stI ?_
        try simp (maxSteps:=1000000)(dsimp:=false)(disch:=omega) only [go_sem, Φa, hP, h4_0, h4_2, h4_4, h4_6, h4_7, h4_16, hops, hopl]
        refine ⟨lessR2, ?_⟩
        try with_reducible refine stI ?_
        try simp (maxSteps:=1000000)(dsimp:=false)(disch:=omega) only [go_sem, Φa, hP, h4_0, h4_2, h4_4, h4_6, h4_7, h4_16, hops, hopl]
        refine ⟨2, _, _, _, rfl, (by simp), .inr (by omega), ?_⟩
        try with_reducible refine stI ?_
        try simp (maxSteps:=1000000)(dsimp:=false)(disch:=omega) only [go_sem, Φa, hP, h4_0, h4_2, h4_4, h4_6, h4_7, h4_16, hops, hopl]
        refine hK16 _ _ ?_
        try clear hK16 K16
        refine SX.less lessRd ?_
        refine SX.region_d [some 31, some 5] rfl (fun ops hops => ?_)
        unfold Dsts at hops
        simp (maxSteps:=1000000)(dsimp:=false)(disch:=omega) only [go_sem, Φa, hP, h4_0, h4_2, h4_4, h4_6, h4_7, h4_16, hops]
        refine hK14 _ _ ?_
        try clear hK14 K14
        refine SX.live [0, 2, 4, 5, 16] (fun T5 hT5 => ?_)
        simp only [forall_mem_cons', forall_mem_nil', go_sem, Φa, hP, h4_0, h4_2, h4_4, h4_6, h4_7, h4_16] at hT5
        obtain ⟨h5_0, h5_2, h5_4, h5_5, h5_16⟩ := hT5
        clear h4_0 h4_2 h4_4 h4_6 h4_7 h4_16 T4
        refine SX.region_d [some 32, some 16] rfl (fun ops hops => ?_)
        unfold Dsts at hops
        simp (maxSteps:=1000000)(dsimp:=false)(disch:=omega) only [go_sem, Φa, hP, h5_0, h5_2, h5_4, h5_5, h5_16, hops]
        repeat' ((first | refine And.intro (by omega) ?_ | fail); try (with_reducible refine stI ?_); try simp (maxSteps:=1000000)(dsimp:=false)(disch:=omega) only [go_sem, Φa, hP, h5_0, h5_2, h5_4, h5_5, h5_16, hops])
        refine hK10 (i + 1, .slice A' (rs ++ [mkRw (cL (restAt s i)) gr]).length c', s', rs ++ [mkRw (cL (restAt s i)) gr]) _ (some (b4, .cells [.int .i64 0, (.slice A' (rs ++ [mkRw (cL (restAt s i)) gr]).length c'), .bool false].toArray 41 (0, 0)) :: s' :: (rsl (rs ++ [mkRw (cL (restAt s i)) gr]) ++ some (b0, .cells [.int .i64 0, .slice none 0 0, .bool false].toArray 41 (0, 0)) :: L)) _ (by rw [rsl_app]; exact Less.refl _) ?_ ?_
        · try dsimp only
          refine ⟨?_, ?_, ?_, ?_, ?_, ?_, ?_⟩
          · simp (maxSteps:=1000000)(dsimp:=false)(disch:=omega) only [go_sem, Φa, hP, h5_0, h5_2, h5_4, h5_5, h5_16]
            first | done | rfl | skip
          · simp (maxSteps:=1000000)(dsimp:=false)(disch:=omega) only [go_sem, Φa, hP, h5_0, h5_2, h5_4, h5_5, h5_16]
            first | done | rfl | skip
          · simp (maxSteps:=1000000)(dsimp:=false)(disch:=omega) only [go_sem, Φa, hP, h5_0, h5_2, h5_4, h5_5, h5_16]
          · simp (maxSteps:=1000000)(dsimp:=false)(disch:=omega) only [go_sem, Φa, hP, h5_0, h5_2, h5_4, h5_5, h5_16]
          · simp (maxSteps:=1000000)(dsimp:=false)(disch:=omega) only [go_sem, Φa, hP, h5_0, h5_2, h5_4, h5_5, h5_16]
          · rfl
          · refine ⟨by omega, hr', RwsOk.app hok hrN, ?_⟩
            rw [List.map_append, hrs, rowsAt_succ]
            rfl
        · (try dsimp only); omega
      · clear hX13 hY13 X13 Y13
        refine SX.exit ?_
        try simp only [andThen_normal, andThen_ret, andThen_exit, inBlk_normal, inBlk_ret, inBlk_exit, Nat.reduceEqDiff, if_true, if_false, ↓reduceIte]
        refine hK8 _ _ ?_
        try clear hK8 K8
        refine SX.seq_k fun K17 hK17 => ?_
        obtain rfl : i = 128 := by omega
        obtain ⟨VA, vc, rfl, hvc, _⟩ := Row.form hrow
        refine SX.less lessF ?_
        have hslF : ∀ a b : Slot, SlR (Cell Γ (a :: b :: so :: (rsl rs ++ L))) (.slice VA rs.length vc) (rowsAt s 128) := fun a b => by rw [← hrs]; exact RowR.sl hrow hok (List.mem_cons_of_mem _ (List.mem_cons_of_mem _ (List.mem_cons_self ..))) (fun x hx => List.mem_cons_of_mem _ (List.mem_cons_of_mem _ (List.mem_cons_of_mem _ (List.mem_append_left _ hx))))
        have hcn := rowsAt_cnt hs
        have hrl := rowsAt_len s 128
        have hby := rowsAt_by (s := s) (n := 128)
        have hRF : readF s = ⟨0, rowsAt s 128, shortB (rowsAt s 128)⟩ := rfl
        generalize rowsAt s 128 = RS at hrs hslF hcn hrl hby hRF
        have hshb : decide (((cnt RS : Nat) : Int) < 1024) = shortB RS := decide_eq_decide.2 (by omega)
        refine SX.region_d [some 33, some 34, some 35, some 36, none] rfl (fun ops hops => ?_)
        unfold Dsts at hops
        simp (maxSteps:=1000000)(dsimp:=false)(disch:=omega) only [go_sem, Φa, hP, h3_5, h3_16, h3_0, h3_2, h3_4, hops, hshb]
        refine ⟨_, Cell.at 1 rfl rfl, _, Cell.at 1 rfl rfl, _, Cell.at 1 rfl rfl, ?_⟩
        try with_reducible refine stI ?_
        try simp (maxSteps:=1000000)(dsimp:=false)(disch:=omega) only [go_sem, Φa, hP, h3_5, h3_16, h3_0, h3_2, h3_4, hops, hshb]
        refine SCall.mono (count_spec (rows := RS) hP (hslF _ _) (by omega) (by omega)) ?_
        rintro v_ L_ ⟨hv_, hL_⟩
        rw [hv_, hL_]
        clear hv_ hL_ v_ L_
        try with_reducible refine stI ?_
        try simp (maxSteps:=1000000)(dsimp:=false)(disch:=omega) only [go_sem, Φa, hP, h3_5, h3_16, h3_0, h3_2, h3_4, hops, hshb]
        refine ⟨1, _, _, _, rfl, (by simp), .inr (by omega), ?_⟩
        try with_reducible refine stI ?_
        try simp (maxSteps:=1000000)(dsimp:=false)(disch:=omega) only [go_sem, Φa, hP, h3_5, h3_16, h3_0, h3_2, h3_4, hops, hshb]
        refine hK17 _ _ ?_
        try clear hK17 K17
        refine SX.seq_k fun K18 hK18 => ?_
        refine SX.seq_k fun K19 hK19 => ?_
        refine SX.region_d [some 38, some 39, some 37, some 40, some 41, some 9, some 10] rfl (fun ops hops => ?_)
        unfold Dsts at hops
        simp (maxSteps:=1000000)(dsimp:=false)(disch:=omega) only [go_sem, Φa, hP, h3_5, h3_16, h3_0, h3_2, h3_4, hops]
        refine ⟨_, Cell.at 1 rfl rfl, _, Cell.at 1 rfl rfl, _, Cell.at 1 rfl rfl, ?_⟩
        try with_reducible refine stI ?_
        try simp (maxSteps:=1000000)(dsimp:=false)(disch:=omega) only [go_sem, Φa, hP, h3_5, h3_16, h3_0, h3_2, h3_4, hops]
        refine SCall.mono (Show_spec (f := (⟨0, RS, shortB RS⟩ : Fm)) hP (hslF _ _) (by show cnt RS ≤ _; omega) (by show RS.length ≤ _; omega) hby) ?_
        rintro v_ L_ ⟨hv_, hL_⟩
        rw [hv_, hL_]
        clear hv_ hL_ v_ L_
        try with_reducible refine stI ?_
        try simp (maxSteps:=1000000)(dsimp:=false)(disch:=omega) only [go_sem, Φa, hP, h3_5, h3_16, h3_0, h3_2, h3_4, hops]
        refine hK19 _ _ ?_
        try clear hK19 K19
        refine SX.live [0, 2, 4, 9, 10] (fun T6 hT6 => ?_)
        simp only [forall_mem_cons', forall_mem_nil', go_sem, Φa, hP, h3_5, h3_16, h3_0, h3_2, h3_4] at hT6
        obtain ⟨h6_0, h6_2, h6_4, h6_9, h6_10⟩ := hT6
        clear h3_5 h3_16 h3_0 h3_2 h3_4 T3
        refine SX.seq_k fun K20 hK20 => ?_
        refine SX.region_xd [some 42, some 43, some 44, some 45, some 46, some 47, some 48] rfl (fun ops hops => ?_)
        unfold Dsts at hops
        refine RX.live [0, 2, 4, 9, 10] (fun T7 hT7 => ?_)
        simp only [forall_mem_cons', forall_mem_nil', go_sem, Φa, hP, h6_0, h6_2, h6_4, h6_9, h6_10] at hT7
        obtain ⟨h7_0, h7_2, h7_4, h7_9, h7_10⟩ := hT7
        clear h6_0 h6_2 h6_4 h6_9 h6_10 T6
        refine RX.join 7 (fun (ss : Unit) T L' => T 48 = .bool (!decide (showS (⟨0, RS, shortB RS⟩ : Fm) = (s, 0))) ∧ T 2 = T7 2 ∧ T 4 = T7 4 ∧ L' = some (b0, .cells [.int .i64 0, .slice none 0 0, .bool false].toArray 41 (0, 0)) :: some (b4, .cells [.int .i64 0, (.slice VA rs.length vc), .bool (shortB RS)].toArray 41 (0, 0)) :: so :: (rsl rs ++ L) ∧ (True)) (fun K21 hK21 => ?_) ?_
        · simp only [h7_2, h7_4] at hK21
          simp (maxSteps:=1000000)(dsimp:=false)(disch:=omega) only [go_sem, Φa, hP, h7_0, h7_2, h7_4, h7_9, h7_10, hops]
          repeat' (first | refine iteB (fun hg => ?_) (fun hg => ?_) | refine iteI (fun hg => ?_) (fun hg => ?_) | ((first | refine And.intro (by omega) ?_ | refine ⟨_, Cell.at 0 rfl rfl, ?_⟩ | refine ⟨_, Cell.at 1 rfl rfl, ?_⟩ | refine ⟨_, Cell.at 2 rfl rfl, ?_⟩ | fail); try (with_reducible refine stI ?_); try simp (maxSteps:=1000000)(dsimp:=false)(disch:=omega) only [go_sem, Φa, hP, h7_0, h7_2, h7_4, h7_9, h7_10, hops]) | fail)
          all_goals
            refine hK21 () _ (some (b0, .cells [.int .i64 0, .slice none 0 0, .bool false].toArray 41 (0, 0)) :: some (b4, .cells [.int .i64 0, (.slice VA rs.length vc), .bool (shortB RS)].toArray 41 (0, 0)) :: so :: (rsl rs ++ L)) _ (by first | exact Less.refl _ | exact Less.drop _ _ | exact Less.drops (Less.drop _ _) | exact Less.drops (Less.drops (Less.drop _ _)) | exact Less.drops (Less.drops (Less.drops (Less.drop _ _))) | exact Less.drops (Less.drops (Less.drops (Less.drops (Less.drop _ _))))) ?_
            try dsimp only
            refine ⟨?_, ?_, ?_, ?_, ?_⟩
            · simp (maxSteps:=1000000)(dsimp:=false)(disch:=omega) only [go_sem, Φa, hP, h7_0, h7_2, h7_4, h7_9, h7_10]
              first | done | rfl | (refine congrArg Value.bool ?_; rw [Bool.eq_iff_iff]; simp only [Bool.not_eq_true', Bool.not_eq_false', decide_eq_true_eq, decide_eq_false_iff_not, Prod.ext_iff]; simp_all; done)
            · simp (maxSteps:=1000000)(dsimp:=false)(disch:=omega) only [go_sem, Φa, hP, h7_0, h7_2, h7_4, h7_9, h7_10]
            · simp (maxSteps:=1000000)(dsimp:=false)(disch:=omega) only [go_sem, Φa, hP, h7_0, h7_2, h7_4, h7_9, h7_10]
            · rfl
            · trivial
        · intro ss T8 L8 hI
          simp only [h7_2, h7_4] at hI 
          obtain ⟨h8_48, h8_2, h8_4, hL8, hinv⟩ := hI
          replace hL8 := hL8.symm
          subst hL8
          clear h7_0 h7_2 h7_4 h7_9 h7_10 T7
          refine RX.done ?_
          simp (maxSteps:=1000000)(dsimp:=false)(disch:=omega) only [go_sem, Φa, hP, h8_48, h8_2, h8_4, hops]
          refine hK20 _ _ ?_
          try clear hK20 K20
          refine SX.cond_k fun X22 Y22 hX22 hY22 => ?_
          simp (maxSteps:=1000000)(dsimp:=false)(disch:=omega) only [go_sem, Φa, hP, h8_48, h8_2, h8_4, condVC]
          refine ⟨fun hc48 => hX22 ?_, fun hc48 => hY22 ?_⟩
          · clear hX22 hY22 X22 Y22
            refine SX.seq_k fun K23 hK23 => ?_
            refine SX.region_d [some 49, none, some 3] rfl (fun ops hops => ?_)
            unfold Dsts at hops
            simp (maxSteps:=1000000)(dsimp:=false)(disch:=omega) only [go_sem, Φa, hP, h8_48, h8_2, h8_4, hops]
            refine ⟨0, _, _, _, rfl, (by simp), .inr (by omega), ?_⟩
            try with_reducible refine stI ?_
            try simp (maxSteps:=1000000)(dsimp:=false)(disch:=omega) only [go_sem, Φa, hP, h8_48, h8_2, h8_4, hops]
            refine hK23 _ _ ?_
            try clear hK23 K23
            refine SX.ret ?_
            simp only [andThen_normal, andThen_ret, andThen_exit, inBlk_normal, inBlk_ret, inBlk_exit, Nat.reduceEqDiff, if_true, if_false, ↓reduceIte, retQ_ret]
            try simp only [res0,res1,res2,res3,stK_e,resX,resK,oneOr,ld_ptr,loadVC,loadN,List.nil_append,List.cons_append,Nat.reduceAdd,Nat.add_zero,Nat.zero_add,Addr.add_lit,Addr.add_zero',add_addS,T.elA_41,T.lay_41,T.szA_41,T.zr_41,Tryd.underlying41,go_sem,Φa,hP,h8_48,h8_2,h8_4]
            refine ⟨_, _, (lessE4.trans (Less.none _)), ⟨_, Cell.at 0 rfl rfl, _, Cell.at 0 rfl rfl, _, Cell.at 0 rfl rfl, rfl⟩, ReadR.bad ?_⟩
            have hd : ¬ showS (readF s) = (s, 0) := by rw [hRF]; simpa using hc48
            unfold readP
            rw [if_neg (by omega), if_neg hd]
          · clear hX22 hY22 X22 Y22
            refine SX.skip ?_
            try simp only [andThen_normal, andThen_ret, andThen_exit, inBlk_normal, inBlk_ret, inBlk_exit, Nat.reduceEqDiff, if_true, if_false, ↓reduceIte]
            refine hK18 _ _ ?_
            try clear hK18 K18
            refine SX.seq_k fun K24 hK24 => ?_
            refine SX.region_d [some 50, none, some 3] rfl (fun ops hops => ?_)
            unfold Dsts at hops
            simp (maxSteps:=1000000)(dsimp:=false)(disch:=omega) only [go_sem, Φa, hP, h8_48, h8_2, h8_4, hops]
            refine ⟨_, Cell.at 1 rfl rfl, _, Cell.at 1 rfl rfl, _, Cell.at 1 rfl rfl, ?_⟩
            try with_reducible refine stI ?_
            try simp (maxSteps:=1000000)(dsimp:=false)(disch:=omega) only [go_sem, Φa, hP, h8_48, h8_2, h8_4, hops]
            refine ⟨0, _, _, _, rfl, (by simp), .inr (by omega), ?_⟩
            try with_reducible refine stI ?_
            try simp (maxSteps:=1000000)(dsimp:=false)(disch:=omega) only [go_sem, Φa, hP, h8_48, h8_2, h8_4, hops]
            refine hK24 _ _ ?_
            try clear hK24 K24
            refine SX.ret ?_
            simp only [andThen_normal, andThen_ret, andThen_exit, inBlk_normal, inBlk_ret, inBlk_exit, Nat.reduceEqDiff, if_true, if_false, ↓reduceIte, retQ_ret]
            try simp only [res0,res1,res2,res3,stK_e,resX,resK,oneOr,ld_ptr,loadVC,loadN,List.nil_append,List.cons_append,Nat.reduceAdd,Nat.add_zero,Nat.zero_add,Addr.add_lit,Addr.add_zero',add_addS,T.elA_41,T.lay_41,T.szA_41,T.zr_41,Tryd.underlying41,go_sem,Φa,hP,h8_48,h8_2,h8_4]
            have hd : showS (readF s) = (s, 0) := by rw [hRF]; simpa using hc48
            have hp : readP s = (⟨0, RS, shortB RS⟩, 0) := by unfold readP; rw [if_neg (by omega), if_pos hd, hRF]
            refine ⟨_, _, Less.drop _ _ |>.trans (Less.drop _ _), ⟨_, Cell.at 0 rfl rfl, _, Cell.at 0 rfl rfl, _, Cell.at 0 rfl rfl, rfl⟩, ?_⟩
            exact ⟨_, _, rs, by rw [hp]; rfl, rfl, hrow, hok, by rw [hp]; exact hrs⟩

end Go.Proofs.YtpakphgeichopaaDoor
set_option linter.unusedVariables false
set_option linter.unusedSimpArgs false
namespace Go.Proofs.YtpakphgeichopaaDoor
open Go.RowKit Go.SX Go.Proofs

theorem vast_no {f : Fm} (h : vastF f = false) : cnt f.rows ≤ 2147483647 ∧ f.rows.length ≤ 2147483647 := by
  unfold vastF at h
  rw [decide_eq_false_iff_not] at h
  omega
end Go.Proofs.YtpakphgeichopaaDoor
set_option linter.unusedVariables false
set_option linter.unusedSimpArgs false
namespace Go.Proofs.YtpakphgeichopaaDoor
open Go.RowKit Go.SX Go.Proofs
open Go.SX renaming ia_someH → Φa
theorem lessE5 {a s : Slot} {M R : Hp} : Less (a :: s :: (M ++ R)) R := Less.sublist (.cons _ (.cons _ (List.sublist_append_right M R)))

theorem readP_bnd (s : ByteArray) : cnt (readP s).1.rows ≤ 9000000000000000000 ∧ (readP s).1.rows.length ≤ 9000000000000000000 ∧ ∀ i, i < (readP s).1.rows.length → ∀ j, j < ((readP s).1.rows.getD i []).length → 0 ≤ ((readP s).1.rows.getD i []).getD j 0 ∧ ((readP s).1.rows.getD i []).getD j 0 ≤ 255 := by
  unfold readP
  split
  · exact ⟨by decide, by decide, fun i hi => absurd hi (Nat.not_lt_zero _)⟩
  · split
    · have h1 := rowsAt_cnt (s := s) (by omega)
      have h2 := rowsAt_len s 128
      exact ⟨by show cnt (rowsAt s 128) ≤ _; omega, by show (rowsAt s 128).length ≤ _; omega, rowsAt_by (s := s) (n := 128)⟩
    · exact ⟨by decide, by decide, fun i hi => absurd hi (Nat.not_lt_zero _)⟩
set_option maxHeartbeats 1000000 in
set_option maxRecDepth 100000 in
theorem FrameBack_spec {Γ : Ctx} (hP : Γ.P = Tryd.prog) {L : Hp} (S : SH Γ) (hM : HasM Γ) {v : Value} {f : Fm} {s : ByteArray} (hr : SlR (Cell Γ []) v f.rows) (hrl : f.rows.length ≤ 9223372036854775807) (hby : ∀ i, i < f.rows.length → ∀ j, j < (f.rows.getD i []).length → 0 ≤ (f.rows.getD i []).getD j 0 ∧ (f.rows.getD i []).getD j 0 ≤ 255) :
    SCall Γ 10 #[(.agg (f.cells v).toArray), (.string s)] L (fun v L' => v = .bool true ∧ L' = L) := by
  obtain ⟨A, c, rfl, hc⟩ := Sl.shape hr
  refine SCall.enter (n := 65) (res1 4) (hP ▸ Tryd.func10) rfl rfl (by simp) (res1_ok rfl) ?_
  refine SX.seq_k fun K1 hK1 => ?_
  refine SX.region_d [some 2, some 4] rfl (fun ops hops => ?_)
  unfold Dsts at hops
  simp (maxSteps:=1000000)(dsimp:=false)(disch:=omega) only [go_sem, Φa, hP, hops]
  intro b0
  try with_reducible refine stI ?_
  try simp (maxSteps:=1000000)(dsimp:=false)(disch:=omega) only [go_sem, Φa, hP, hops]
  refine hK1 _ _ ?_
  try clear hK1 K1
  refine SX.seq_k fun K2 hK2 => ?_
  refine SX.seq_k fun K3 hK3 => ?_
  refine SX.region_d [some 13, some 14] rfl (fun ops hops => ?_)
  unfold Dsts at hops
  simp (maxSteps:=1000000)(dsimp:=false)(disch:=omega) only [go_sem, Φa, hP, hops]
  refine ⟨_, Cell.at 0 rfl (show (Fm.cells _ _)[0]? = _ from rfl), _, Cell.at 0 rfl (show (Fm.cells _ _)[1]? = _ from rfl), _, Cell.at 0 rfl (show (Fm.cells _ _)[2]? = _ from rfl), ?_⟩
  try with_reducible refine stI ?_
  try simp (maxSteps:=1000000)(dsimp:=false)(disch:=omega) only [go_sem, Φa, hP, hops]
  refine SCall.mono (vast_spec (f := f) hP (SlR.mono (fun a v h => Cell.cons _ (Cell.any h)) hr) hrl) ?_
  rintro v_ L_ ⟨hv_, hL_⟩
  rw [hv_, hL_]
  clear hv_ hL_ v_ L_
  try with_reducible refine stI ?_
  try simp (maxSteps:=1000000)(dsimp:=false)(disch:=omega) only [go_sem, Φa, hP, hops]
  refine hK3 _ _ ?_
  try clear hK3 K3
  refine SX.cond_k fun X4 Y4 hX4 hY4 => ?_
  simp (maxSteps:=1000000)(dsimp:=false)(disch:=omega) only [go_sem, Φa, hP, condVC]
  refine ⟨fun hc14 => hX4 ?_, fun hc14 => hY4 ?_⟩
  · clear hX4 hY4 X4 Y4
    refine SX.seq_k fun K5 hK5 => ?_
    refine SX.region_d [some 4] rfl (fun ops hops => ?_)
    unfold Dsts at hops
    simp (maxSteps:=1000000)(dsimp:=false)(disch:=omega) only [go_sem, Φa, hP, hops]
    refine hK5 _ _ ?_
    try clear hK5 K5
    refine SX.ret ?_
    simp only [andThen_normal, andThen_ret, andThen_exit, inBlk_normal, inBlk_ret, inBlk_exit, Nat.reduceEqDiff, if_true, if_false, ↓reduceIte, retQ_ret]
    try simp only [res0, res1, res2, res3, stK_e, go_sem, Φa, hP]
    exact ⟨_, _, Less.drop _ _, rfl, rfl, rfl⟩
  · clear hX4 hY4 X4 Y4
    refine SX.skip ?_
    try simp only [andThen_normal, andThen_ret, andThen_exit, inBlk_normal, inBlk_ret, inBlk_exit, Nat.reduceEqDiff, if_true, if_false, ↓reduceIte]
    refine hK2 _ _ ?_
    try clear hK2 K2
    refine SX.seq_k fun K6 hK6 => ?_
    obtain ⟨hv1, hv2⟩ := vast_no (by simpa using hc14)
    refine SX.region_d [some 16, some 17, some 15, some 18, some 19, some 5, some 6] rfl (fun ops hops => ?_)
    unfold Dsts at hops
    simp (maxSteps:=1000000)(dsimp:=false)(disch:=omega) only [go_sem, Φa, hP, hops]
    refine ⟨_, Cell.at 0 rfl (show (Fm.cells _ _)[0]? = _ from rfl), _, Cell.at 0 rfl (show (Fm.cells _ _)[1]? = _ from rfl), _, Cell.at 0 rfl (show (Fm.cells _ _)[2]? = _ from rfl), ?_⟩
    try with_reducible refine stI ?_
    try simp (maxSteps:=1000000)(dsimp:=false)(disch:=omega) only [go_sem, Φa, hP, hops]
    refine SCall.mono (Show_spec (f := f) hP (SlR.mono (fun a v h => Cell.cons _ (Cell.any h)) hr) (by omega) (by omega) hby) ?_
    rintro v_ L_ ⟨hv_, hL_⟩
    rw [hv_, hL_]
    clear hv_ hL_ v_ L_
    try with_reducible refine stI ?_
    try simp (maxSteps:=1000000)(dsimp:=false)(disch:=omega) only [go_sem, Φa, hP, hops]
    refine hK6 _ _ ?_
    try clear hK6 K6
    refine SX.live [1, 2, 5, 6] (fun T1 hT1 => ?_)
    simp only [forall_mem_cons', forall_mem_nil', go_sem, Φa, hP] at hT1
    obtain ⟨h1_1, h1_2, h1_5, h1_6⟩ := hT1
    refine SX.live [1, 2, 5, 6] (fun T2 hT2 => ?_)
    simp only [forall_mem_cons', forall_mem_nil', go_sem, Φa, hP, h1_1, h1_2, h1_5, h1_6] at hT2
    obtain ⟨h2_1, h2_2, h2_5, h2_6⟩ := hT2
    clear h1_1 h1_2 h1_5 h1_6 T1
    refine SX.join (fun (ss : Unit) T L' => T 1 = T2 1 ∧ L' = L ∧ (True)) (fun K7 hK7 => ?_) ?_
    · simp only [h2_1] at hK7
      refine SX.seq_k fun K8 hK8 => ?_
      refine SX.region_d [some 20, some 21] rfl (fun ops hops => ?_)
      unfold Dsts at hops
      simp (maxSteps:=1000000)(dsimp:=false)(disch:=omega) only [go_sem, Φa, hP, h2_1, h2_2, h2_5, h2_6, hops]
      repeat' ((first | refine And.intro (by omega) ?_ | fail); try (with_reducible refine stI ?_); try simp (maxSteps:=1000000)(dsimp:=false)(disch:=omega) only [go_sem, Φa, hP, h2_1, h2_2, h2_5, h2_6, hops])
      refine hK8 _ _ ?_
      try clear hK8 K8
      refine SX.cond_k fun X9 Y9 hX9 hY9 => ?_
      simp (maxSteps:=1000000)(dsimp:=false)(disch:=omega) only [go_sem, Φa, hP, h2_1, h2_2, h2_5, h2_6, condVC]
      refine ⟨fun hc21 => hX9 ?_, fun hc21 => hY9 ?_⟩
      · clear hX9 hY9 X9 Y9
        refine SX.seq_k fun K10 hK10 => ?_
        have hmt : mayF f = true := by
          rcases hmm : mayF f with _ | _
          · have h1 : (showS f).2 = 1 := by unfold showS; rw [if_neg (by rw [hmm]; exact Bool.false_ne_true)]
            rw [h1] at hc21; first | exact absurd hc21 (by decide) | simp at hc21
          · rfl
        have hRP := readP_show hmt (fun r hr => by
          obtain ⟨i, hi⟩ := List.mem_iff_getElem?.1 hr
          have hil := (List.getElem?_eq_some_iff.1 hi).1
          intro x hx
          obtain ⟨j, hj⟩ := List.mem_iff_getElem?.1 hx
          have hjl := (List.getElem?_eq_some_iff.1 hj).1
          have := hby i hil j (by rw [List.getD_eq_getElem?_getD, hi]; exact hjl)
          rw [List.getD_eq_getElem?_getD (l := f.rows), hi] at this
          simp only [Option.getD_some] at this
          rwa [List.getD_eq_getElem?_getD, hj] at this)
        refine SX.region_d [some 23, some 24, some 22, some 25, some 26, some 7, none, some 8] rfl (fun ops hops => ?_)
        unfold Dsts at hops
        simp (maxSteps:=1000000)(dsimp:=false)(disch:=omega) only [go_sem, Φa, hP, h2_1, h2_2, h2_5, h2_6, hops]
        refine SCall.mono (Read_spec hP hM) ?_
        rintro v_ L_ ⟨vo, so, rs, hv_, rfl, hrow, hok, hrs⟩
        rw [hRP] at hv_ hrs
        obtain ⟨VA, vc, rfl, hvc, _⟩ := Row.form hrow
        obtain rfl : v_ = .tuple #[.agg #[.int .i64 0, .slice VA rs.length vc, .bool f.sh], .int .i64 0] := hv_
        dsimp only at hrs
        try with_reducible refine stI ?_
        try simp (maxSteps:=1000000)(dsimp:=false)(disch:=omega) only [go_sem, Φa, hP, h2_1, h2_2, h2_5, h2_6, hops]
        intro g7
        try with_reducible refine stI ?_
        try simp (maxSteps:=1000000)(dsimp:=false)(disch:=omega) only [go_sem, Φa, hP, h2_1, h2_2, h2_5, h2_6, hops]
        refine ⟨0, _, _, _, rfl, (by decide), .inr (by omega), ?_⟩
        try with_reducible refine stI ?_
        try simp (maxSteps:=1000000)(dsimp:=false)(disch:=omega) only [go_sem, Φa, hP, h2_1, h2_2, h2_5, h2_6, hops]
        refine hK10 _ _ ?_
        try clear hK10 K10
        refine SX.live [1, 2, 7, 8] (fun T3 hT3 => ?_)
        simp only [forall_mem_cons', forall_mem_nil', go_sem, Φa, hP, h2_1, h2_2, h2_5, h2_6] at hT3
        obtain ⟨h3_1, h3_2, h3_7, h3_8⟩ := hT3
        clear h2_1 h2_2 h2_5 h2_6 T2
        refine SX.seq_k fun K11 hK11 => ?_
        refine SX.less (L' := some (b0, .cells [.int .i64 f.at_, .slice A f.rows.length c, .bool f.sh].toArray 41 (0, 0)) :: some (g7, .cells [.int .i64 0, .slice VA rs.length vc, .bool f.sh].toArray 41 (0, 0)) :: so :: (rsl rs ++ L)) lessF ?_
        refine SX.region_d [some 27, none] rfl (fun ops hops => ?_)
        unfold Dsts at hops
        simp (maxSteps:=1000000)(dsimp:=false)(disch:=omega) only [go_sem, Φa, hP, h3_1, h3_2, h3_7, h3_8, hops]
        refine ⟨0, _, _, _, rfl, (by simp), .inr (by omega), ?_⟩
        try with_reducible refine stI ?_
        try simp (maxSteps:=1000000)(dsimp:=false)(disch:=omega) only [go_sem, Φa, hP, h3_1, h3_2, h3_7, h3_8, hops]
        refine hK11 _ _ ?_
        try clear hK11 K11
        refine SX.seq_k fun K12 hK12 => ?_
        refine SX.region_xd [some 28, some 29, some 30, some 31, some 32, some 33, some 34, some 35] rfl (fun ops hops => ?_)
        unfold Dsts at hops
        refine RX.live [1, 2, 7, 8] (fun T4 hT4 => ?_)
        simp only [forall_mem_cons', forall_mem_nil', go_sem, Φa, hP, h3_1, h3_2, h3_7, h3_8] at hT4
        obtain ⟨h4_1, h4_2, h4_7, h4_8⟩ := hT4
        clear h3_1 h3_2 h3_7 h3_8 T3
        have hra : SlR (Cell Γ (some (b0, .cells [.int .i64 0, .slice A f.rows.length c, .bool f.sh].toArray 41 (0, 0)) :: some (g7, .cells [.int .i64 0, .slice VA rs.length vc, .bool f.sh].toArray 41 (0, 0)) :: so :: (rsl rs ++ L))) (.slice A f.rows.length c) f.rows := SlR.mono (fun a v h => Cell.any h) hr
        have hrb : SlR (Cell Γ (some (b0, .cells [.int .i64 0, .slice A f.rows.length c, .bool f.sh].toArray 41 (0, 0)) :: some (g7, .cells [.int .i64 0, .slice VA rs.length vc, .bool f.sh].toArray 41 (0, 0)) :: so :: (rsl rs ++ L))) (.slice VA rs.length vc) f.rows := by
          have h := RowR.sl (Γ := Γ) (L := some (b0, .cells [.int .i64 0, .slice A f.rows.length c, .bool f.sh].toArray 41 (0, 0)) :: some (g7, .cells [.int .i64 0, .slice VA rs.length vc, .bool f.sh].toArray 41 (0, 0)) :: so :: (rsl rs ++ L)) hrow hok (List.mem_cons_of_mem _ (List.mem_cons_of_mem _ (List.mem_cons_self ..))) (fun x hx => List.mem_cons_of_mem _ (List.mem_cons_of_mem _ (List.mem_cons_of_mem _ (List.mem_append_left _ hx))))
          rwa [hrs] at h
        refine RX.join 8 (fun (ss : Unit) T L' => T 35 = .bool (false) ∧ T 1 = T4 1 ∧ L' = some (b0, .cells [.int .i64 0, .slice A f.rows.length c, .bool f.sh].toArray 41 (0, 0)) :: some (g7, .cells [.int .i64 0, .slice VA rs.length vc, .bool f.sh].toArray 41 (0, 0)) :: so :: (rsl rs ++ L) ∧ (True)) (fun K13 hK13 => ?_) ?_
        · simp only [h4_1] at hK13
          simp (maxSteps:=1000000)(dsimp:=false)(disch:=omega) only [go_sem, Φa, hP, h4_1, h4_2, h4_7, h4_8, hops]
          repeat' (first | refine iteB (fun hg => ?_) (fun hg => ?_) | refine iteI (fun hg => ?_) (fun hg => ?_) | ((first | refine ⟨_, Cell.at 0 rfl rfl, _, Cell.at 0 rfl rfl, _, Cell.at 0 rfl rfl, ?_⟩ | refine ⟨_, Cell.at 1 rfl rfl, _, Cell.at 1 rfl rfl, _, Cell.at 1 rfl rfl, ?_⟩ | (refine SCall.mono (Same_spec (f := (⟨0, f.rows, f.sh⟩ : Fm)) hP hra hrb (by show cnt f.rows ≤ _; omega) (by show f.rows.length ≤ _; omega)) ?_; rintro v_ L_ ⟨hv_, hL_⟩; rw [hv_, hL_]; clear hv_ hL_ v_ L_) | refine And.intro (by omega) ?_ | refine ⟨_, Cell.at 0 rfl rfl, _, Cell.at 0 rfl rfl, _, Cell.at 0 rfl rfl, ?_⟩ | refine ⟨_, Cell.at 1 rfl rfl, _, Cell.at 1 rfl rfl, _, Cell.at 1 rfl rfl, ?_⟩ | refine ⟨_, Cell.at 2 rfl rfl, _, Cell.at 2 rfl rfl, _, Cell.at 2 rfl rfl, ?_⟩ | refine ⟨_, Cell.at 0 rfl rfl, ?_⟩ | refine ⟨_, Cell.at 1 rfl rfl, ?_⟩ | refine ⟨_, Cell.at 2 rfl rfl, ?_⟩ | fail); try (with_reducible refine stI ?_); try simp (maxSteps:=1000000)(dsimp:=false)(disch:=omega) only [go_sem, Φa, hP, h4_1, h4_2, h4_7, h4_8, hops]) | fail)
          all_goals
            refine hK13 () _ (some (b0, .cells [.int .i64 0, .slice A f.rows.length c, .bool f.sh].toArray 41 (0, 0)) :: some (g7, .cells [.int .i64 0, .slice VA rs.length vc, .bool f.sh].toArray 41 (0, 0)) :: so :: (rsl rs ++ L)) _ (by first | exact Less.refl _ | exact Less.drop _ _ | exact Less.drops (Less.drop _ _) | exact Less.drops (Less.drops (Less.drop _ _)) | exact Less.drops (Less.drops (Less.drops (Less.drop _ _))) | exact Less.drops (Less.drops (Less.drops (Less.drops (Less.drop _ _))))) ?_
            try dsimp only
            refine ⟨?_, ?_, ?_, ?_⟩
            · simp (maxSteps:=1000000)(dsimp:=false)(disch:=omega) only [go_sem, Φa, hP, h4_1, h4_2, h4_7, h4_8]
              first | done | rfl
            · simp (maxSteps:=1000000)(dsimp:=false)(disch:=omega) only [go_sem, Φa, hP, h4_1, h4_2, h4_7, h4_8]
            · rfl
            · trivial
        · intro ss T5 L5 hI
          simp only [h4_1] at hI 
          obtain ⟨h5_35, h5_1, hL5, hinv⟩ := hI
          replace hL5 := hL5.symm
          subst hL5
          clear h4_1 h4_2 h4_7 h4_8 T4
          refine RX.done ?_
          simp (maxSteps:=1000000)(dsimp:=false)(disch:=omega) only [go_sem, Φa, hP, h5_35, h5_1, hops]
          refine hK12 _ _ ?_
          try clear hK12 K12
          refine SX.cond_k fun X14 Y14 hX14 hY14 => ?_
          simp (maxSteps:=1000000)(dsimp:=false)(disch:=omega) only [go_sem, Φa, hP, h5_35, h5_1, condVC]
          refine hY14 ?_
          clear hX14 hY14 X14 Y14
          refine SX.skip ?_
          try simp only [andThen_normal, andThen_ret, andThen_exit, inBlk_normal, inBlk_ret, inBlk_exit, Nat.reduceEqDiff, if_true, if_false, ↓reduceIte]
          refine hK7 () _ (L) _ (by exact lessE4) ?_
          try dsimp only
          refine ⟨?_, ?_, ?_⟩
          · simp (maxSteps:=1000000)(dsimp:=false)(disch:=omega) only [go_sem, Φa, hP, h5_35, h5_1]
          · rfl
          · trivial
      · clear hX9 hY9 X9 Y9
        refine SX.skip ?_
        try simp only [andThen_normal, andThen_ret, andThen_exit, inBlk_normal, inBlk_ret, inBlk_exit, Nat.reduceEqDiff, if_true, if_false, ↓reduceIte]
        refine hK7 () _ (L) _ (by exact Less.drop _ _) ?_
        try dsimp only
        refine ⟨?_, ?_, ?_⟩
        · simp (maxSteps:=1000000)(dsimp:=false)(disch:=omega) only [go_sem, Φa, hP, h2_1, h2_2, h2_5, h2_6]
        · rfl
        · trivial
    · intro ss T6 L6 hI
      simp only [h2_1] at hI 
      obtain ⟨h6_1, hL6, hinv⟩ := hI
      replace hL6 := hL6.symm
      subst hL6
      clear h2_1 h2_2 h2_5 h2_6 T2
      refine SX.seq_k fun K15 hK15 => ?_
      obtain ⟨hb1, hb2, hb3⟩ := readP_bnd s
      have hok0 := @readP_ok s
      have hbad := @readP_bad s
      obtain ⟨g, e, hge⟩ : ∃ g e, readP s = (g, e) := ⟨_, _, rfl⟩
      refine SX.region_d [some 37, some 38, some 36, some 39, some 40, some 9, none, some 10] rfl (fun ops hops => ?_)
      unfold Dsts at hops
      simp (maxSteps:=1000000)(dsimp:=false)(disch:=omega) only [go_sem, Φa, hP, h6_1, hops]
      refine SCall.mono (Read_spec hP hM) ?_
      rintro v_ L_ ⟨vo, so2, rs2, hv_, rfl, hrow2, hok2, hrs2⟩
      rw [hge] at hv_ hrs2 hb1 hb2 hb3 hok0 hbad
      obtain ⟨VB, vd, rfl, hvd, _⟩ := Row.form hrow2
      obtain rfl : v_ = .tuple #[.agg #[.int .i64 g.at_, .slice VB rs2.length vd, .bool g.sh], .int .i64 e] := hv_
      dsimp only at hrs2 hb1 hb2 hb3 hok0 hbad
      try with_reducible refine stI ?_
      try simp (maxSteps:=1000000)(dsimp:=false)(disch:=omega) only [go_sem, Φa, hP, h6_1, hops]
      intro g9
      try with_reducible refine stI ?_
      try simp (maxSteps:=1000000)(dsimp:=false)(disch:=omega) only [go_sem, Φa, hP, h6_1, hops]
      refine ⟨0, _, _, _, rfl, (by decide), .inr (by omega), ?_⟩
      try with_reducible refine stI ?_
      try simp (maxSteps:=1000000)(dsimp:=false)(disch:=omega) only [go_sem, Φa, hP, h6_1, hops]
      refine hK15 _ _ ?_
      try clear hK15 K15
      refine SX.seq_k fun K16 hK16 => ?_
      refine SX.seq_k fun K17 hK17 => ?_
      refine SX.region_d [some 41, some 42] rfl (fun ops hops => ?_)
      unfold Dsts at hops
      simp (maxSteps:=1000000)(dsimp:=false)(disch:=omega) only [go_sem, Φa, hP, h6_1, hops]
      repeat' ((first | refine And.intro (by omega) ?_ | fail); try (with_reducible refine stI ?_); try simp (maxSteps:=1000000)(dsimp:=false)(disch:=omega) only [go_sem, Φa, hP, h6_1, hops])
      refine hK17 _ _ ?_
      try clear hK17 K17
      refine SX.live [1, 9, 42] (fun T7 hT7 => ?_)
      simp only [forall_mem_cons', forall_mem_nil', go_sem, Φa, hP, h6_1] at hT7
      obtain ⟨h7_1, h7_9, h7_42⟩ := hT7
      clear h6_1 T6
      refine SX.cond_k fun X18 Y18 hX18 hY18 => ?_
      simp (maxSteps:=1000000)(dsimp:=false)(disch:=omega) only [go_sem, Φa, hP, h7_1, h7_9, h7_42, condVC]
      refine ⟨fun hc42 => hX18 ?_, fun hc42 => hY18 ?_⟩
      · clear hX18 hY18 X18 Y18
        refine SX.seq_k fun K19 hK19 => ?_
        refine SX.region_xd [some 43, some 44, some 45, some 46, some 47, some 48, some 49, some 4] rfl (fun ops hops => ?_)
        unfold Dsts at hops
        refine RX.live [9] (fun T8 hT8 => ?_)
        simp only [forall_mem_cons', forall_mem_nil', go_sem, Φa, hP, h7_1, h7_9, h7_42] at hT8
        have h8_9 := hT8; clear hT8
        clear h7_1 h7_9 h7_42 T7
        obtain rfl : g = zF := hbad hc42
        obtain rfl : rs2 = [] := List.map_eq_nil_iff.1 hrs2
        refine RX.join 7 (fun (ss : Unit) T L' => T 49 = .bool (true) ∧ L' = some (g9, .cells [.int .i64 zF.at_, .slice VB ([] : List Rw).length vd, .bool zF.sh].toArray 41 (0, 0)) :: so2 :: (rsl ([] : List Rw) ++ L) ∧ (True)) (fun K20 hK20 => ?_) ?_
        · simp (maxSteps:=1000000)(dsimp:=false)(disch:=omega) only [go_sem, Φa, hP, h8_9, hops]
          repeat' (first | refine iteB (fun hg => ?_) (fun hg => ?_) | refine iteI (fun hg => ?_) (fun hg => ?_) | ((first | refine ⟨_, Cell.at 0 rfl rfl, ?_⟩ | (refine SCall.mono (awake_spec hP S) ?_; rintro v_ L_ ⟨hv_, hL_⟩; rw [hv_, hL_]; clear hv_ hL_ v_ L_) | refine And.intro (by omega) ?_ | refine ⟨_, Cell.at 0 rfl rfl, ?_⟩ | refine ⟨_, Cell.at 1 rfl rfl, ?_⟩ | fail); try (with_reducible refine stI ?_); try simp (maxSteps:=1000000)(dsimp:=false)(disch:=omega) only [go_sem, Φa, hP, h8_9, hops]) | fail)
          all_goals
            refine hK20 () _ (some (g9, .cells [.int .i64 zF.at_, .slice VB ([] : List Rw).length vd, .bool zF.sh].toArray 41 (0, 0)) :: so2 :: (rsl ([] : List Rw) ++ L)) _ (by first | exact Less.refl _ | exact Less.drop _ _ | exact Less.drops (Less.drop _ _) | exact Less.drops (Less.drops (Less.drop _ _)) | exact Less.drops (Less.drops (Less.drops (Less.drop _ _))) | exact Less.drops (Less.drops (Less.drops (Less.drops (Less.drop _ _))))) ?_
            try dsimp only
            refine ⟨?_, ?_, ?_⟩
            · simp (maxSteps:=1000000)(dsimp:=false)(disch:=omega) only [go_sem, Φa, hP, h8_9]
              first | done | rfl
            · rfl
            · trivial
        · intro ss T9 L9 hI
          obtain ⟨h9_49, hL9, hinv⟩ := hI
          replace hL9 := hL9.symm
          subst hL9
          clear h8_9 T8
          refine RX.done ?_
          simp (maxSteps:=1000000)(dsimp:=false)(disch:=omega) only [go_sem, Φa, hP, h9_49, hops]
          refine hK19 _ _ ?_
          try clear hK19 K19
          refine SX.ret ?_
          simp only [andThen_normal, andThen_ret, andThen_exit, inBlk_normal, inBlk_ret, inBlk_exit, Nat.reduceEqDiff, if_true, if_false, ↓reduceIte, retQ_ret]
          try simp only [res0, res1, res2, res3, stK_e, go_sem, Φa, hP, h9_49]
          exact ⟨_, _, lessE5, rfl, rfl, rfl⟩
      · clear hX18 hY18 X18 Y18
        refine SX.skip ?_
        try simp only [andThen_normal, andThen_ret, andThen_exit, inBlk_normal, inBlk_ret, inBlk_exit, Nat.reduceEqDiff, if_true, if_false, ↓reduceIte]
        refine hK16 _ _ ?_
        try clear hK16 K16
        refine SX.seq_k fun K21 hK21 => ?_
        have he : e = 0 := by simpa using hc42
        have hsg := hok0 he
        have hsl : SlR (Cell Γ (some (g9, .cells [.int .i64 g.at_, .slice VB rs2.length vd, .bool g.sh].toArray 41 (0, 0)) :: so2 :: (rsl rs2 ++ L))) (.slice VB rs2.length vd) g.rows := by
          have h := RowR.sl (Γ := Γ) (L := some (g9, .cells [.int .i64 g.at_, .slice VB rs2.length vd, .bool g.sh].toArray 41 (0, 0)) :: so2 :: (rsl rs2 ++ L)) hrow2 hok2 (List.mem_cons_of_mem _ (List.mem_cons_self ..)) (fun x hx => List.mem_cons_of_mem _ (List.mem_cons_of_mem _ (List.mem_append_left _ hx)))
          rwa [hrs2] at h
        refine SX.region_d [some 51, some 52, some 50, some 53, some 54, some 11, some 12] rfl (fun ops hops => ?_)
        unfold Dsts at hops
        simp (maxSteps:=1000000)(dsimp:=false)(disch:=omega) only [go_sem, Φa, hP, h7_1, h7_9, h7_42, hops]
        refine ⟨_, Cell.at 0 rfl rfl, _, Cell.at 0 rfl rfl, _, Cell.at 0 rfl rfl, ?_⟩
        try with_reducible refine stI ?_
        try simp (maxSteps:=1000000)(dsimp:=false)(disch:=omega) only [go_sem, Φa, hP, h7_1, h7_9, h7_42, hops]
        refine SCall.mono (Show_spec (f := g) hP hsl hb1 hb2 hb3) ?_
        rintro v_ L_ ⟨hv_, hL_⟩
        rw [hsg] at hv_
        rw [hv_, hL_]
        clear hv_ hL_ v_ L_
        try with_reducible refine stI ?_
        try simp (maxSteps:=1000000)(dsimp:=false)(disch:=omega) only [go_sem, Φa, hP, h7_1, h7_9, h7_42, hops]
        refine hK21 _ _ ?_
        try clear hK21 K21
        refine SX.seq_k fun K22 hK22 => ?_
        refine SX.region_xd [some 55, some 56, some 57, some 58, some 59, some 60, some 61, some 62, some 63, some 64, some 4] rfl (fun ops hops => ?_)
        unfold Dsts at hops
        refine RX.live [1, 11, 12] (fun T10 hT10 => ?_)
        simp only [forall_mem_cons', forall_mem_nil', go_sem, Φa, hP, h7_1, h7_9, h7_42] at hT10
        obtain ⟨h10_1, h10_11, h10_12⟩ := hT10
        clear h7_1 h7_9 h7_42 T7
        refine RX.join 7 (fun (ss : Unit) T L' => T 61 = .bool (true) ∧ L' = some (g9, .cells [.int .i64 g.at_, .slice VB rs2.length vd, .bool g.sh].toArray 41 (0, 0)) :: so2 :: (rsl rs2 ++ L) ∧ (True)) (fun K23 hK23 => ?_) ?_
        · simp (maxSteps:=1000000)(dsimp:=false)(disch:=omega) only [go_sem, Φa, hP, h10_1, h10_11, h10_12, hops]
          repeat' (first | refine iteB (fun hg => ?_) (fun hg => ?_) | refine iteI (fun hg => ?_) (fun hg => ?_) | ((first | (refine SCall.mono (awake_spec hP S) ?_; rintro v_ L_ ⟨hv_, hL_⟩; rw [hv_, hL_]; clear hv_ hL_ v_ L_) | refine And.intro (by omega) ?_ | refine ⟨_, Cell.at 0 rfl rfl, ?_⟩ | refine ⟨_, Cell.at 1 rfl rfl, ?_⟩ | fail); try (with_reducible refine stI ?_); try simp (maxSteps:=1000000)(dsimp:=false)(disch:=omega) only [go_sem, Φa, hP, h10_1, h10_11, h10_12, hops]) | fail)
          all_goals
            refine hK23 () _ (some (g9, .cells [.int .i64 g.at_, .slice VB rs2.length vd, .bool g.sh].toArray 41 (0, 0)) :: so2 :: (rsl rs2 ++ L)) _ (by first | exact Less.refl _ | exact Less.drop _ _ | exact Less.drops (Less.drop _ _) | exact Less.drops (Less.drops (Less.drop _ _)) | exact Less.drops (Less.drops (Less.drops (Less.drop _ _))) | exact Less.drops (Less.drops (Less.drops (Less.drops (Less.drop _ _))))) ?_
            try dsimp only
            refine ⟨?_, ?_, ?_⟩
            · simp (maxSteps:=1000000)(dsimp:=false)(disch:=omega) only [go_sem, Φa, hP, h10_1, h10_11, h10_12]
              first | done | rfl | (refine congrArg Value.bool ?_; simp; done)
            · rfl
            · trivial
        · intro ss T11 L11 hI
          obtain ⟨h11_61, hL11, hinv⟩ := hI
          replace hL11 := hL11.symm
          subst hL11
          clear h10_1 h10_11 h10_12 T10
          refine RX.live [61] (fun T12 hT12 => ?_)
          simp only [forall_mem_cons', forall_mem_nil', go_sem, Φa, hP, h11_61] at hT12
          have h12_61 := hT12; clear hT12
          clear h11_61 T11
          refine RX.join 3 (fun (ss : Unit) T L' => T 64 = .bool (true) ∧ L' = some (g9, .cells [.int .i64 g.at_, .slice VB rs2.length vd, .bool g.sh].toArray 41 (0, 0)) :: so2 :: (rsl rs2 ++ L) ∧ (True)) (fun K24 hK24 => ?_) ?_
          · simp (maxSteps:=1000000)(dsimp:=false)(disch:=omega) only [go_sem, Φa, hP, h12_61, hops]
            repeat' (first | refine iteB (fun hg => ?_) (fun hg => ?_) | refine iteI (fun hg => ?_) (fun hg => ?_) | ((first | (refine SCall.mono (awake_spec hP S) ?_; rintro v_ L_ ⟨hv_, hL_⟩; rw [hv_, hL_]; clear hv_ hL_ v_ L_) | refine And.intro (by omega) ?_ | refine ⟨_, Cell.at 0 rfl rfl, ?_⟩ | refine ⟨_, Cell.at 1 rfl rfl, ?_⟩ | fail); try (with_reducible refine stI ?_); try simp (maxSteps:=1000000)(dsimp:=false)(disch:=omega) only [go_sem, Φa, hP, h12_61, hops]) | fail)
            all_goals
              refine hK24 () _ (some (g9, .cells [.int .i64 g.at_, .slice VB rs2.length vd, .bool g.sh].toArray 41 (0, 0)) :: so2 :: (rsl rs2 ++ L)) _ (by first | exact Less.refl _ | exact Less.drop _ _ | exact Less.drops (Less.drop _ _) | exact Less.drops (Less.drops (Less.drop _ _)) | exact Less.drops (Less.drops (Less.drops (Less.drop _ _))) | exact Less.drops (Less.drops (Less.drops (Less.drops (Less.drop _ _))))) ?_
              try dsimp only
              refine ⟨?_, ?_, ?_⟩
              · simp (maxSteps:=1000000)(dsimp:=false)(disch:=omega) only [go_sem, Φa, hP, h12_61]
                first | done | rfl | (refine congrArg Value.bool ?_; simp; done)
              · rfl
              · trivial
          · intro ss T13 L13 hI
            obtain ⟨h13_64, hL13, hinv⟩ := hI
            replace hL13 := hL13.symm
            subst hL13
            clear h12_61 T12
            refine RX.done ?_
            simp (maxSteps:=1000000)(dsimp:=false)(disch:=omega) only [go_sem, Φa, hP, h13_64, hops]
            refine hK22 _ _ ?_
            try clear hK22 K22
            refine SX.ret ?_
            simp only [andThen_normal, andThen_ret, andThen_exit, inBlk_normal, inBlk_ret, inBlk_exit, Nat.reduceEqDiff, if_true, if_false, ↓reduceIte, retQ_ret]
            try simp only [res0, res1, res2, res3, stK_e, go_sem, Φa, hP, h13_64]
            exact ⟨_, _, lessE5, rfl, rfl, rfl⟩

end Go.Proofs.YtpakphgeichopaaDoor
set_option linter.unusedVariables false
namespace Go.Proofs.YtpakphgeichopaaDoor
open Go.ChangeShapes Go.WideShapes Go.ChangeAt Go.RowKit Go.SX
/-! What is handed in: rasters, records, frames; the laid variable. -/
theorem own : ownKnob Tryd.prog.godebug = none := by kernel_rfl
theorem laidOut : laidOutB Tryd.prog = true := by kernel_rfl
theorem cells3 : Tryd.prog.cellsOf 3 = 1 := by kernel_rfl
theorem cells5 : Tryd.prog.cellsOf 5 = 1 := by kernel_rfl
theorem cells41 : Tryd.prog.cellsOf 41 = 3 := by kernel_rfl
theorem cells50 : Tryd.prog.cellsOf 50 = 1 := by kernel_rfl
theorem cellsE : Tryd.prog.cellsOf 89 = 2 := by kernel_rfl
theorem cellsS : Tryd.prog.cellsOf 90 = 2 := by kernel_rfl
theorem gSh : Tryd.prog.globalNamed "vesper/pixie.shown" = some 0 := by kernel_rfl
theorem tSh : (Tryd.prog.globals[0]?).map (·.type) = some 90 := by kernel_rfl
theorem shown_of {W : World} {laid : List (String × DataW Unit)} (hp : (laid.all fun x => x.2.handleName?.isNone) = true) (hL : laidMetH Tryd.prog laid W) (hm : ("vesper/pixie.shown", Rows.laid_vesper_pixie_shown) ∈ laid) : SH ⟨Tryd.prog, W, []⟩ := by
  obtain ⟨cs, f, p, h1, h2⟩ := laid_var hp hL hm gSh tSh
  have key := trod_arr_arr (zss := [[80, 207]]) Tryd.underlying90 Tryd.underlying89 Tryd.underlying3 cells3 cellsE cellsS (by intro zs hz; rw [List.mem_singleton.1 hz]; rfl) h1 rfl
  intro L i b hb
  have hi : ([[80, 207]] : List (List Int))[i]? = some [b.1, b.2] := by
    cases i with
    | zero => simp at hb; subst hb; rfl
    | succ i => simp at hb
  constructor
  · refine Cell.old (by simp) ?_
    rw [Addr.add_lit, Nat.zero_add, h2]
    exact key i 0 _ _ hi rfl
  · refine Cell.old (by simp) ?_
    rw [Addr.add_lit, Nat.zero_add, h2]
    exact key i 1 _ _ hi rfl
section
variable {H : Type} {enc : TypeId × Value → H} {W : World} {base : Nat} {v : Value} {d : DataW H} {p : List MemPlace}
/-- Rows of bytes that are handed in. -/
def RowsIn (W : World) (v : Value) (l : List (List Int)) : Prop := SlR (Cell ⟨Tryd.prog, W, []⟩ []) v l ∧ (∀ r ∈ l, Byte r ∧ r.length ≤ 9223372036854775807) ∧ l.length ≤ 9223372036854775807
set_option maxRecDepth 100000 in
theorem open_rowsV {n : Nat} {y : DataW H × List MemPlace} (hy : DataW.trod enc Tryd.prog W 0 (fun _ => true) true n 39 [v] = some y) : ∃ l, RowsIn W v l := by
  obtain ⟨l, ⟨A, c, h1, h2, h3⟩, hl⟩ := open_slR (R := fun cs (r : List Int) => ∃ u, cs = [u] ∧ SlI .u8 (Cell ⟨Tryd.prog, W, []⟩ []) u r ∧ Byte r ∧ r.length ≤ 9223372036854775807) Tryd.underlying39 cells50 (fun n cs y hy => by
    cases n with
    | zero => simp [DataW.trod] at hy
    | succ n =>
      obtain ⟨u, rfl⟩ : ∃ u, cs = [u] := by
        rcases DataW.trod_slice Tryd.underlying50 hy with ⟨h, _⟩ | ⟨a, len, cap, _, _, _, _, h, _⟩
        · exact ⟨_, h⟩
        · exact ⟨_, h⟩
      obtain ⟨xs, hx, hw, hl⟩ := open_slv Tryd.underlying50 Tryd.underlying5 cells5 hy
      exact ⟨xs, u, rfl, hx, fun n hn => by have := bounds_u8 (hw n hn); omega, hl⟩) hy
  refine ⟨l, ⟨A, c, h1, h2, fun j x hj => ?_⟩, fun r hr => ?_, hl⟩
  · obtain ⟨a, ha, cs, _, ⟨u, rfl, k1, _⟩, k⟩ := h3 j x hj
    refine ⟨a, ha, u, ?_, k1⟩
    have := k 0 _ rfl
    simpa [Addr.add_zero'] using this
  · obtain ⟨j, hj⟩ := List.mem_iff_getElem?.1 hr
    obtain ⟨a, ha, cs, _, ⟨u, _, _, k⟩, _⟩ := h3 j r hj
    exact k
set_option maxRecDepth 100000 in
theorem open_frame (hv : Value.okWide Tryd.prog W .any base 41 v) (h : DataW.Trod enc Tryd.prog W 0 (fun _ => true) true 41 v d p) :
    ∃ (f : Fm) (rv : Value), v = .agg (f.cells rv).toArray ∧ RowsIn W rv f.rows ∧ (Lit.int .i64 f.at_).wf = true := by
  obtain ⟨cs, rfl, _⟩ := okWide_struct Tryd.underlying41 hv
  obtain ⟨fuel, hy⟩ := h
  obtain ⟨xs, m, _, _, hcs, hxs, hf⟩ := DataW.trod_struct Tryd.underlying41 hy
  rw [cells41] at hcs
  obtain ⟨l⟩ := cs
  match l, hcs with
  | [c0, c1, c2], _ =>
    have h0 : DataW.trod enc Tryd.prog W 0 (fun _ => true) true m 3 [c0] = xs[0]? := hf 0 _ rfl
    have h1 : DataW.trod enc Tryd.prog W 0 (fun _ => true) true m 39 [c1] = xs[1]? := hf 1 _ rfl
    have h2 : DataW.trod enc Tryd.prog W 0 (fun _ => true) true m 4 [c2] = xs[2]? := hf 2 _ rfl
    rw [List.getElem?_eq_getElem (by rw [hxs]; decide)] at h0 h1 h2
    obtain ⟨n, e1, _, e3⟩ := DataW.trod_int Tryd.underlying3 h0
    obtain ⟨b, e2, _⟩ := DataW.trod_bool Tryd.underlying4 h2
    obtain ⟨rows, hr⟩ := open_rowsV h1
    simp at e1 e2
    subst e1 e2
    exact ⟨⟨n, rows, b⟩, c1, rfl, hr, e3⟩
theorem RowsIn.by_ {rv : Value} {l : List (List Int)} (h : RowsIn W rv l) : ∀ i, i < l.length → ∀ j, j < (l.getD i []).length → 0 ≤ (l.getD i []).getD j 0 ∧ (l.getD i []).getD j 0 ≤ 255 := fun i hi j hj => by
  have hm := (h.2.1 _ (List.mem_of_getElem? (getD_get (d := []) hi))).1
  exact hm _ (List.mem_of_getElem? (getD_get (d := 0) hj))
end
end Go.Proofs.YtpakphgeichopaaDoor
