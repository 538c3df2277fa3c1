/- A part of a proof: contracts and plain facts that it stands on. -/
import Derived.Test.YtpakphgeichopaaDoorCC
import Derived.Test.YtpakphgeichopaaDoorRows
import Derived.Test.YtpakphgeichopaaDoorCards
import Derived.Test.YtpakphgeichopaaDoorTie
import Derived.SevenTiedAt
import Derived.Lib.SmallJoins
set_option linter.unusedVariables false
set_option linter.unusedSimpArgs false
namespace Go.Proofs.YtpakphgeichopaaDoor
open Go.RowKit Go.SX Go.Proofs
open Go.SX renaming ia_someH → Φa
set_option maxHeartbeats 1000000 in
set_option maxRecDepth 100000 in
theorem ShowB_spec {Γ : Ctx} (hP : Γ.P = Tryd.prog) {L : Hp} (ho : Γ.own = []) {v : Value} {f : Fm} (hr : SlR (Cell Γ []) v f.rows) (hm : cnt f.rows ≤ 9000000000000000000) (hrl : f.rows.length ≤ 9000000000000000000) (hby : ∀ i, i < f.rows.length → ∀ j, j < (f.rows.getD i []).length → 0 ≤ (f.rows.getD i []).getD j 0 ∧ (f.rows.getD i []).getD j 0 ≤ 255) :
    SCall Γ 18 #[(.agg (f.cells v).toArray)] ([]) (fun v L' => v = .tuple #[.string (showS f).1, .int .i64 (showS f).2] ∧ L' = []) := by
  obtain ⟨A, c, rfl, hc⟩ := Sl.shape hr
  obtain ⟨a1, e1, _, hA⟩ := slR_at hr
  refine SCall.enter (n := 41) (res2 2 3) (hP ▸ Tryd.func18) rfl rfl (by simp) (res2_ok rfl) ?_
  refine SX.seq_k fun K1 hK1 => ?_
  refine SX.region_d [some 1, some 2, some 3] rfl (fun ops hops => ?_)
  unfold Dsts at hops
  simp (maxSteps:=1000000)(dsimp:=false)(disch:=omega) only [go_sem, Φa, hP, hops]
  intro b0
  try with_reducible refine stI ?_
  try simp (maxSteps:=1000000)(dsimp:=false)(disch:=omega) only [go_sem, Φa, hP, hops]
  refine hK1 _ _ ?_
  try clear hK1 K1
  refine SX.seq_k fun K2 hK2 => ?_
  refine SX.seq_k fun K3 hK3 => ?_
  refine SX.region_d [some 10, some 11, some 12] rfl (fun ops hops => ?_)
  unfold Dsts at hops
  simp (maxSteps:=1000000)(dsimp:=false)(disch:=omega) only [go_sem, Φa, hP, hops]
  refine ⟨_, Cell.at 0 rfl (show (Fm.cells _ _)[0]? = _ from rfl), _, Cell.at 0 rfl (show (Fm.cells _ _)[1]? = _ from rfl), _, Cell.at 0 rfl (show (Fm.cells _ _)[2]? = _ from rfl), ?_⟩
  try with_reducible refine stI ?_
  try simp (maxSteps:=1000000)(dsimp:=false)(disch:=omega) only [go_sem, Φa, hP, hops]
  refine SCall.mono (check_spec (f := f) hP (SlR.mono (fun a v h => Cell.any h) hr) hm hrl) ?_
  rintro v_ L_ ⟨hv_, hL_⟩
  rw [hv_, hL_]
  clear hv_ hL_ v_ L_
  try with_reducible refine stI ?_
  try simp (maxSteps:=1000000)(dsimp:=false)(disch:=omega) only [go_sem, Φa, hP, hops]
  refine hK3 _ _ ?_
  try clear hK3 K3
  refine SX.cond_k fun X4 Y4 hX4 hY4 => ?_
  simp (maxSteps:=1000000)(dsimp:=false)(disch:=omega) only [go_sem, Φa, hP, condVC]
  refine ⟨fun hc12 => hX4 ?_, fun hc12 => hY4 ?_⟩
  · clear hX4 hY4 X4 Y4
    refine SX.seq_k fun K5 hK5 => ?_
    refine SX.region_d [some 2, some 3] rfl (fun ops hops => ?_)
    unfold Dsts at hops
    simp (maxSteps:=1000000)(dsimp:=false)(disch:=omega) only [go_sem, Φa, hP, hops]
    refine hK5 _ _ ?_
    try clear hK5 K5
    refine SX.ret ?_
    simp only [andThen_normal, andThen_ret, andThen_exit, inBlk_normal, inBlk_ret, inBlk_exit, Nat.reduceEqDiff, if_true, if_false, ↓reduceIte, retQ_ret]
    try simp only [res0, res1, res2, res3, stK_e, go_sem, Φa, hP]
    refine ⟨_, _, Less.drop _ _, rfl, ?_, rfl⟩
    have h0 : mayF f = false := by simpa using hc12
    unfold showS
    rw [if_neg (by rw [h0]; exact Bool.false_ne_true)]
    rfl
  · clear hX4 hY4 X4 Y4
    refine SX.skip ?_
    try simp only [andThen_normal, andThen_ret, andThen_exit, inBlk_normal, inBlk_ret, inBlk_exit, Nat.reduceEqDiff, if_true, if_false, ↓reduceIte]
    refine hK2 _ _ ?_
    try clear hK2 K2
    refine SX.seq_k fun K6 hK6 => ?_
    have hmt : mayF f = true := by simpa using hc12
    have hmf := of_mayF hmt
    refine SX.region_d [some 4] rfl (fun ops hops => ?_)
    unfold Dsts at hops
    simp (maxSteps:=1000000)(dsimp:=false)(disch:=omega) only [go_sem, Φa, hP, hops]
    intro bb
    try with_reducible refine stI ?_
    try simp (maxSteps:=1000000)(dsimp:=false)(disch:=omega) only [go_sem, Φa, hP, hops]
    refine hK6 _ _ ?_
    try clear hK6 K6
    refine SX.seq_k fun K7 hK7 => ?_
    refine SX.seq_k fun K8 hK8 => ?_
    refine SX.less less_ins ?_
    refine SX.region_d [some 13, some 14, some 15, some 16] rfl (fun ops hops => ?_)
    unfold Dsts at hops
    simp (maxSteps:=1000000)(dsimp:=false)(disch:=omega) only [go_sem, Φa, hP, hops]
    refine ⟨_, Cell.at 2 rfl (show (Fm.cells _ _)[1]? = _ from rfl), ?_⟩
    try with_reducible refine stI ?_
    try simp (maxSteps:=1000000)(dsimp:=false)(disch:=omega) only [go_sem, Φa, hP, hops]
    refine hK8 _ _ ?_
    try clear hK8 K8
    refine SX.live [4, 14, 15, 16] (fun T1 hT1 => ?_)
    simp only [forall_mem_cons', forall_mem_nil', go_sem, Φa, hP] at hT1
    obtain ⟨h1_4, h1_14, h1_15, h1_16⟩ := hT1
    refine SX.block ?_
    refine SX.live [4, 14, 15, 16] (fun T2 hT2 => ?_)
    simp only [forall_mem_cons', forall_mem_nil', go_sem, Φa, hP, h1_4, h1_14, h1_15, h1_16] at hT2
    obtain ⟨h2_4, h2_14, h2_15, h2_16⟩ := hT2
    clear h1_4 h1_14 h1_15 h1_16 T1
    refine SX.loop_k (fun (ss : (Nat) × (Value) × (Value) × (Slot)) T L' => (fun (i : Nat) (p : Value) (vb : Value) (sb : Slot) => T 16 = .int .i64 (i : Int) ∧ T 4 = T2 4 ∧ T 14 = T2 14 ∧ T 15 = T2 15 ∧ L' = BD bb p vb :: sb :: some (b0, .cells (f.cells (.slice A f.rows.length c)).toArray 41 (0, 0)) :: [] ∧ (i ≤ f.rows.length ∧ Ptr bb p ∧ RowI .u8 5 vb (rowsL (f.rows.take i)) sb)) (ss.1) (ss.2.1) (ss.2.2.1) (ss.2.2.2)) (fun (ss : (Nat) × (Value) × (Value) × (Slot)) => (fun (i : Nat) (p : Value) (vb : Value) (sb : Slot) => f.rows.length - i) (ss.1) (ss.2.1) (ss.2.2.1) (ss.2.2.2)) (0, .pointer none, .slice none 0 0, none) ?_ ?_
    · try dsimp only
      refine ⟨?_, ?_, ?_, ?_, ?_, ?_⟩
      · first | exact h2_16 | (rw [h2_16]; rfl) | (rw [h2_16]; simp; done)
      · rfl
      · rfl
      · rfl
      · rfl
      · exact ⟨Nat.zero_le _, .inl rfl, RowI.nil _ _⟩
    · intro ss T3 L3 hI K9 hK9
      obtain ⟨i, p, vb, sb⟩ := ss
      try dsimp only at hI hK9
      simp only [h2_4, h2_14, h2_15] at hI hK9
      obtain ⟨h3_16, h3_4, h3_14, h3_15, hL3, ⟨hi, hp, hrow⟩⟩ := hI
      replace hL3 := hL3.symm
      subst hL3
      clear h2_4 h2_14 h2_15 h2_16 T2
      refine SX.seq_k fun K10 hK10 => ?_
      refine SX.region_d [some 17] rfl (fun ops hops => ?_)
      unfold Dsts at hops
      simp (maxSteps:=1000000)(dsimp:=false)(disch:=omega) only [go_sem, Φa, hP, h3_16, h3_4, h3_14, h3_15, hops]
      repeat' ((first | refine And.intro (by omega) ?_ | fail); try (with_reducible refine stI ?_); try simp (maxSteps:=1000000)(dsimp:=false)(disch:=omega) only [go_sem, Φa, hP, h3_16, h3_4, h3_14, h3_15, hops])
      refine hK10 _ _ ?_
      try clear hK10 K10
      refine SX.seq_k fun K11 hK11 => ?_
      refine SX.cond_k fun X12 Y12 hX12 hY12 => ?_
      simp (maxSteps:=1000000)(dsimp:=false)(disch:=omega) only [go_sem, Φa, hP, h3_16, h3_4, h3_14, h3_15, condVC]
      refine ⟨fun hc17 => hX12 ?_, fun hc17 => hY12 ?_⟩
      · clear hX12 hY12 X12 Y12
        refine SX.skip ?_
        try simp only [andThen_normal, andThen_ret, andThen_exit, inBlk_normal, inBlk_ret, inBlk_exit, Nat.reduceEqDiff, if_true, if_false, ↓reduceIte]
        refine hK11 _ _ ?_
        try clear hK11 K11
        refine SX.seq_k fun K13 hK13 => ?_
        refine SX.block ?_
        refine SX.seq_k fun K14 hK14 => ?_
        have hil : i < f.rows.length := by omega
        obtain ⟨Ai, ci, hci, hcil, hsi⟩ := hA i hil
        obtain ⟨a2, e2, _, hB⟩ := sl_at hsi
        have hr8 := hmf.2.2.2 i hil
        have hlr := rowsL_len hmf.2.2.2 i (by omega)
        refine SX.region_d [some 18, some 19, some 6] rfl (fun ops hops => ?_)
        unfold Dsts at hops
        simp (maxSteps:=1000000)(dsimp:=false)(disch:=omega) only [go_sem, Φa, hP, h3_16, h3_4, h3_14, h3_15, hops, ia_at e1]
        refine ⟨_, Cell.any hci, ?_⟩
        try with_reducible refine stI ?_
        try simp (maxSteps:=1000000)(dsimp:=false)(disch:=omega) only [go_sem, Φa, hP, h3_16, h3_4, h3_14, h3_15, hops, ia_at e1]
        refine hK14 _ _ ?_
        try clear hK14 K14
        refine SX.seq_k fun K15 hK15 => ?_
        refine SX.seq_k fun K16 hK16 => ?_
        refine SX.region_d [some 20, some 21, some 22] rfl (fun ops hops => ?_)
        unfold Dsts at hops
        simp (maxSteps:=1000000)(dsimp:=false)(disch:=omega) only [go_sem, Φa, hP, h3_16, h3_4, h3_14, h3_15, hops]
        repeat' ((first | refine And.intro (by omega) ?_ | fail); try (with_reducible refine stI ?_); try simp (maxSteps:=1000000)(dsimp:=false)(disch:=omega) only [go_sem, Φa, hP, h3_16, h3_4, h3_14, h3_15, hops])
        refine hK16 _ _ ?_
        try clear hK16 K16
        refine SX.block ?_
        refine SX.live [4, 14, 15, 16, 20, 21, 22] (fun T4 hT4 => ?_)
        simp only [forall_mem_cons', forall_mem_nil', go_sem, Φa, hP, h3_16, h3_4, h3_14, h3_15] at hT4
        obtain ⟨h4_4, h4_14, h4_15, h4_16, h4_20, h4_21, h4_22⟩ := hT4
        clear h3_16 h3_4 h3_14 h3_15 T3
        refine SX.loop_k (fun (ss : (Nat) × (Value) × (Value) × (Slot)) T L' => (fun (j : Nat) (p2 : Value) (vb2 : Value) (sb2 : Slot) => T 22 = .int .i64 (j : Int) ∧ T 4 = T4 4 ∧ T 14 = T4 14 ∧ T 15 = T4 15 ∧ T 16 = T4 16 ∧ T 20 = T4 20 ∧ T 21 = T4 21 ∧ L' = BD bb p2 vb2 :: sb2 :: some (b0, .cells (f.cells (.slice A f.rows.length c)).toArray 41 (0, 0)) :: [] ∧ (j ≤ (f.rows.getD i []).length ∧ Ptr bb p2 ∧ RowI .u8 5 vb2 (rowsL (f.rows.take i) ++ rowL ((f.rows.getD i []).take j)) sb2)) (ss.1) (ss.2.1) (ss.2.2.1) (ss.2.2.2)) (fun (ss : (Nat) × (Value) × (Value) × (Slot)) => (fun (j : Nat) (p2 : Value) (vb2 : Value) (sb2 : Slot) => (f.rows.getD i []).length - j) (ss.1) (ss.2.1) (ss.2.2.1) (ss.2.2.2)) (0, p, vb, sb) ?_ ?_
        · try dsimp only
          refine ⟨?_, ?_, ?_, ?_, ?_, ?_, ?_, ?_, ?_⟩
          · first | exact h4_22 | (rw [h4_22]; rfl) | (rw [h4_22]; simp; done)
          · rfl
          · rfl
          · rfl
          · rfl
          · rfl
          · rfl
          · rfl
          · refine ⟨Nat.zero_le _, hp, ?_⟩
            rw [List.take_zero]
            show RowI .u8 5 vb (_ ++ []) sb
            rw [List.append_nil]
            exact hrow
        · intro ss T5 L5 hI K17 hK17
          obtain ⟨j, p2, vb2, sb2⟩ := ss
          try dsimp only at hI hK17
          simp only [h4_4, h4_14, h4_15, h4_16, h4_20, h4_21] at hI hK17
          obtain ⟨h5_22, h5_4, h5_14, h5_15, h5_16, h5_20, h5_21, hL5, ⟨hj, hp2, hrow2⟩⟩ := hI
          replace hL5 := hL5.symm
          subst hL5
          clear h4_4 h4_14 h4_15 h4_16 h4_20 h4_21 h4_22 T4
          refine SX.seq_k fun K18 hK18 => ?_
          refine SX.region_d [some 23] rfl (fun ops hops => ?_)
          unfold Dsts at hops
          simp (maxSteps:=1000000)(dsimp:=false)(disch:=omega) only [go_sem, Φa, hP, h5_22, h5_4, h5_14, h5_15, h5_16, h5_20, h5_21, hops]
          repeat' ((first | refine And.intro (by omega) ?_ | fail); try (with_reducible refine stI ?_); try simp (maxSteps:=1000000)(dsimp:=false)(disch:=omega) only [go_sem, Φa, hP, h5_22, h5_4, h5_14, h5_15, h5_16, h5_20, h5_21, hops])
          refine hK18 _ _ ?_
          try clear hK18 K18
          refine SX.seq_k fun K19 hK19 => ?_
          refine SX.cond_k fun X20 Y20 hX20 hY20 => ?_
          simp (maxSteps:=1000000)(dsimp:=false)(disch:=omega) only [go_sem, Φa, hP, h5_22, h5_4, h5_14, h5_15, h5_16, h5_20, h5_21, condVC]
          refine ⟨fun hc23 => hX20 ?_, fun hc23 => hY20 ?_⟩
          · clear hX20 hY20 X20 Y20
            refine SX.skip ?_
            try simp only [andThen_normal, andThen_ret, andThen_exit, inBlk_normal, inBlk_ret, inBlk_exit, Nat.reduceEqDiff, if_true, if_false, ↓reduceIte]
            refine hK19 _ _ ?_
            try clear hK19 K19
            refine SX.seq_k fun K21 hK21 => ?_
            refine SX.block ?_
            refine SX.seq_k fun K22 hK22 => ?_
            have hjl : j < (f.rows.getD i []).length := by omega
            have hbj := hB j hjl
            have hbb := hby i hil j hjl
            refine SX.region_d [some 24, some 25, some 8] rfl (fun ops hops => ?_)
            unfold Dsts at hops
            simp (maxSteps:=1000000)(dsimp:=false)(disch:=omega) only [go_sem, Φa, hP, h5_22, h5_4, h5_14, h5_15, h5_16, h5_20, h5_21, hops, ia_at e2]
            refine ⟨_, Cell.any hbj, ?_⟩
            try with_reducible refine stI ?_
            try simp (maxSteps:=1000000)(dsimp:=false)(disch:=omega) only [go_sem, Φa, hP, h5_22, h5_4, h5_14, h5_15, h5_16, h5_20, h5_21, hops, ia_at e2]
            refine hK22 _ _ ?_
            try clear hK22 K22
            refine SX.seq_k fun K23 hK23 => ?_
            refine SX.region_d [some 26] rfl (fun ops hops => ?_)
            unfold Dsts at hops
            simp (maxSteps:=1000000)(dsimp:=false)(disch:=omega) only [go_sem, Φa, hP, h5_22, h5_4, h5_14, h5_15, h5_16, h5_20, h5_21, hops]
            refine hK23 _ _ ?_
            try clear hK23 K23
            refine SX.block ?_
            refine SX.live [4, 8, 14, 15, 16, 20, 21, 22, 26] (fun T6 hT6 => ?_)
            simp only [forall_mem_cons', forall_mem_nil', go_sem, Φa, hP, h5_22, h5_4, h5_14, h5_15, h5_16, h5_20, h5_21] at hT6
            obtain ⟨h6_4, h6_8, h6_14, h6_15, h6_16, h6_20, h6_21, h6_22, h6_26⟩ := hT6
            clear h5_22 h5_4 h5_14 h5_15 h5_16 h5_20 h5_21 T5
            refine SX.loop_k (fun (ss : (Nat) × (Value) × (Value) × (Slot)) T L' => (fun (k : Nat) (p3 : Value) (vb3 : Value) (sb3 : Slot) => T 26 = .int .i64 (k : Int) ∧ T 4 = T6 4 ∧ T 8 = T6 8 ∧ T 14 = T6 14 ∧ T 15 = T6 15 ∧ T 16 = T6 16 ∧ T 20 = T6 20 ∧ T 21 = T6 21 ∧ T 22 = T6 22 ∧ L' = BD bb p3 vb3 :: sb3 :: some (b0, .cells (f.cells (.slice A f.rows.length c)).toArray 41 (0, 0)) :: [] ∧ (k ≤ 8 ∧ Ptr bb p3 ∧ RowI .u8 5 vb3 (rowsL (f.rows.take i) ++ rowL ((f.rows.getD i []).take j) ++ (List.range k).map (bitL ((f.rows.getD i []).getD j 0))) sb3)) (ss.1) (ss.2.1) (ss.2.2.1) (ss.2.2.2)) (fun (ss : (Nat) × (Value) × (Value) × (Slot)) => (fun (k : Nat) (p3 : Value) (vb3 : Value) (sb3 : Slot) => 8 - k) (ss.1) (ss.2.1) (ss.2.2.1) (ss.2.2.2)) (0, p2, vb2, sb2) ?_ ?_
            · try dsimp only
              refine ⟨?_, ?_, ?_, ?_, ?_, ?_, ?_, ?_, ?_, ?_, ?_⟩
              · first | exact h6_26 | (rw [h6_26]; rfl) | (rw [h6_26]; simp; done)
              · rfl
              · rfl
              · rfl
              · rfl
              · rfl
              · rfl
              · rfl
              · rfl
              · rfl
              · refine ⟨Nat.zero_le _, hp2, ?_⟩
                rw [List.range_zero, List.map_nil, List.append_nil]
                exact hrow2
            · intro ss T7 L7 hI K24 hK24
              obtain ⟨k, p3, vb3, sb3⟩ := ss
              try dsimp only at hI hK24
              simp only [h6_4, h6_8, h6_14, h6_15, h6_16, h6_20, h6_21, h6_22] at hI hK24
              obtain ⟨h7_26, h7_4, h7_8, h7_14, h7_15, h7_16, h7_20, h7_21, h7_22, hL7, ⟨hk, hp3, hrow3⟩⟩ := hI
              replace hL7 := hL7.symm
              subst hL7
              clear h6_4 h6_8 h6_14 h6_15 h6_16 h6_20 h6_21 h6_22 h6_26 T6
              refine SX.seq_k fun K25 hK25 => ?_
              refine SX.region_d [some 27] rfl (fun ops hops => ?_)
              unfold Dsts at hops
              simp (maxSteps:=1000000)(dsimp:=false)(disch:=omega) only [go_sem, Φa, hP, h7_26, h7_4, h7_8, h7_14, h7_15, h7_16, h7_20, h7_21, h7_22, hops]
              repeat' ((first | refine And.intro (by omega) ?_ | fail); try (with_reducible refine stI ?_); try simp (maxSteps:=1000000)(dsimp:=false)(disch:=omega) only [go_sem, Φa, hP, h7_26, h7_4, h7_8, h7_14, h7_15, h7_16, h7_20, h7_21, h7_22, hops])
              refine hK25 _ _ ?_
              try clear hK25 K25
              refine SX.seq_k fun K26 hK26 => ?_
              refine SX.cond_k fun X27 Y27 hX27 hY27 => ?_
              simp (maxSteps:=1000000)(dsimp:=false)(disch:=omega) only [go_sem, Φa, hP, h7_26, h7_4, h7_8, h7_14, h7_15, h7_16, h7_20, h7_21, h7_22, condVC]
              refine ⟨fun hc27 => hX27 ?_, fun hc27 => hY27 ?_⟩
              · clear hX27 hY27 X27 Y27
                refine SX.skip ?_
                try simp only [andThen_normal, andThen_ret, andThen_exit, inBlk_normal, inBlk_ret, inBlk_exit, Nat.reduceEqDiff, if_true, if_false, ↓reduceIte]
                refine hK26 _ _ ?_
                try clear hK26 K26
                refine SX.seq_k fun K28 hK28 => ?_
                refine SX.block ?_
                refine SX.seq_k fun K29 hK29 => ?_
                refine SX.region_d [some 28, some 9] rfl (fun ops hops => ?_)
                unfold Dsts at hops
                simp (maxSteps:=1000000)(dsimp:=false)(disch:=omega) only [go_sem, Φa, hP, h7_26, h7_4, h7_8, h7_14, h7_15, h7_16, h7_20, h7_21, h7_22, hops]
                refine hK29 _ _ ?_
                try clear hK29 K29
                refine SX.seq_k fun K30 hK30 => ?_
                have hk8 : k < 8 := by omega
                have hmin : min k 8 = k := by omega
                refine SX.region_d [some 29, some 30, some 31, some 32, some 33] rfl (fun ops hops => ?_)
                unfold Dsts at hops
                simp (maxSteps:=1000000)(dsimp:=false)(disch:=omega) only [go_sem, Φa, hP, h7_26, h7_4, h7_8, h7_14, h7_15, h7_16, h7_20, h7_21, h7_22, hops, hmin, bit_test hbb hk8]
                repeat' ((first | refine And.intro (by omega) ?_ | fail); try (with_reducible refine stI ?_); try simp (maxSteps:=1000000)(dsimp:=false)(disch:=omega) only [go_sem, Φa, hP, h7_26, h7_4, h7_8, h7_14, h7_15, h7_16, h7_20, h7_21, h7_22, hops, hmin, bit_test hbb hk8])
                refine hK30 _ _ ?_
                try clear hK30 K30
                refine SX.cond_k fun X31 Y31 hX31 hY31 => ?_
                simp (maxSteps:=1000000)(dsimp:=false)(disch:=omega) only [go_sem, Φa, hP, h7_26, h7_4, h7_8, h7_14, h7_15, h7_16, h7_20, h7_21, h7_22, condVC]
                refine ⟨fun hc33 => hX31 ?_, fun hc33 => hY31 ?_⟩
                · clear hX31 hY31 X31 Y31
                  refine SX.region_d [some 34] rfl (fun ops hops => ?_)
                  unfold Dsts at hops
                  simp (maxSteps:=1000000)(dsimp:=false)(disch:=omega) only [go_sem, Φa, hP, h7_26, h7_4, h7_8, h7_14, h7_15, h7_16, h7_20, h7_21, h7_22, hops]
                  refine SCall.mono (WriteByte_spec hP hp3 hrow3 (by simp only [List.length_append, rowL_len, List.length_map, List.length_range, List.length_take]; omega)) ?_
                  rintro v_ L_ ⟨rfl, vb', sb', rfl, hrow'⟩
                  try with_reducible refine stI ?_
                  try simp (maxSteps:=1000000)(dsimp:=false)(disch:=omega) only [go_sem, Φa, hP, h7_26, h7_4, h7_8, h7_14, h7_15, h7_16, h7_20, h7_21, h7_22, hops]
                  refine hK28 _ _ ?_
                  try clear hK28 K28
                  refine SX.live [4, 8, 14, 15, 16, 20, 21, 22, 26] (fun T8 hT8 => ?_)
                  simp only [forall_mem_cons', forall_mem_nil', go_sem, Φa, hP, h7_26, h7_4, h7_8, h7_14, h7_15, h7_16, h7_20, h7_21, h7_22] at hT8
                  obtain ⟨h8_4, h8_8, h8_14, h8_15, h8_16, h8_20, h8_21, h8_22, h8_26⟩ := hT8
                  clear h7_26 h7_4 h7_8 h7_14 h7_15 h7_16 h7_20 h7_21 h7_22 T7
                  refine SX.region_d [some 36, some 26] rfl (fun ops hops => ?_)
                  unfold Dsts at hops
                  simp (maxSteps:=1000000)(dsimp:=false)(disch:=omega) only [go_sem, Φa, hP, h8_4, h8_8, h8_14, h8_15, h8_16, h8_20, h8_21, h8_22, h8_26, hops]
                  repeat' ((first | refine And.intro (by omega) ?_ | fail); try (with_reducible refine stI ?_); try simp (maxSteps:=1000000)(dsimp:=false)(disch:=omega) only [go_sem, Φa, hP, h8_4, h8_8, h8_14, h8_15, h8_16, h8_20, h8_21, h8_22, h8_26, hops])
                  refine hK24 (k + 1, selfP bb, vb', sb') _ (BD bb (selfP bb) vb' :: sb' :: some (b0, .cells (f.cells (.slice A f.rows.length c)).toArray 41 (0, 0)) :: []) _ (by first | exact Less.refl _ | exact Less.drop _ _ | exact Less.drops (Less.drop _ _) | exact Less.drops (Less.drops (Less.drop _ _)) | exact Less.drops (Less.drops (Less.drops (Less.drop _ _))) | exact Less.drops (Less.drops (Less.drops (Less.drops (Less.drop _ _))))) ?_ ?_
                  · try dsimp only
                    refine ⟨?_, ?_, ?_, ?_, ?_, ?_, ?_, ?_, ?_, ?_, ?_⟩
                    · simp (maxSteps:=1000000)(dsimp:=false)(disch:=omega) only [go_sem, Φa, hP, h8_4, h8_8, h8_14, h8_15, h8_16, h8_20, h8_21, h8_22, h8_26]
                      first | done | rfl | skip
                    · simp (maxSteps:=1000000)(dsimp:=false)(disch:=omega) only [go_sem, Φa, hP, h8_4, h8_8, h8_14, h8_15, h8_16, h8_20, h8_21, h8_22, h8_26]
                    · simp (maxSteps:=1000000)(dsimp:=false)(disch:=omega) only [go_sem, Φa, hP, h8_4, h8_8, h8_14, h8_15, h8_16, h8_20, h8_21, h8_22, h8_26]
                    · simp (maxSteps:=1000000)(dsimp:=false)(disch:=omega) only [go_sem, Φa, hP, h8_4, h8_8, h8_14, h8_15, h8_16, h8_20, h8_21, h8_22, h8_26]
                    · simp (maxSteps:=1000000)(dsimp:=false)(disch:=omega) only [go_sem, Φa, hP, h8_4, h8_8, h8_14, h8_15, h8_16, h8_20, h8_21, h8_22, h8_26]
                    · simp (maxSteps:=1000000)(dsimp:=false)(disch:=omega) only [go_sem, Φa, hP, h8_4, h8_8, h8_14, h8_15, h8_16, h8_20, h8_21, h8_22, h8_26]
                    · simp (maxSteps:=1000000)(dsimp:=false)(disch:=omega) only [go_sem, Φa, hP, h8_4, h8_8, h8_14, h8_15, h8_16, h8_20, h8_21, h8_22, h8_26]
                    · simp (maxSteps:=1000000)(dsimp:=false)(disch:=omega) only [go_sem, Φa, hP, h8_4, h8_8, h8_14, h8_15, h8_16, h8_20, h8_21, h8_22, h8_26]
                    · simp (maxSteps:=1000000)(dsimp:=false)(disch:=omega) only [go_sem, Φa, hP, h8_4, h8_8, h8_14, h8_15, h8_16, h8_20, h8_21, h8_22, h8_26]
                    · rfl
                    · refine ⟨by omega, .inr rfl, ?_⟩
                      rw [range_bit, ← List.append_assoc, show bitL ((f.rows.getD i []).getD j 0) k = 35 from if_pos (by simpa using hc33)]
                      exact hrow'
                  · (try dsimp only); omega
                · clear hX31 hY31 X31 Y31
                  refine SX.region_d [some 35] rfl (fun ops hops => ?_)
                  unfold Dsts at hops
                  simp (maxSteps:=1000000)(dsimp:=false)(disch:=omega) only [go_sem, Φa, hP, h7_26, h7_4, h7_8, h7_14, h7_15, h7_16, h7_20, h7_21, h7_22, hops]
                  refine SCall.mono (WriteByte_spec hP hp3 hrow3 (by simp only [List.length_append, rowL_len, List.length_map, List.length_range, List.length_take]; omega)) ?_
                  rintro v_ L_ ⟨rfl, vb', sb', rfl, hrow'⟩
                  try with_reducible refine stI ?_
                  try simp (maxSteps:=1000000)(dsimp:=false)(disch:=omega) only [go_sem, Φa, hP, h7_26, h7_4, h7_8, h7_14, h7_15, h7_16, h7_20, h7_21, h7_22, hops]
                  refine hK28 _ _ ?_
                  try clear hK28 K28
                  refine SX.live [4, 8, 14, 15, 16, 20, 21, 22, 26] (fun T9 hT9 => ?_)
                  simp only [forall_mem_cons', forall_mem_nil', go_sem, Φa, hP, h7_26, h7_4, h7_8, h7_14, h7_15, h7_16, h7_20, h7_21, h7_22] at hT9
                  obtain ⟨h9_4, h9_8, h9_14, h9_15, h9_16, h9_20, h9_21, h9_22, h9_26⟩ := hT9
                  clear h7_26 h7_4 h7_8 h7_14 h7_15 h7_16 h7_20 h7_21 h7_22 T7
                  refine SX.region_d [some 36, some 26] rfl (fun ops hops => ?_)
                  unfold Dsts at hops
                  simp (maxSteps:=1000000)(dsimp:=false)(disch:=omega) only [go_sem, Φa, hP, h9_4, h9_8, h9_14, h9_15, h9_16, h9_20, h9_21, h9_22, h9_26, hops]
                  repeat' ((first | refine And.intro (by omega) ?_ | fail); try (with_reducible refine stI ?_); try simp (maxSteps:=1000000)(dsimp:=false)(disch:=omega) only [go_sem, Φa, hP, h9_4, h9_8, h9_14, h9_15, h9_16, h9_20, h9_21, h9_22, h9_26, hops])
                  refine hK24 (k + 1, selfP bb, vb', sb') _ (BD bb (selfP bb) vb' :: sb' :: some (b0, .cells (f.cells (.slice A f.rows.length c)).toArray 41 (0, 0)) :: []) _ (by first | exact Less.refl _ | exact Less.drop _ _ | exact Less.drops (Less.drop _ _) | exact Less.drops (Less.drops (Less.drop _ _)) | exact Less.drops (Less.drops (Less.drops (Less.drop _ _))) | exact Less.drops (Less.drops (Less.drops (Less.drops (Less.drop _ _))))) ?_ ?_
                  · try dsimp only
                    refine ⟨?_, ?_, ?_, ?_, ?_, ?_, ?_, ?_, ?_, ?_, ?_⟩
                    · simp (maxSteps:=1000000)(dsimp:=false)(disch:=omega) only [go_sem, Φa, hP, h9_4, h9_8, h9_14, h9_15, h9_16, h9_20, h9_21, h9_22, h9_26]
                      first | done | rfl | skip
                    · simp (maxSteps:=1000000)(dsimp:=false)(disch:=omega) only [go_sem, Φa, hP, h9_4, h9_8, h9_14, h9_15, h9_16, h9_20, h9_21, h9_22, h9_26]
                    · simp (maxSteps:=1000000)(dsimp:=false)(disch:=omega) only [go_sem, Φa, hP, h9_4, h9_8, h9_14, h9_15, h9_16, h9_20, h9_21, h9_22, h9_26]
                    · simp (maxSteps:=1000000)(dsimp:=false)(disch:=omega) only [go_sem, Φa, hP, h9_4, h9_8, h9_14, h9_15, h9_16, h9_20, h9_21, h9_22, h9_26]
                    · simp (maxSteps:=1000000)(dsimp:=false)(disch:=omega) only [go_sem, Φa, hP, h9_4, h9_8, h9_14, h9_15, h9_16, h9_20, h9_21, h9_22, h9_26]
                    · simp (maxSteps:=1000000)(dsimp:=false)(disch:=omega) only [go_sem, Φa, hP, h9_4, h9_8, h9_14, h9_15, h9_16, h9_20, h9_21, h9_22, h9_26]
                    · simp (maxSteps:=1000000)(dsimp:=false)(disch:=omega) only [go_sem, Φa, hP, h9_4, h9_8, h9_14, h9_15, h9_16, h9_20, h9_21, h9_22, h9_26]
                    · simp (maxSteps:=1000000)(dsimp:=false)(disch:=omega) only [go_sem, Φa, hP, h9_4, h9_8, h9_14, h9_15, h9_16, h9_20, h9_21, h9_22, h9_26]
                    · simp (maxSteps:=1000000)(dsimp:=false)(disch:=omega) only [go_sem, Φa, hP, h9_4, h9_8, h9_14, h9_15, h9_16, h9_20, h9_21, h9_22, h9_26]
                    · rfl
                    · refine ⟨by omega, .inr rfl, ?_⟩
                      rw [range_bit, ← List.append_assoc, show bitL ((f.rows.getD i []).getD j 0) k = 46 from if_neg (by simpa using hc33)]
                      exact hrow'
                  · (try dsimp only); omega
              · clear hX27 hY27 X27 Y27
                refine SX.exit ?_
                try simp only [andThen_normal, andThen_ret, andThen_exit, inBlk_normal, inBlk_ret, inBlk_exit, Nat.reduceEqDiff, if_true, if_false, ↓reduceIte]
                refine hK21 _ _ ?_
                try clear hK21 K21
                refine SX.region_d [some 37, some 22] rfl (fun ops hops => ?_)
                unfold Dsts at hops
                simp (maxSteps:=1000000)(dsimp:=false)(disch:=omega) only [go_sem, Φa, hP, h7_26, h7_4, h7_8, h7_14, h7_15, h7_16, h7_20, h7_21, h7_22, hops]
                repeat' ((first | refine And.intro (by omega) ?_ | fail); try (with_reducible refine stI ?_); try simp (maxSteps:=1000000)(dsimp:=false)(disch:=omega) only [go_sem, Φa, hP, h7_26, h7_4, h7_8, h7_14, h7_15, h7_16, h7_20, h7_21, h7_22, hops])
                refine hK17 (j + 1, p3, vb3, sb3) _ (BD bb p3 vb3 :: sb3 :: some (b0, .cells (f.cells (.slice A f.rows.length c)).toArray 41 (0, 0)) :: []) _ (by first | exact Less.refl _ | exact Less.drop _ _ | exact Less.drops (Less.drop _ _) | exact Less.drops (Less.drops (Less.drop _ _)) | exact Less.drops (Less.drops (Less.drops (Less.drop _ _))) | exact Less.drops (Less.drops (Less.drops (Less.drops (Less.drop _ _))))) ?_ ?_
                · try dsimp only
                  refine ⟨?_, ?_, ?_, ?_, ?_, ?_, ?_, ?_, ?_⟩
                  · simp (maxSteps:=1000000)(dsimp:=false)(disch:=omega) only [go_sem, Φa, hP, h7_26, h7_4, h7_8, h7_14, h7_15, h7_16, h7_20, h7_21, h7_22]
                    first | done | rfl | skip
                  · simp (maxSteps:=1000000)(dsimp:=false)(disch:=omega) only [go_sem, Φa, hP, h7_26, h7_4, h7_8, h7_14, h7_15, h7_16, h7_20, h7_21, h7_22]
                  · simp (maxSteps:=1000000)(dsimp:=false)(disch:=omega) only [go_sem, Φa, hP, h7_26, h7_4, h7_8, h7_14, h7_15, h7_16, h7_20, h7_21, h7_22]
                  · simp (maxSteps:=1000000)(dsimp:=false)(disch:=omega) only [go_sem, Φa, hP, h7_26, h7_4, h7_8, h7_14, h7_15, h7_16, h7_20, h7_21, h7_22]
                  · simp (maxSteps:=1000000)(dsimp:=false)(disch:=omega) only [go_sem, Φa, hP, h7_26, h7_4, h7_8, h7_14, h7_15, h7_16, h7_20, h7_21, h7_22]
                  · simp (maxSteps:=1000000)(dsimp:=false)(disch:=omega) only [go_sem, Φa, hP, h7_26, h7_4, h7_8, h7_14, h7_15, h7_16, h7_20, h7_21, h7_22]
                  · simp (maxSteps:=1000000)(dsimp:=false)(disch:=omega) only [go_sem, Φa, hP, h7_26, h7_4, h7_8, h7_14, h7_15, h7_16, h7_20, h7_21, h7_22]
                  · rfl
                  · refine ⟨by omega, hp3, ?_⟩
                    obtain rfl : k = 8 := by omega
                    rw [rowL_take hjl, ← List.append_assoc]
                    exact hrow3
                · (try dsimp only); omega
          · clear hX20 hY20 X20 Y20
            refine SX.exit ?_
            try simp only [andThen_normal, andThen_ret, andThen_exit, inBlk_normal, inBlk_ret, inBlk_exit, Nat.reduceEqDiff, if_true, if_false, ↓reduceIte]
            refine hK15 _ _ ?_
            try clear hK15 K15
            refine SX.region_d [some 38] rfl (fun ops hops => ?_)
            unfold Dsts at hops
            simp (maxSteps:=1000000)(dsimp:=false)(disch:=omega) only [go_sem, Φa, hP, h5_22, h5_4, h5_14, h5_15, h5_16, h5_20, h5_21, hops]
            refine SCall.mono (WriteByte_spec hP hp2 hrow2 (by simp only [List.length_append, rowL_len, List.length_map, List.length_range, List.length_take]; omega)) ?_
            rintro v_ L_ ⟨rfl, vb', sb', rfl, hrow'⟩
            try with_reducible refine stI ?_
            try simp (maxSteps:=1000000)(dsimp:=false)(disch:=omega) only [go_sem, Φa, hP, h5_22, h5_4, h5_14, h5_15, h5_16, h5_20, h5_21, hops]
            refine hK13 _ _ ?_
            try clear hK13 K13
            refine SX.region_d [some 39, some 16] rfl (fun ops hops => ?_)
            unfold Dsts at hops
            simp (maxSteps:=1000000)(dsimp:=false)(disch:=omega) only [go_sem, Φa, hP, h5_22, h5_4, h5_14, h5_15, h5_16, h5_20, h5_21, hops]
            repeat' ((first | refine And.intro (by omega) ?_ | fail); try (with_reducible refine stI ?_); try simp (maxSteps:=1000000)(dsimp:=false)(disch:=omega) only [go_sem, Φa, hP, h5_22, h5_4, h5_14, h5_15, h5_16, h5_20, h5_21, hops])
            refine hK9 (i + 1, selfP bb, vb', sb') _ (BD bb (selfP bb) vb' :: sb' :: some (b0, .cells (f.cells (.slice A f.rows.length c)).toArray 41 (0, 0)) :: []) _ (by first | exact Less.refl _ | exact Less.drop _ _ | exact Less.drops (Less.drop _ _) | exact Less.drops (Less.drops (Less.drop _ _)) | exact Less.drops (Less.drops (Less.drops (Less.drop _ _))) | exact Less.drops (Less.drops (Less.drops (Less.drops (Less.drop _ _))))) ?_ ?_
            · try dsimp only
              refine ⟨?_, ?_, ?_, ?_, ?_, ?_⟩
              · simp (maxSteps:=1000000)(dsimp:=false)(disch:=omega) only [go_sem, Φa, hP, h5_22, h5_4, h5_14, h5_15, h5_16, h5_20, h5_21]
                first | done | rfl | skip
              · simp (maxSteps:=1000000)(dsimp:=false)(disch:=omega) only [go_sem, Φa, hP, h5_22, h5_4, h5_14, h5_15, h5_16, h5_20, h5_21]
              · simp (maxSteps:=1000000)(dsimp:=false)(disch:=omega) only [go_sem, Φa, hP, h5_22, h5_4, h5_14, h5_15, h5_16, h5_20, h5_21]
              · simp (maxSteps:=1000000)(dsimp:=false)(disch:=omega) only [go_sem, Φa, hP, h5_22, h5_4, h5_14, h5_15, h5_16, h5_20, h5_21]
              · rfl
              · refine ⟨by omega, .inr rfl, ?_⟩
                rw [rowsL_take hil]
                obtain rfl : j = (f.rows.getD i []).length := by omega
                rw [List.take_of_length_le (Nat.le_refl _)] at hrow'
                exact hrow'
            · (try dsimp only); omega
      · clear hX12 hY12 X12 Y12
        refine SX.exit ?_
        try simp only [andThen_normal, andThen_ret, andThen_exit, inBlk_normal, inBlk_ret, inBlk_exit, Nat.reduceEqDiff, if_true, if_false, ↓reduceIte]
        refine hK7 _ _ ?_
        try clear hK7 K7
        refine SX.seq_k fun K32 hK32 => ?_
        refine SX.region_d [some 40, some 2, some 3] rfl (fun ops hops => ?_)
        unfold Dsts at hops
        simp (maxSteps:=1000000)(dsimp:=false)(disch:=omega) only [go_sem, Φa, hP, h3_16, h3_4, h3_14, h3_15, hops]
        obtain rfl : i = f.rows.length := by omega
        rw [List.take_length] at hrow
        refine SCall.mono (String_spec hP ho hp hrow (rowsL_byte _)) ?_
        rintro v_ L_ ⟨hv_, hL_⟩
        rw [hv_, hL_]
        clear hv_ hL_ v_ L_
        try with_reducible refine stI ?_
        try simp (maxSteps:=1000000)(dsimp:=false)(disch:=omega) only [go_sem, Φa, hP, h3_16, h3_4, h3_14, h3_15, hops]
        refine hK32 _ _ ?_
        try clear hK32 K32
        refine SX.ret ?_
        simp only [andThen_normal, andThen_ret, andThen_exit, inBlk_normal, inBlk_ret, inBlk_exit, Nat.reduceEqDiff, if_true, if_false, ↓reduceIte, retQ_ret]
        try simp only [res0, res1, res2, res3, stK_e, go_sem, Φa, hP, h3_16, h3_4, h3_14, h3_15]
        refine ⟨_, _, Less.refl _, rfl, ?_, rfl⟩
        unfold showS
        rw [if_pos hmt]

end Go.Proofs.YtpakphgeichopaaDoor
set_option linter.unusedVariables false
set_option linter.unusedSimpArgs false
namespace Go.Proofs.YtpakphgeichopaaDoor
open Go.RowKit Go.SX Go.Proofs

end Go.Proofs.YtpakphgeichopaaDoor
set_option linter.unusedVariables false
set_option linter.unusedSimpArgs false
namespace Go.Proofs.YtpakphgeichopaaDoor
open Go.RowKit Go.SX Go.Proofs
theorem Show_spec {Γ : Ctx} (hP : Γ.P = Tryd.prog) {L : Hp} {v : Value} {f : Fm} (hr : SlR (Cell Γ L) v f.rows) (hm : cnt f.rows ≤ 9000000000000000000) (hrl : f.rows.length ≤ 9000000000000000000) (hby : ∀ i, i < f.rows.length → ∀ j, j < (f.rows.getD i []).length → 0 ≤ (f.rows.getD i []).getD j 0 ∧ (f.rows.getD i []).getD j 0 ≤ 255) :
    SCall Γ 18 #[(.agg (f.cells v).toArray)] L (fun v L' => v = .tuple #[.string (showS f).1, .int .i64 (showS f).2] ∧ L' = L) :=
  SCall.lift fun w hi => ShowB_spec (Γ := ⟨Γ.P, w, []⟩) (L := []) hP rfl (SlR.mono (fun a v h => Cell.lift hi h) hr) hm hrl hby

end Go.Proofs.YtpakphgeichopaaDoor
set_option linter.unusedVariables false
set_option linter.unusedSimpArgs false
namespace Go.Proofs.YtpakphgeichopaaDoor
open Go.RowKit Go.SX Go.Proofs

theorem less_mid1 {a b : Slot} {L : Hp} : Less (a :: b :: L) (a :: L) := Less.sublist (.cons_cons _ (.cons _ (List.Sublist.refl _)))
theorem zerosV_flat {α : Type} (f : α → List Value) (x : α) (n : Nat) : zerosV (f x) n = (List.replicate n x).flatMap f := by
  unfold zerosV
  induction n with
  | zero => rfl
  | succ n ih => rw [List.replicate_succ, List.flatten_cons, ih, List.replicate_succ, List.flatMap_cons]
theorem Sl.take {α : Type} {sz : Nat} {R : (Addr → Value → Prop) → Addr → α → Prop} {C : Addr → Value → Prop} {A : Option Addr} {n c k : Nat} {xs : List α} (h : Sl sz R C (.slice A n c) xs) (hk : k ≤ n) : Sl sz R C (.slice A k c) (xs.take k) := by
  obtain ⟨A', c', he, hc, hA⟩ := h
  injection he with e1 e2 e3
  subst e1 e2 e3
  refine ⟨A, c, by rw [List.length_take, Nat.min_eq_left hk], by rw [List.length_take]; omega, fun j x hj => ?_⟩
  rw [List.getElem?_take] at hj
  split at hj
  · exact hA j x hj
  · cases hj
theorem cutA0 (b : Option Addr) (sz m : Nat) : cutA b sz m 0 = b := by
  unfold cutA
  split
  · rfl
  · cases b <;> simp [Addr.add_zero']
/-! A trace in which nothing is asked. -/
def pos (p : Nat) : Ras := ((p / 14 : Nat), (p % 14 : Nat), false, 0)
theorem pos_ok {p : Nat} (h : p < 3668) : okR (pos p) = true := by
  show okB ((p / 14 : Nat) : Int) ((p % 14 : Nat) : Int) 0 = true
  exact okB_of (by omega)
theorem idle_step {l c : Int} (h : okB l c 0 = true) : rasN (l, c, false, 0) default = if c + 1 = 14 then (if l + 1 = 262 then 0 else l + 1, 0, false, 0) else (l, c + 1, false, 0) := by
  show step l c false 0 0 0 false false 0 = _
  unfold step
  rw [if_pos ⟨h, by decide⟩]
  simp [tB, wB, onB]
theorem pos_step {p : Nat} (h : p < 3668) : rasN (pos p) default = if p + 1 = 3668 then pos 0 else pos (p + 1) := by
  have hs := idle_step (l := ((p / 14 : Nat) : Int)) (c := ((p % 14 : Nat) : Int)) (pos_ok h)
  have hp : rasN (pos p) default = _ := hs
  rw [hp]
  by_cases h1 : p % 14 = 13
  · rw [if_pos (by omega)]
    by_cases h2 : p + 1 = 3668
    · rw [if_pos h2, if_pos (by omega)]; rfl
    · rw [if_neg h2, if_neg (by omega)]
      have e1 : (p + 1) / 14 = p / 14 + 1 := by omega
      have e2 : (p + 1) % 14 = 0 := by omega
      unfold pos
      rw [e1, e2]; rfl
  · rw [if_neg (by omega), if_neg (by omega)]
    have e1 : (p + 1) / 14 = p / 14 := by omega
    have e2 : (p + 1) % 14 = p % 14 + 1 := by omega
    unfold pos
    rw [e1, e2]; simp
theorem pos_atZ {p : Nat} : atZ (pos p) = decide (p = 0) := by
  unfold atZ pos
  simp only
  rw [Bool.eq_iff_iff]
  simp only [Bool.and_eq_true, decide_eq_true_eq]
  omega
theorem rep_getD_default {α : Type} [Inhabited α] (n k : Nat) : (List.replicate n (default : α)).getD k default = default := by
  rw [List.getD_eq_getElem?_getD, List.getElem?_replicate]
  split <;> rfl
theorem took_none {p : Nat} {rows : List (List Int)} : tookN (pos p) default rows = rows := by
  unfold tookN
  rw [if_neg (by simp [takesN, tB, wB, pos])]
theorem still_at {n : Nat} : ∀ k, k + 1 < 3668 → stAt (pos 0) (List.replicate n default) (k + 1) = ⟨pos (k + 1), some (0, List.replicate 128 []), []⟩
  | 0, _ => by
    rw [stAt, rep_getD_default]
    show stF ⟨pos 0, none, []⟩ _ _ = _
    have hs := pos_step (p := 0) (by decide)
    rw [if_neg (by decide)] at hs
    rw [stF_go (a := 0) (rows := List.replicate 128 []) rfl (by rw [hs, pos_atZ]; rfl), took_none, hs]
  | k + 1, hk => by
    have hs := pos_step (p := k + 1) (by omega)
    rw [if_neg (by omega)] at hs
    rw [stAt, rep_getD_default, still_at k (by omega), stF_go (a := 0) (rows := List.replicate 128 []) (by unfold begunN; rw [if_neg (by rw [pos_atZ]; simp)]) (by rw [hs, pos_atZ]; simp), took_none, hs]
theorem zChk {n : Nat} (h : n ≤ 4194304) : chkL (List.replicate n default) = 0 := chkL_good (by rw [List.length_replicate]; omega) fun j hj => by rw [rep_getD_default]; rfl
theorem ofP_short : ofP (pos 0) (List.replicate 3667 default) = ([], 0) := by
  rw [ofP_ok (pos_ok (by decide)) (zChk (by decide)), List.length_replicate, still_at 3666 (by decide)]
theorem ofP_one : ofP (pos 0) (List.replicate 3668 default) = ([⟨0, List.replicate 128 [], true⟩], 0) := by
  rw [ofP_ok (pos_ok (by decide)) (zChk (by decide)), List.length_replicate, stAt, rep_getD_default, still_at 3666 (by decide)]
  have hs := pos_step (p := 3667) (by decide)
  rw [if_pos rfl] at hs
  rw [stF_fin (a := 0) (rows := List.replicate 128 []) (by unfold begunN; rw [if_neg (by rw [pos_atZ]; simp)]) (by rw [hs, pos_atZ]; rfl), took_none]
  simp only [List.nil_append, shortB, cnt_rep]
  rfl
/-! The frame of one byte. -/
def oneF : Fm := ⟨0, [129] :: List.replicate 127 [], true⟩
theorem oneF_sl {Γ : Ctx} {L : Hp} {g h c : Nat} (hg : some (g, Obj.cells ((List.replicate 128 (Value.slice none 0 0)).set 0 (.slice (some ⟨h, 0, none⟩) 1 c)).toArray 50 (0, 0)) ∈ L) (hh : some (h, Obj.cells [Value.int .u8 129].toArray 5 (0, 0)) ∈ L) (hc : 1 ≤ c) : SlR (Cell Γ L) (.slice (some ⟨g, 0, none⟩) 128 128) oneF.rows := by
  obtain ⟨i, hi⟩ := List.mem_iff_getElem?.1 hg
  obtain ⟨i2, hi2⟩ := List.mem_iff_getElem?.1 hh
  have hl128 : oneF.rows.length = 128 := by rw [oneF]; simp only [List.length_cons, List.length_replicate]
  refine ⟨_, 128, by rw [hl128], by rw [hl128]; exact Nat.le_refl _, fun j r hj => ⟨_, rfl, ?_⟩⟩
  have hjl : j < 128 := by have := (List.getElem?_eq_some_iff.1 hj).1; omega
  rw [Nat.mul_one, Addr.add_lit, Nat.zero_add]
  cases j with
  | zero =>
    simp only [oneF, List.getElem?_cons_zero, Option.some.injEq] at hj
    subst hj
    exact ⟨_, Cell.at i hi rfl, SlI.own (xs := [129]) i2 hi2 rfl hc⟩
  | succ j =>
    simp only [oneF, List.getElem?_cons_succ] at hj
    rw [List.getElem?_replicate] at hj
    split at hj
    · cases hj
      refine ⟨.slice none 0 0, Cell.at i hi ?_, ⟨none, 0, rfl, Nat.le_refl _, fun j x hj => by simp at hj⟩⟩
      rw [List.getElem?_set, if_neg (by omega), List.getElem?_replicate, if_pos hjl]
    · cases hj
theorem oneF_may : mayF oneF = true := by decide +kernel
theorem oneF_len : (txt (rowsL oneF.rows)).size = 136 := by decide +kernel
theorem oneF_head : (txt (rowsL oneF.rows)).extract 0 9 = ⟨#[35, 46, 46, 46, 46, 46, 46, 35, 10]⟩ := by decide +kernel
theorem oneF_show : showS oneF = (txt (rowsL oneF.rows), 0) := if_pos oneF_may
set_option maxHeartbeats 1000000 in
set_option maxRecDepth 100000 in
theorem empty_spec {Γ : Ctx} (hP : Γ.P = Tryd.prog) {L : Hp} {h n c : Nat} :
    SCall Γ 26 #[(.slice (some ⟨h, 0, none⟩) n c)] L (fun v L' => ∃ g, v = .agg #[.int .i64 0, .slice (some ⟨g, 0, none⟩) 128 128, .bool true] ∧ L' = some (g, .cells ((List.replicate 128 (.slice none 0 0)).set 0 (.slice (some ⟨h, 0, none⟩) n c)).toArray 50 (0, 0)) :: L) := by
  refine SCall.enter (n := 11) (resX Γ [.cell 2 41]) (hP ▸ Tryd.func26) rfl rfl (by simp) (resX_ok rfl) ?_
  refine SX.seq_k fun K1 hK1 => ?_
  refine SX.region_d [some 2] rfl (fun ops hops => ?_)
  unfold Dsts at hops
  simp (maxSteps := 1000000) (dsimp := false) (disch := omega) only [go_sem, ia_someH, hP, hops]
  intro b2
  try with_reducible refine stI ?_
  try simp (maxSteps := 1000000) (dsimp := false) (disch := omega) only [go_sem, ia_someH, hP, hops]
  refine hK1 _ _ ?_
  try clear hK1 K1
  refine SX.seq_k fun K2 hK2 => ?_
  refine SX.region_d [some 4, some 5, some 3, none] rfl (fun ops hops => ?_)
  unfold Dsts at hops
  simp (maxSteps := 1000000) (dsimp := false) (disch := omega) only [go_sem, ia_someH, hP, hops]
  intro g
  try with_reducible refine stI ?_
  try simp (maxSteps := 1000000) (dsimp := false) (disch := omega) only [go_sem, ia_someH, hP, hops]
  rw [zerosV_one]
  try with_reducible refine stI ?_
  try simp (maxSteps := 1000000) (dsimp := false) (disch := omega) only [go_sem, ia_someH, hP, hops]
  intro b3
  try with_reducible refine stI ?_
  try simp (maxSteps := 1000000) (dsimp := false) (disch := omega) only [go_sem, ia_someH, hP, hops]
  refine ⟨0, _, _, _, rfl, (by simp), .inr (by decide), ?_⟩
  try with_reducible refine stI ?_
  try simp (maxSteps := 1000000) (dsimp := false) (disch := omega) only [go_sem, ia_someH, hP, hops]
  refine hK2 _ _ ?_
  try clear hK2 K2
  refine SX.seq_k fun K3 hK3 => ?_
  refine SX.region_d [some 6, some 7, some 8, some 9, none] rfl (fun ops hops => ?_)
  unfold Dsts at hops
  simp (maxSteps := 1000000) (dsimp := false) (disch := omega) only [go_sem, ia_someH, hP, hops]
  refine ⟨_, Cell.at 0 rfl rfl, ?_⟩
  try with_reducible refine stI ?_
  try simp (maxSteps := 1000000) (dsimp := false) (disch := omega) only [go_sem, ia_someH, hP, hops]
  refine ⟨1, _, _, _, rfl, (by simp), .inr (by decide), ?_⟩
  try with_reducible refine stI ?_
  try simp (maxSteps := 1000000) (dsimp := false) (disch := omega) only [go_sem, ia_someH, hP, hops]
  refine hK3 _ _ ?_
  try clear hK3 K3
  refine SX.seq_k fun K4 hK4 => ?_
  refine SX.region_d [some 10, none] rfl (fun ops hops => ?_)
  unfold Dsts at hops
  simp (maxSteps := 1000000) (dsimp := false) (disch := omega) only [go_sem, ia_someH, hP, hops]
  refine ⟨_, Cell.at 0 rfl rfl, _, Cell.at 0 rfl rfl, _, Cell.at 0 rfl rfl, ?_⟩
  try with_reducible refine stI ?_
  try simp (maxSteps := 1000000) (dsimp := false) (disch := omega) only [go_sem, ia_someH, hP, hops]
  refine ⟨2, _, _, _, rfl, (by simp), .inr (by decide), ?_⟩
  try with_reducible refine stI ?_
  try simp (maxSteps := 1000000) (dsimp := false) (disch := omega) only [go_sem, ia_someH, hP, hops]
  refine hK4 _ _ ?_
  try clear hK4 K4
  refine SX.ret ?_
  simp only [andThen_normal, andThen_ret, andThen_exit, inBlk_normal, inBlk_ret, inBlk_exit, Nat.reduceEqDiff, if_true, if_false, ↓reduceIte, retQ_ret]
  try simp only [res0, res1, res2, res3, stK_e, resX, resK, oneOr, ld_ptr, loadVC, loadN, List.nil_append, List.cons_append, Nat.reduceAdd, Nat.add_zero, Nat.zero_add, Addr.add_lit, Addr.add_zero', add_addS, T.elA_41, T.lay_41, T.szA_41, T.zr_41, Tryd.underlying41, go_sem, ia_someH, hP]
  exact ⟨_, _, Less.drops (less_mid1), ⟨_, Cell.at 2 rfl rfl, _, Cell.at 2 rfl rfl, _, Cell.at 2 rfl rfl, rfl⟩, g, rfl, rfl⟩

end Go.Proofs.YtpakphgeichopaaDoor
set_option linter.unusedVariables false
set_option linter.unusedSimpArgs false
namespace Go.Proofs.YtpakphgeichopaaDoor
open Go.RowKit Go.SX Go.Proofs
open Go.SX renaming ia_someH → Φa

theorem map_one {α β : Type} {f : α → β} {l : List α} {b : β} (h : l.map f = [b]) : ∃ p, l = [p] ∧ f p = b := by
  match l, h with
  | [p], h => exact ⟨p, rfl, by simpa using h⟩
theorem oneF_by : ∀ i, i < oneF.rows.length → ∀ j, j < (oneF.rows.getD i []).length → 0 ≤ (oneF.rows.getD i []).getD j 0 ∧ (oneF.rows.getD i []).getD j 0 ≤ 255 := by
  intro i hi j hj
  cases i with
  | zero =>
    have : j = 0 := by simp [oneF] at hj; omega
    subst this
    exact ⟨by decide, by decide⟩
  | succ i =>
    exfalso
    have hl : oneF.rows.length = 128 := by rw [oneF]; simp only [List.length_cons, List.length_replicate]
    have h0 : oneF.rows.getD (i + 1) [] = [] := by
      show (List.replicate 127 []).getD i [] = _
      exact rep_getD (by omega)
    rw [h0] at hj
    simp at hj
theorem oneF_cnt : cnt oneF.rows = 1 := by decide +kernel
theorem zSl {Γ : Ctx} {L : Hp} {g : Nat} {Z : List Rc} {n : Nat} (hl : Z.length = n) (hn : n ≤ 9223372036854775807) : SlC (Cell Γ (some (g, .cells (Z.flatMap Rc.cells).toArray 29 (0, 0)) :: L)) (.slice (some ⟨g, 0, none⟩) n n) Z := by
  refine RowL.sl (i := 0) Rc.len (e := 29) (s := some (g, .cells (Z.flatMap Rc.cells).toArray 29 (0, 0))) ?_ rfl
  show Row 29 8 _ Z.length _ _
  rw [hl]
  exact Row.lit (by rw [flat_len Rc.len, hl]) hn
set_option maxHeartbeats 1000000 in
set_option maxRecDepth 100000 in
theorem awake_spec {Γ : Ctx} (hP : Γ.P = Tryd.prog) {L : Hp} (S : SH Γ) :
    SCall Γ 11 #[] L (fun v L' => v = .bool true ∧ L' = L) := by
  refine SCall.enter (n := 72) (res1 0) (hP ▸ Tryd.func11) rfl rfl (by simp) (res1_ok rfl) ?_
  refine SX.seq_k fun K1 hK1 => ?_
  refine SX.region_d [some 0] rfl (fun ops hops => ?_)
  unfold Dsts at hops
  simp (maxSteps:=1000000)(dsimp:=false)(disch:=omega) only [go_sem, Φa, hP, hops]
  refine hK1 _ _ ?_
  try clear hK1 K1
  refine SX.seq_k fun K2 hK2 => ?_
  refine SX.region_d [some 8, some 1] rfl (fun ops hops => ?_)
  unfold Dsts at hops
  simp (maxSteps:=1000000)(dsimp:=false)(disch:=omega) only [go_sem, Φa, hP, hops]
  intro g1
  try with_reducible refine stI ?_
  try simp (maxSteps:=1000000)(dsimp:=false)(disch:=omega) only [go_sem, Φa, hP, hops]
  rw [show zerosV [.int .u8 0, .int .u16 0, .int .u8 0, .bool false, .bool false, .int .u8 0, .bool false, .int .u8 0] 3668 = (List.replicate 3668 (default : Rc)).flatMap Rc.cells from zerosV_flat Rc.cells default 3668]
  try with_reducible refine stI ?_
  try simp (maxSteps:=1000000)(dsimp:=false)(disch:=omega) only [go_sem, Φa, hP, hops]
  refine hK2 _ _ ?_
  try clear hK2 K2
  refine SX.seq_k fun K3 hK3 => ?_
  have hO1 := ofP_one
  have hO2 := ofP_short
  have hZl : (List.replicate 3668 (default : Rc)).length = 3668 := List.length_replicate ..
  rw [show List.replicate 3667 (default : Rc) = (List.replicate 3668 default).take 3667 by rw [List.take_replicate]; rfl] at hO2
  generalize List.replicate 3668 (default : Rc) = Z at hO1 hO2 hZl ⊢
  generalize List.replicate 128 ([] : List Int) = R at hO1
  have hS1 : SlC (Cell Γ (some (g1, .cells (Z.flatMap Rc.cells).toArray 29 (0, 0)) :: L)) (.slice (some ⟨g1, 0, none⟩) 3668 3668) Z := zSl hZl (by decide)
  refine SX.region_d [some 10, some 11, some 12, some 9, some 13, some 14, some 2, some 3] rfl (fun ops hops => ?_)
  unfold Dsts at hops
  simp (maxSteps:=1000000)(dsimp:=false)(disch:=omega) only [go_sem, Φa, hP, hops]
  refine SCall.mono (Of_spec (x := pos 0) (l := Z) hP hS1 (by rw [hZl]; decide) S) ?_
  rintro v_ L_ ⟨vo1, so1, fs1, rfl, rfl, hrow1, hfs1, hmap1⟩
  rw [hO1] at hmap1 ⊢
  obtain ⟨⟨f1, d1⟩, rfl, hp1⟩ := map_one hmap1
  dsimp only at hp1
  subst hp1
  obtain ⟨gA, capA, junkA, rfl, rfl, hcA, _⟩ := RowL.form hrow1 (by simp)
  try with_reducible refine stI ?_
  try simp (maxSteps:=1000000)(dsimp:=false)(disch:=omega) only [go_sem, Φa, hP, hops]
  refine hK3 _ _ ?_
  try clear hK3 K3
  refine SX.live [1, 2, 3] (fun T1 hT1 => ?_)
  simp only [forall_mem_cons', forall_mem_nil', go_sem, Φa, hP] at hT1
  obtain ⟨h1_1, h1_2, h1_3⟩ := hT1
  refine SX.seq_k fun K4 hK4 => ?_
  have hS2 : SlC (Cell Γ (some (gA, .cells ([((⟨0, R, true⟩ : Fm), d1)].flatMap fval ++ junkA).toArray 41 (0, 0)) :: (segs [((⟨0, R, true⟩ : Fm), d1)] ++ (some (g1, .cells (Z.flatMap Rc.cells).toArray 29 (0, 0)) :: L)))) (.slice (some ⟨g1, 0, none⟩) 3667 3668) (Z.take 3667) := Sl.take (SlC.mono (fun a v h => Cell.cons _ (Cell.app _ h)) hS1) (by decide)
  refine SX.region_d [some 16, some 17, some 18, some 19, some 15, some 20, some 21, some 4, some 5] rfl (fun ops hops => ?_)
  unfold Dsts at hops
  simp (maxSteps:=1000000)(dsimp:=false)(disch:=omega) only [go_sem, Φa, hP, h1_1, h1_2, h1_3, hops, cutA0, Nat.sub_zero]
  refine SCall.mono (Of_spec (x := pos 0) (l := Z.take 3667) hP hS2 (by rw [List.length_take, hZl]; decide) S) ?_
  rintro v_ L_ ⟨vo2, so2, fs2, rfl, rfl, hrow2, hfs2, hmap2⟩
  rw [hO2] at hmap2 ⊢
  obtain rfl := List.map_eq_nil_iff.1 hmap2
  obtain ⟨A2, c2, rfl, hc2, _⟩ := Row.form hrow2
  simp only [segs, List.nil_append]
  try with_reducible refine stI ?_
  try simp (maxSteps:=1000000)(dsimp:=false)(disch:=omega) only [go_sem, Φa, hP, h1_1, h1_2, h1_3, hops, cutA0, Nat.sub_zero]
  refine hK4 _ _ ?_
  try clear hK4 K4
  refine SX.live [2, 3, 4, 5] (fun T2 hT2 => ?_)
  simp only [forall_mem_cons', forall_mem_nil', go_sem, Φa, hP, h1_1, h1_2, h1_3] at hT2
  obtain ⟨h2_2, h2_3, h2_4, h2_5⟩ := hT2
  clear h1_1 h1_2 h1_3 T1
  refine SX.seq_k fun K5 hK5 => ?_
  refine SX.region_d [some 23, some 24, some 25, some 22, some 26, some 27, some 6, some 7] rfl (fun ops hops => ?_)
  unfold Dsts at hops
  simp (maxSteps:=1000000)(dsimp:=false)(disch:=omega) only [go_sem, Φa, hP, h2_2, h2_3, h2_4, h2_5, hops]
  intro g4
  try with_reducible refine stI ?_
  try simp (maxSteps:=1000000)(dsimp:=false)(disch:=omega) only [go_sem, Φa, hP, h2_2, h2_3, h2_4, h2_5, hops]
  refine SCall.mono (empty_spec hP) ?_
  rintro v_ L_ ⟨g5, rfl, rfl⟩
  try with_reducible refine stI ?_
  try simp (maxSteps:=1000000)(dsimp:=false)(disch:=omega) only [go_sem, Φa, hP, h2_2, h2_3, h2_4, h2_5, hops]
  refine SCall.mono (Show_spec (f := oneF) hP (oneF_sl (g := g5) (h := g4) (c := 1) (List.mem_cons_self ..) (List.mem_cons_of_mem _ (List.mem_cons_self ..)) (Nat.le_refl _)) (by rw [oneF_cnt]; decide) (by decide +kernel) oneF_by) ?_
  rintro v_ L_ ⟨rfl, rfl⟩
  rw [oneF_show]
  try with_reducible refine stI ?_
  try simp (maxSteps:=1000000)(dsimp:=false)(disch:=omega) only [go_sem, Φa, hP, h2_2, h2_3, h2_4, h2_5, hops]
  refine hK5 _ _ ?_
  try clear hK5 K5
  refine SX.seq_k fun K6 hK6 => ?_
  refine SX.region_xd [some 28, some 29, some 30, some 31, some 32, some 33, some 34, some 35, some 36, some 37, some 38, some 39, some 40, some 41, some 42, some 43, some 44, some 45, some 46, some 47, some 48, some 49, some 50, some 51, some 52, some 53, some 54, some 55, some 56, some 57, some 58, some 59, some 60, some 61, some 62, some 63, some 64, some 65, some 66, some 67, some 68, some 69, some 70, some 71, some 0] rfl (fun ops hops => ?_)
  unfold Dsts at hops
  refine RX.live [2, 3, 4, 5, 6, 7] (fun T3 hT3 => ?_)
  simp only [forall_mem_cons', forall_mem_nil', go_sem, Φa, hP, h2_2, h2_3, h2_4, h2_5] at hT3
  obtain ⟨h3_2, h3_3, h3_4, h3_5, h3_6, h3_7⟩ := hT3
  clear h2_2 h2_3 h2_4 h2_5 T2
  have hs1 := oneF_len
  have hs2 := oneF_head
  refine RX.join 7 (fun (ss : Unit) T L' => T 34 = .bool (true) ∧ T 2 = T3 2 ∧ T 4 = T3 4 ∧ T 5 = T3 5 ∧ T 6 = T3 6 ∧ T 7 = T3 7 ∧ L' = some (g5, .cells ((List.replicate 128 (.slice none 0 0)).set 0 (.slice (some ⟨g4, 0, none⟩) 1 1)).toArray 50 (0, 0)) :: some (g4, .cells [.int .u8 129].toArray 5 (0, 0)) :: so2 :: some (gA, .cells ([((⟨0, R, true⟩ : Fm), d1)].flatMap fval ++ junkA).toArray 41 (0, 0)) :: (segs [((⟨0, R, true⟩ : Fm), d1)] ++ (some (g1, .cells (Z.flatMap Rc.cells).toArray 29 (0, 0)) :: L)) ∧ (True)) (fun K7 hK7 => ?_) ?_
  · simp only [h3_2, h3_4, h3_5, h3_6, h3_7] at hK7
    simp (maxSteps:=1000000)(dsimp:=false)(disch:=omega) only [go_sem, Φa, hP, h3_2, h3_3, h3_4, h3_5, h3_6, h3_7, hops, hs1, hs2]
    repeat' (first | refine iteB (fun hg => ?_) (fun hg => ?_) | refine iteI (fun hg => ?_) (fun hg => ?_) | ((first | refine ⟨_, Cell.at 3 rfl rfl, ?_⟩ | refine And.intro (by omega) ?_ | refine ⟨_, Cell.at 0 rfl rfl, ?_⟩ | refine ⟨_, Cell.at 1 rfl rfl, ?_⟩ | refine ⟨_, Cell.at 2 rfl rfl, ?_⟩ | refine ⟨_, Cell.at 3 rfl rfl, ?_⟩ | refine ⟨_, Cell.at 4 rfl rfl, ?_⟩ | fail); try (with_reducible refine stI ?_); try simp (maxSteps:=1000000)(dsimp:=false)(disch:=omega) only [go_sem, Φa, hP, h3_2, h3_3, h3_4, h3_5, h3_6, h3_7, hops, hs1, hs2]) | fail)
    all_goals
      refine hK7 () _ (some (g5, .cells ((List.replicate 128 (.slice none 0 0)).set 0 (.slice (some ⟨g4, 0, none⟩) 1 1)).toArray 50 (0, 0)) :: some (g4, .cells [.int .u8 129].toArray 5 (0, 0)) :: so2 :: some (gA, .cells ([((⟨0, R, true⟩ : Fm), d1)].flatMap fval ++ junkA).toArray 41 (0, 0)) :: (segs [((⟨0, R, true⟩ : Fm), d1)] ++ (some (g1, .cells (Z.flatMap Rc.cells).toArray 29 (0, 0)) :: L))) _ (by first | exact Less.refl _ | exact Less.drop _ _ | exact Less.drops (Less.drop _ _) | exact Less.drops (Less.drops (Less.drop _ _)) | exact Less.drops (Less.drops (Less.drops (Less.drop _ _))) | exact Less.drops (Less.drops (Less.drops (Less.drops (Less.drop _ _))))) ?_
      try dsimp only
      refine ⟨?_, ?_, ?_, ?_, ?_, ?_, ?_, ?_⟩
      · simp (maxSteps:=1000000)(dsimp:=false)(disch:=omega) only [go_sem, Φa, hP, h3_2, h3_3, h3_4, h3_5, h3_6, h3_7]
        first | done | rfl
      · simp (maxSteps:=1000000)(dsimp:=false)(disch:=omega) only [go_sem, Φa, hP, h3_2, h3_3, h3_4, h3_5, h3_6, h3_7]
      · simp (maxSteps:=1000000)(dsimp:=false)(disch:=omega) only [go_sem, Φa, hP, h3_2, h3_3, h3_4, h3_5, h3_6, h3_7]
      · simp (maxSteps:=1000000)(dsimp:=false)(disch:=omega) only [go_sem, Φa, hP, h3_2, h3_3, h3_4, h3_5, h3_6, h3_7]
      · simp (maxSteps:=1000000)(dsimp:=false)(disch:=omega) only [go_sem, Φa, hP, h3_2, h3_3, h3_4, h3_5, h3_6, h3_7]
      · simp (maxSteps:=1000000)(dsimp:=false)(disch:=omega) only [go_sem, Φa, hP, h3_2, h3_3, h3_4, h3_5, h3_6, h3_7]
      · rfl
      · trivial
  · intro ss T4 L4 hI
    simp only [h3_2, h3_4, h3_5, h3_6, h3_7] at hI 
    obtain ⟨h4_34, h4_2, h4_4, h4_5, h4_6, h4_7, hL4, hinv⟩ := hI
    replace hL4 := hL4.symm
    subst hL4
    clear h3_2 h3_3 h3_4 h3_5 h3_6 h3_7 T3
    refine RX.live [2, 4, 5, 6, 7, 34] (fun T5 hT5 => ?_)
    simp only [forall_mem_cons', forall_mem_nil', go_sem, Φa, hP, h4_34, h4_2, h4_4, h4_5, h4_6, h4_7] at hT5
    obtain ⟨h5_2, h5_4, h5_5, h5_6, h5_7, h5_34⟩ := hT5
    clear h4_34 h4_2 h4_4 h4_5 h4_6 h4_7 T4
    refine RX.join 6 (fun (ss : Unit) T L' => T 40 = .bool (true) ∧ T 2 = T5 2 ∧ T 4 = T5 4 ∧ T 5 = T5 5 ∧ T 6 = T5 6 ∧ T 7 = T5 7 ∧ L' = some (g5, .cells ((List.replicate 128 (.slice none 0 0)).set 0 (.slice (some ⟨g4, 0, none⟩) 1 1)).toArray 50 (0, 0)) :: some (g4, .cells [.int .u8 129].toArray 5 (0, 0)) :: so2 :: some (gA, .cells ([((⟨0, R, true⟩ : Fm), d1)].flatMap fval ++ junkA).toArray 41 (0, 0)) :: (segs [((⟨0, R, true⟩ : Fm), d1)] ++ (some (g1, .cells (Z.flatMap Rc.cells).toArray 29 (0, 0)) :: L)) ∧ (True)) (fun K8 hK8 => ?_) ?_
    · simp only [h5_2, h5_4, h5_5, h5_6, h5_7] at hK8
      simp (maxSteps:=1000000)(dsimp:=false)(disch:=omega) only [go_sem, Φa, hP, h5_2, h5_4, h5_5, h5_6, h5_7, h5_34, hops, hs1, hs2]
      repeat' (first | refine iteB (fun hg => ?_) (fun hg => ?_) | refine iteI (fun hg => ?_) (fun hg => ?_) | ((first | refine ⟨_, Cell.at 3 rfl rfl, ?_⟩ | refine And.intro (by omega) ?_ | refine ⟨_, Cell.at 0 rfl rfl, ?_⟩ | refine ⟨_, Cell.at 1 rfl rfl, ?_⟩ | refine ⟨_, Cell.at 2 rfl rfl, ?_⟩ | refine ⟨_, Cell.at 3 rfl rfl, ?_⟩ | refine ⟨_, Cell.at 4 rfl rfl, ?_⟩ | fail); try (with_reducible refine stI ?_); try simp (maxSteps:=1000000)(dsimp:=false)(disch:=omega) only [go_sem, Φa, hP, h5_2, h5_4, h5_5, h5_6, h5_7, h5_34, hops, hs1, hs2]) | fail)
      all_goals
        refine hK8 () _ (some (g5, .cells ((List.replicate 128 (.slice none 0 0)).set 0 (.slice (some ⟨g4, 0, none⟩) 1 1)).toArray 50 (0, 0)) :: some (g4, .cells [.int .u8 129].toArray 5 (0, 0)) :: so2 :: some (gA, .cells ([((⟨0, R, true⟩ : Fm), d1)].flatMap fval ++ junkA).toArray 41 (0, 0)) :: (segs [((⟨0, R, true⟩ : Fm), d1)] ++ (some (g1, .cells (Z.flatMap Rc.cells).toArray 29 (0, 0)) :: L))) _ (by first | exact Less.refl _ | exact Less.drop _ _ | exact Less.drops (Less.drop _ _) | exact Less.drops (Less.drops (Less.drop _ _)) | exact Less.drops (Less.drops (Less.drops (Less.drop _ _))) | exact Less.drops (Less.drops (Less.drops (Less.drops (Less.drop _ _))))) ?_
        try dsimp only
        refine ⟨?_, ?_, ?_, ?_, ?_, ?_, ?_, ?_⟩
        · simp (maxSteps:=1000000)(dsimp:=false)(disch:=omega) only [go_sem, Φa, hP, h5_2, h5_4, h5_5, h5_6, h5_7, h5_34]
          first | done | rfl
        · simp (maxSteps:=1000000)(dsimp:=false)(disch:=omega) only [go_sem, Φa, hP, h5_2, h5_4, h5_5, h5_6, h5_7, h5_34]
        · simp (maxSteps:=1000000)(dsimp:=false)(disch:=omega) only [go_sem, Φa, hP, h5_2, h5_4, h5_5, h5_6, h5_7, h5_34]
        · simp (maxSteps:=1000000)(dsimp:=false)(disch:=omega) only [go_sem, Φa, hP, h5_2, h5_4, h5_5, h5_6, h5_7, h5_34]
        · simp (maxSteps:=1000000)(dsimp:=false)(disch:=omega) only [go_sem, Φa, hP, h5_2, h5_4, h5_5, h5_6, h5_7, h5_34]
        · simp (maxSteps:=1000000)(dsimp:=false)(disch:=omega) only [go_sem, Φa, hP, h5_2, h5_4, h5_5, h5_6, h5_7, h5_34]
        · rfl
        · trivial
    · intro ss T6 L6 hI
      simp only [h5_2, h5_4, h5_5, h5_6, h5_7] at hI 
      obtain ⟨h6_40, h6_2, h6_4, h6_5, h6_6, h6_7, hL6, hinv⟩ := hI
      replace hL6 := hL6.symm
      subst hL6
      clear h5_2 h5_4 h5_5 h5_6 h5_7 h5_34 T5
      refine RX.live [2, 4, 5, 6, 7, 40] (fun T7 hT7 => ?_)
      simp only [forall_mem_cons', forall_mem_nil', go_sem, Φa, hP, h6_40, h6_2, h6_4, h6_5, h6_6, h6_7] at hT7
      obtain ⟨h7_2, h7_4, h7_5, h7_6, h7_7, h7_40⟩ := hT7
      clear h6_40 h6_2 h6_4 h6_5 h6_6 h6_7 T6
      refine RX.join 8 (fun (ss : Unit) T L' => T 48 = .bool (true) ∧ T 4 = T7 4 ∧ T 5 = T7 5 ∧ T 6 = T7 6 ∧ T 7 = T7 7 ∧ L' = some (g5, .cells ((List.replicate 128 (.slice none 0 0)).set 0 (.slice (some ⟨g4, 0, none⟩) 1 1)).toArray 50 (0, 0)) :: some (g4, .cells [.int .u8 129].toArray 5 (0, 0)) :: so2 :: some (gA, .cells ([((⟨0, R, true⟩ : Fm), d1)].flatMap fval ++ junkA).toArray 41 (0, 0)) :: (segs [((⟨0, R, true⟩ : Fm), d1)] ++ (some (g1, .cells (Z.flatMap Rc.cells).toArray 29 (0, 0)) :: L)) ∧ (True)) (fun K9 hK9 => ?_) ?_
      · simp only [h7_4, h7_5, h7_6, h7_7] at hK9
        simp (maxSteps:=1000000)(dsimp:=false)(disch:=omega) only [go_sem, Φa, hP, h7_2, h7_4, h7_5, h7_6, h7_7, h7_40, hops, hs1, hs2]
        repeat' (first | refine iteB (fun hg => ?_) (fun hg => ?_) | refine iteI (fun hg => ?_) (fun hg => ?_) | ((first | refine ⟨_, Cell.at 3 rfl rfl, ?_⟩ | refine And.intro (by omega) ?_ | refine ⟨_, Cell.at 0 rfl rfl, ?_⟩ | refine ⟨_, Cell.at 1 rfl rfl, ?_⟩ | refine ⟨_, Cell.at 2 rfl rfl, ?_⟩ | refine ⟨_, Cell.at 3 rfl rfl, ?_⟩ | refine ⟨_, Cell.at 4 rfl rfl, ?_⟩ | fail); try (with_reducible refine stI ?_); try simp (maxSteps:=1000000)(dsimp:=false)(disch:=omega) only [go_sem, Φa, hP, h7_2, h7_4, h7_5, h7_6, h7_7, h7_40, hops, hs1, hs2]) | fail)
        all_goals
          refine hK9 () _ (some (g5, .cells ((List.replicate 128 (.slice none 0 0)).set 0 (.slice (some ⟨g4, 0, none⟩) 1 1)).toArray 50 (0, 0)) :: some (g4, .cells [.int .u8 129].toArray 5 (0, 0)) :: so2 :: some (gA, .cells ([((⟨0, R, true⟩ : Fm), d1)].flatMap fval ++ junkA).toArray 41 (0, 0)) :: (segs [((⟨0, R, true⟩ : Fm), d1)] ++ (some (g1, .cells (Z.flatMap Rc.cells).toArray 29 (0, 0)) :: L))) _ (by first | exact Less.refl _ | exact Less.drop _ _ | exact Less.drops (Less.drop _ _) | exact Less.drops (Less.drops (Less.drop _ _)) | exact Less.drops (Less.drops (Less.drops (Less.drop _ _))) | exact Less.drops (Less.drops (Less.drops (Less.drops (Less.drop _ _))))) ?_
          try dsimp only
          refine ⟨?_, ?_, ?_, ?_, ?_, ?_, ?_⟩
          · simp (maxSteps:=1000000)(dsimp:=false)(disch:=omega) only [go_sem, Φa, hP, h7_2, h7_4, h7_5, h7_6, h7_7, h7_40]
            first | done | rfl
          · simp (maxSteps:=1000000)(dsimp:=false)(disch:=omega) only [go_sem, Φa, hP, h7_2, h7_4, h7_5, h7_6, h7_7, h7_40]
          · simp (maxSteps:=1000000)(dsimp:=false)(disch:=omega) only [go_sem, Φa, hP, h7_2, h7_4, h7_5, h7_6, h7_7, h7_40]
          · simp (maxSteps:=1000000)(dsimp:=false)(disch:=omega) only [go_sem, Φa, hP, h7_2, h7_4, h7_5, h7_6, h7_7, h7_40]
          · simp (maxSteps:=1000000)(dsimp:=false)(disch:=omega) only [go_sem, Φa, hP, h7_2, h7_4, h7_5, h7_6, h7_7, h7_40]
          · rfl
          · trivial
      · intro ss T8 L8 hI
        simp only [h7_4, h7_5, h7_6, h7_7] at hI 
        obtain ⟨h8_48, h8_4, h8_5, h8_6, h8_7, hL8, hinv⟩ := hI
        replace hL8 := hL8.symm
        subst hL8
        clear h7_2 h7_4 h7_5 h7_6 h7_7 h7_40 T7
        refine RX.live [4, 5, 6, 7, 48] (fun T9 hT9 => ?_)
        simp only [forall_mem_cons', forall_mem_nil', go_sem, Φa, hP, h8_48, h8_4, h8_5, h8_6, h8_7] at hT9
        obtain ⟨h9_4, h9_5, h9_6, h9_7, h9_48⟩ := hT9
        clear h8_48 h8_4 h8_5 h8_6 h8_7 T8
        refine RX.join 4 (fun (ss : Unit) T L' => T 52 = .bool (true) ∧ T 4 = T9 4 ∧ T 6 = T9 6 ∧ T 7 = T9 7 ∧ L' = some (g5, .cells ((List.replicate 128 (.slice none 0 0)).set 0 (.slice (some ⟨g4, 0, none⟩) 1 1)).toArray 50 (0, 0)) :: some (g4, .cells [.int .u8 129].toArray 5 (0, 0)) :: so2 :: some (gA, .cells ([((⟨0, R, true⟩ : Fm), d1)].flatMap fval ++ junkA).toArray 41 (0, 0)) :: (segs [((⟨0, R, true⟩ : Fm), d1)] ++ (some (g1, .cells (Z.flatMap Rc.cells).toArray 29 (0, 0)) :: L)) ∧ (True)) (fun K10 hK10 => ?_) ?_
        · simp only [h9_4, h9_6, h9_7] at hK10
          simp (maxSteps:=1000000)(dsimp:=false)(disch:=omega) only [go_sem, Φa, hP, h9_4, h9_5, h9_6, h9_7, h9_48, hops, hs1, hs2]
          repeat' (first | refine iteB (fun hg => ?_) (fun hg => ?_) | refine iteI (fun hg => ?_) (fun hg => ?_) | ((first | refine ⟨_, Cell.at 3 rfl rfl, ?_⟩ | refine And.intro (by omega) ?_ | refine ⟨_, Cell.at 0 rfl rfl, ?_⟩ | refine ⟨_, Cell.at 1 rfl rfl, ?_⟩ | refine ⟨_, Cell.at 2 rfl rfl, ?_⟩ | refine ⟨_, Cell.at 3 rfl rfl, ?_⟩ | refine ⟨_, Cell.at 4 rfl rfl, ?_⟩ | fail); try (with_reducible refine stI ?_); try simp (maxSteps:=1000000)(dsimp:=false)(disch:=omega) only [go_sem, Φa, hP, h9_4, h9_5, h9_6, h9_7, h9_48, hops, hs1, hs2]) | fail)
          all_goals
            refine hK10 () _ (some (g5, .cells ((List.replicate 128 (.slice none 0 0)).set 0 (.slice (some ⟨g4, 0, none⟩) 1 1)).toArray 50 (0, 0)) :: some (g4, .cells [.int .u8 129].toArray 5 (0, 0)) :: so2 :: some (gA, .cells ([((⟨0, R, true⟩ : Fm), d1)].flatMap fval ++ junkA).toArray 41 (0, 0)) :: (segs [((⟨0, R, true⟩ : Fm), d1)] ++ (some (g1, .cells (Z.flatMap Rc.cells).toArray 29 (0, 0)) :: L))) _ (by first | exact Less.refl _ | exact Less.drop _ _ | exact Less.drops (Less.drop _ _) | exact Less.drops (Less.drops (Less.drop _ _)) | exact Less.drops (Less.drops (Less.drops (Less.drop _ _))) | exact Less.drops (Less.drops (Less.drops (Less.drops (Less.drop _ _))))) ?_
            try dsimp only
            refine ⟨?_, ?_, ?_, ?_, ?_, ?_⟩
            · simp (maxSteps:=1000000)(dsimp:=false)(disch:=omega) only [go_sem, Φa, hP, h9_4, h9_5, h9_6, h9_7, h9_48]
              first | done | rfl
            · simp (maxSteps:=1000000)(dsimp:=false)(disch:=omega) only [go_sem, Φa, hP, h9_4, h9_5, h9_6, h9_7, h9_48]
            · simp (maxSteps:=1000000)(dsimp:=false)(disch:=omega) only [go_sem, Φa, hP, h9_4, h9_5, h9_6, h9_7, h9_48]
            · simp (maxSteps:=1000000)(dsimp:=false)(disch:=omega) only [go_sem, Φa, hP, h9_4, h9_5, h9_6, h9_7, h9_48]
            · rfl
            · trivial
        · intro ss T10 L10 hI
          simp only [h9_4, h9_6, h9_7] at hI 
          obtain ⟨h10_52, h10_4, h10_6, h10_7, hL10, hinv⟩ := hI
          replace hL10 := hL10.symm
          subst hL10
          clear h9_4 h9_5 h9_6 h9_7 h9_48 T9
          refine RX.live [4, 6, 7, 52] (fun T11 hT11 => ?_)
          simp only [forall_mem_cons', forall_mem_nil', go_sem, Φa, hP, h10_52, h10_4, h10_6, h10_7] at hT11
          obtain ⟨h11_4, h11_6, h11_7, h11_52⟩ := hT11
          clear h10_52 h10_4 h10_6 h10_7 T10
          refine RX.join 5 (fun (ss : Unit) T L' => T 57 = .bool (true) ∧ T 6 = T11 6 ∧ T 7 = T11 7 ∧ L' = some (g5, .cells ((List.replicate 128 (.slice none 0 0)).set 0 (.slice (some ⟨g4, 0, none⟩) 1 1)).toArray 50 (0, 0)) :: some (g4, .cells [.int .u8 129].toArray 5 (0, 0)) :: so2 :: some (gA, .cells ([((⟨0, R, true⟩ : Fm), d1)].flatMap fval ++ junkA).toArray 41 (0, 0)) :: (segs [((⟨0, R, true⟩ : Fm), d1)] ++ (some (g1, .cells (Z.flatMap Rc.cells).toArray 29 (0, 0)) :: L)) ∧ (True)) (fun K11 hK11 => ?_) ?_
          · simp only [h11_6, h11_7] at hK11
            simp (maxSteps:=1000000)(dsimp:=false)(disch:=omega) only [go_sem, Φa, hP, h11_4, h11_6, h11_7, h11_52, hops, hs1, hs2]
            repeat' (first | refine iteB (fun hg => ?_) (fun hg => ?_) | refine iteI (fun hg => ?_) (fun hg => ?_) | ((first | refine ⟨_, Cell.at 3 rfl rfl, ?_⟩ | refine And.intro (by omega) ?_ | refine ⟨_, Cell.at 0 rfl rfl, ?_⟩ | refine ⟨_, Cell.at 1 rfl rfl, ?_⟩ | refine ⟨_, Cell.at 2 rfl rfl, ?_⟩ | refine ⟨_, Cell.at 3 rfl rfl, ?_⟩ | refine ⟨_, Cell.at 4 rfl rfl, ?_⟩ | fail); try (with_reducible refine stI ?_); try simp (maxSteps:=1000000)(dsimp:=false)(disch:=omega) only [go_sem, Φa, hP, h11_4, h11_6, h11_7, h11_52, hops, hs1, hs2]) | fail)
            all_goals
              refine hK11 () _ (some (g5, .cells ((List.replicate 128 (.slice none 0 0)).set 0 (.slice (some ⟨g4, 0, none⟩) 1 1)).toArray 50 (0, 0)) :: some (g4, .cells [.int .u8 129].toArray 5 (0, 0)) :: so2 :: some (gA, .cells ([((⟨0, R, true⟩ : Fm), d1)].flatMap fval ++ junkA).toArray 41 (0, 0)) :: (segs [((⟨0, R, true⟩ : Fm), d1)] ++ (some (g1, .cells (Z.flatMap Rc.cells).toArray 29 (0, 0)) :: L))) _ (by first | exact Less.refl _ | exact Less.drop _ _ | exact Less.drops (Less.drop _ _) | exact Less.drops (Less.drops (Less.drop _ _)) | exact Less.drops (Less.drops (Less.drops (Less.drop _ _))) | exact Less.drops (Less.drops (Less.drops (Less.drops (Less.drop _ _))))) ?_
              try dsimp only
              refine ⟨?_, ?_, ?_, ?_, ?_⟩
              · simp (maxSteps:=1000000)(dsimp:=false)(disch:=omega) only [go_sem, Φa, hP, h11_4, h11_6, h11_7, h11_52]
                first | done | rfl
              · simp (maxSteps:=1000000)(dsimp:=false)(disch:=omega) only [go_sem, Φa, hP, h11_4, h11_6, h11_7, h11_52]
              · simp (maxSteps:=1000000)(dsimp:=false)(disch:=omega) only [go_sem, Φa, hP, h11_4, h11_6, h11_7, h11_52]
              · rfl
              · trivial
          · intro ss T12 L12 hI
            simp only [h11_6, h11_7] at hI 
            obtain ⟨h12_57, h12_6, h12_7, hL12, hinv⟩ := hI
            replace hL12 := hL12.symm
            subst hL12
            clear h11_4 h11_6 h11_7 h11_52 T11
            refine RX.live [6, 7, 57] (fun T13 hT13 => ?_)
            simp only [forall_mem_cons', forall_mem_nil', go_sem, Φa, hP, h12_57, h12_6, h12_7] at hT13
            obtain ⟨h13_6, h13_7, h13_57⟩ := hT13
            clear h12_57 h12_6 h12_7 T12
            refine RX.join 4 (fun (ss : Unit) T L' => T 61 = .bool (true) ∧ T 6 = T13 6 ∧ L' = some (g5, .cells ((List.replicate 128 (.slice none 0 0)).set 0 (.slice (some ⟨g4, 0, none⟩) 1 1)).toArray 50 (0, 0)) :: some (g4, .cells [.int .u8 129].toArray 5 (0, 0)) :: so2 :: some (gA, .cells ([((⟨0, R, true⟩ : Fm), d1)].flatMap fval ++ junkA).toArray 41 (0, 0)) :: (segs [((⟨0, R, true⟩ : Fm), d1)] ++ (some (g1, .cells (Z.flatMap Rc.cells).toArray 29 (0, 0)) :: L)) ∧ (True)) (fun K12 hK12 => ?_) ?_
            · simp only [h13_6] at hK12
              simp (maxSteps:=1000000)(dsimp:=false)(disch:=omega) only [go_sem, Φa, hP, h13_6, h13_7, h13_57, hops, hs1, hs2]
              repeat' (first | refine iteB (fun hg => ?_) (fun hg => ?_) | refine iteI (fun hg => ?_) (fun hg => ?_) | ((first | refine ⟨_, Cell.at 3 rfl rfl, ?_⟩ | refine And.intro (by omega) ?_ | refine ⟨_, Cell.at 0 rfl rfl, ?_⟩ | refine ⟨_, Cell.at 1 rfl rfl, ?_⟩ | refine ⟨_, Cell.at 2 rfl rfl, ?_⟩ | refine ⟨_, Cell.at 3 rfl rfl, ?_⟩ | refine ⟨_, Cell.at 4 rfl rfl, ?_⟩ | fail); try (with_reducible refine stI ?_); try simp (maxSteps:=1000000)(dsimp:=false)(disch:=omega) only [go_sem, Φa, hP, h13_6, h13_7, h13_57, hops, hs1, hs2]) | fail)
              all_goals
                refine hK12 () _ (some (g5, .cells ((List.replicate 128 (.slice none 0 0)).set 0 (.slice (some ⟨g4, 0, none⟩) 1 1)).toArray 50 (0, 0)) :: some (g4, .cells [.int .u8 129].toArray 5 (0, 0)) :: so2 :: some (gA, .cells ([((⟨0, R, true⟩ : Fm), d1)].flatMap fval ++ junkA).toArray 41 (0, 0)) :: (segs [((⟨0, R, true⟩ : Fm), d1)] ++ (some (g1, .cells (Z.flatMap Rc.cells).toArray 29 (0, 0)) :: L))) _ (by first | exact Less.refl _ | exact Less.drop _ _ | exact Less.drops (Less.drop _ _) | exact Less.drops (Less.drops (Less.drop _ _)) | exact Less.drops (Less.drops (Less.drops (Less.drop _ _))) | exact Less.drops (Less.drops (Less.drops (Less.drops (Less.drop _ _))))) ?_
                try dsimp only
                refine ⟨?_, ?_, ?_, ?_⟩
                · simp (maxSteps:=1000000)(dsimp:=false)(disch:=omega) only [go_sem, Φa, hP, h13_6, h13_7, h13_57]
                  first | done | rfl
                · simp (maxSteps:=1000000)(dsimp:=false)(disch:=omega) only [go_sem, Φa, hP, h13_6, h13_7, h13_57]
                · rfl
                · trivial
            · intro ss T14 L14 hI
              simp only [h13_6] at hI 
              obtain ⟨h14_61, h14_6, hL14, hinv⟩ := hI
              replace hL14 := hL14.symm
              subst hL14
              clear h13_6 h13_7 h13_57 T13
              refine RX.live [6, 61] (fun T15 hT15 => ?_)
              simp only [forall_mem_cons', forall_mem_nil', go_sem, Φa, hP, h14_61, h14_6] at hT15
              obtain ⟨h15_6, h15_61⟩ := hT15
              clear h14_61 h14_6 T14
              refine RX.join 5 (fun (ss : Unit) T L' => T 66 = .bool (true) ∧ T 6 = T15 6 ∧ L' = some (g5, .cells ((List.replicate 128 (.slice none 0 0)).set 0 (.slice (some ⟨g4, 0, none⟩) 1 1)).toArray 50 (0, 0)) :: some (g4, .cells [.int .u8 129].toArray 5 (0, 0)) :: so2 :: some (gA, .cells ([((⟨0, R, true⟩ : Fm), d1)].flatMap fval ++ junkA).toArray 41 (0, 0)) :: (segs [((⟨0, R, true⟩ : Fm), d1)] ++ (some (g1, .cells (Z.flatMap Rc.cells).toArray 29 (0, 0)) :: L)) ∧ (True)) (fun K13 hK13 => ?_) ?_
              · simp only [h15_6] at hK13
                simp (maxSteps:=1000000)(dsimp:=false)(disch:=omega) only [go_sem, Φa, hP, h15_6, h15_61, hops, hs1, hs2]
                repeat' (first | refine iteB (fun hg => ?_) (fun hg => ?_) | refine iteI (fun hg => ?_) (fun hg => ?_) | ((first | refine ⟨_, Cell.at 3 rfl rfl, ?_⟩ | refine And.intro (by omega) ?_ | refine ⟨_, Cell.at 0 rfl rfl, ?_⟩ | refine ⟨_, Cell.at 1 rfl rfl, ?_⟩ | refine ⟨_, Cell.at 2 rfl rfl, ?_⟩ | refine ⟨_, Cell.at 3 rfl rfl, ?_⟩ | refine ⟨_, Cell.at 4 rfl rfl, ?_⟩ | fail); try (with_reducible refine stI ?_); try simp (maxSteps:=1000000)(dsimp:=false)(disch:=omega) only [go_sem, Φa, hP, h15_6, h15_61, hops, hs1, hs2]) | fail)
                all_goals
                  refine hK13 () _ (some (g5, .cells ((List.replicate 128 (.slice none 0 0)).set 0 (.slice (some ⟨g4, 0, none⟩) 1 1)).toArray 50 (0, 0)) :: some (g4, .cells [.int .u8 129].toArray 5 (0, 0)) :: so2 :: some (gA, .cells ([((⟨0, R, true⟩ : Fm), d1)].flatMap fval ++ junkA).toArray 41 (0, 0)) :: (segs [((⟨0, R, true⟩ : Fm), d1)] ++ (some (g1, .cells (Z.flatMap Rc.cells).toArray 29 (0, 0)) :: L))) _ (by first | exact Less.refl _ | exact Less.drop _ _ | exact Less.drops (Less.drop _ _) | exact Less.drops (Less.drops (Less.drop _ _)) | exact Less.drops (Less.drops (Less.drops (Less.drop _ _))) | exact Less.drops (Less.drops (Less.drops (Less.drops (Less.drop _ _))))) ?_
                  try dsimp only
                  refine ⟨?_, ?_, ?_, ?_⟩
                  · simp (maxSteps:=1000000)(dsimp:=false)(disch:=omega) only [go_sem, Φa, hP, h15_6, h15_61]
                    first | done | rfl
                  · simp (maxSteps:=1000000)(dsimp:=false)(disch:=omega) only [go_sem, Φa, hP, h15_6, h15_61]
                  · rfl
                  · trivial
              · intro ss T16 L16 hI
                simp only [h15_6] at hI 
                obtain ⟨h16_66, h16_6, hL16, hinv⟩ := hI
                replace hL16 := hL16.symm
                subst hL16
                clear h15_6 h15_61 T15
                refine RX.live [6, 66] (fun T17 hT17 => ?_)
                simp only [forall_mem_cons', forall_mem_nil', go_sem, Φa, hP, h16_66, h16_6] at hT17
                obtain ⟨h17_6, h17_66⟩ := hT17
                clear h16_66 h16_6 T16
                refine RX.join 5 (fun (ss : Unit) T L' => T 71 = .bool (true) ∧ L' = some (g5, .cells ((List.replicate 128 (.slice none 0 0)).set 0 (.slice (some ⟨g4, 0, none⟩) 1 1)).toArray 50 (0, 0)) :: some (g4, .cells [.int .u8 129].toArray 5 (0, 0)) :: so2 :: some (gA, .cells ([((⟨0, R, true⟩ : Fm), d1)].flatMap fval ++ junkA).toArray 41 (0, 0)) :: (segs [((⟨0, R, true⟩ : Fm), d1)] ++ (some (g1, .cells (Z.flatMap Rc.cells).toArray 29 (0, 0)) :: L)) ∧ (True)) (fun K14 hK14 => ?_) ?_
                · simp (maxSteps:=1000000)(dsimp:=false)(disch:=omega) only [go_sem, Φa, hP, h17_6, h17_66, hops, hs1, hs2]
                  repeat' (first | refine iteB (fun hg => ?_) (fun hg => ?_) | refine iteI (fun hg => ?_) (fun hg => ?_) | ((first | refine ⟨_, Cell.at 3 rfl rfl, ?_⟩ | refine And.intro (by omega) ?_ | refine ⟨_, Cell.at 0 rfl rfl, ?_⟩ | refine ⟨_, Cell.at 1 rfl rfl, ?_⟩ | refine ⟨_, Cell.at 2 rfl rfl, ?_⟩ | refine ⟨_, Cell.at 3 rfl rfl, ?_⟩ | refine ⟨_, Cell.at 4 rfl rfl, ?_⟩ | fail); try (with_reducible refine stI ?_); try simp (maxSteps:=1000000)(dsimp:=false)(disch:=omega) only [go_sem, Φa, hP, h17_6, h17_66, hops, hs1, hs2]) | fail)
                  all_goals
                    refine hK14 () _ (some (g5, .cells ((List.replicate 128 (.slice none 0 0)).set 0 (.slice (some ⟨g4, 0, none⟩) 1 1)).toArray 50 (0, 0)) :: some (g4, .cells [.int .u8 129].toArray 5 (0, 0)) :: so2 :: some (gA, .cells ([((⟨0, R, true⟩ : Fm), d1)].flatMap fval ++ junkA).toArray 41 (0, 0)) :: (segs [((⟨0, R, true⟩ : Fm), d1)] ++ (some (g1, .cells (Z.flatMap Rc.cells).toArray 29 (0, 0)) :: L))) _ (by first | exact Less.refl _ | exact Less.drop _ _ | exact Less.drops (Less.drop _ _) | exact Less.drops (Less.drops (Less.drop _ _)) | exact Less.drops (Less.drops (Less.drops (Less.drop _ _))) | exact Less.drops (Less.drops (Less.drops (Less.drops (Less.drop _ _))))) ?_
                    try dsimp only
                    refine ⟨?_, ?_, ?_⟩
                    · simp (maxSteps:=1000000)(dsimp:=false)(disch:=omega) only [go_sem, Φa, hP, h17_6, h17_66]
                      first | done | rfl
                    · rfl
                    · trivial
                · intro ss T18 L18 hI
                  obtain ⟨h18_71, hL18, hinv⟩ := hI
                  replace hL18 := hL18.symm
                  subst hL18
                  clear h17_6 h17_66 T17
                  refine RX.done ?_
                  simp (maxSteps:=1000000)(dsimp:=false)(disch:=omega) only [go_sem, Φa, hP, h18_71, hops]
                  refine hK6 _ _ ?_
                  try clear hK6 K6
                  refine SX.ret ?_
                  simp only [andThen_normal, andThen_ret, andThen_exit, inBlk_normal, inBlk_ret, inBlk_exit, Nat.reduceEqDiff, if_true, if_false, ↓reduceIte, retQ_ret]
                  try simp only [res0, res1, res2, res3, stK_e, go_sem, Φa, hP, h18_71]
                  exact ⟨_, _, Less.drops (Less.drops (Less.drops (Less.drops (Less.sublist ((List.sublist_cons_self _ _).trans (List.sublist_append_right _ _)))))), rfl, rfl, rfl⟩

end Go.Proofs.YtpakphgeichopaaDoor
set_option linter.unusedVariables false
set_option linter.unusedSimpArgs false
namespace Go.Proofs.YtpakphgeichopaaDoor
open Go.RowKit Go.SX Go.Proofs

theorem i64_and_le (a : Int) (m : Nat) (hm : m < 4611686018427387904) : ∃ n : Nat, bits .and .i64 a (m : Int) = (n : Int) ∧ n ≤ m := by
  have h : ((BitVec.ofInt 64 a) &&& (BitVec.ofInt 64 (m : Int))).toNat ≤ m := by
    rw [BitVec.toNat_and, BitVec.ofInt_natCast, BitVec.toNat_ofNat, Nat.mod_eq_of_lt (by omega)]
    exact Nat.and_le_right
  refine ⟨_, ?_, h⟩
  show IntKind.i64.wrap (((BitVec.ofInt 64 a) &&& (BitVec.ofInt 64 (m : Int))).toNat : Int) = _
  exact w64 (by omega)
theorem tmod_nat (a b : Nat) : ((a : Int)).tmod (b : Int) = ((a % b : Nat) : Int) := by
  rw [Int.tmod_eq_emod_of_nonneg (Int.natCast_nonneg _), Int.natCast_emod]
theorem vast_no {f : Fm} (h : vastF f = false) : cnt f.rows ≤ 2147483647 ∧ f.rows.length ≤ 2147483647 := by
  unfold vastF at h
  rw [decide_eq_false_iff_not] at h
  omega
end Go.Proofs.YtpakphgeichopaaDoor
set_option linter.unusedVariables false
namespace Go.Proofs.YtpakphgeichopaaDoor
open Go.ChangeShapes Go.WideShapes Go.ChangeAt Go.RowKit Go.SX
/-! What is handed in: rasters, records, frames; the laid variable. -/
theorem own : ownKnob Tryd.prog.godebug = none := by kernel_rfl
theorem laidOut : laidOutB Tryd.prog = true := by kernel_rfl
theorem cells3 : Tryd.prog.cellsOf 3 = 1 := by kernel_rfl
theorem cells5 : Tryd.prog.cellsOf 5 = 1 := by kernel_rfl
theorem cells41 : Tryd.prog.cellsOf 41 = 3 := by kernel_rfl
theorem cells50 : Tryd.prog.cellsOf 50 = 1 := by kernel_rfl
theorem cellsE : Tryd.prog.cellsOf 89 = 2 := by kernel_rfl
theorem cellsS : Tryd.prog.cellsOf 90 = 2 := by kernel_rfl
theorem gSh : Tryd.prog.globalNamed "vesper/pixie.shown" = some 0 := by kernel_rfl
theorem tSh : (Tryd.prog.globals[0]?).map (·.type) = some 90 := by kernel_rfl
theorem shown_of {W : World} {laid : List (String × DataW Unit)} (hp : (laid.all fun x => x.2.handleName?.isNone) = true) (hL : laidMetH Tryd.prog laid W) (hm : ("vesper/pixie.shown", Rows.laid_vesper_pixie_shown) ∈ laid) : SH ⟨Tryd.prog, W, []⟩ := by
  obtain ⟨cs, f, p, h1, h2⟩ := laid_var hp hL hm gSh tSh
  have key := trod_arr_arr (zss := [[80, 207]]) Tryd.underlying90 Tryd.underlying89 Tryd.underlying3 cells3 cellsE cellsS (by intro zs hz; rw [List.mem_singleton.1 hz]; rfl) h1 rfl
  intro L i b hb
  have hi : ([[80, 207]] : List (List Int))[i]? = some [b.1, b.2] := by
    cases i with
    | zero => simp at hb; subst hb; rfl
    | succ i => simp at hb
  constructor
  · refine Cell.old (by simp) ?_
    rw [Addr.add_lit, Nat.zero_add, h2]
    exact key i 0 _ _ hi rfl
  · refine Cell.old (by simp) ?_
    rw [Addr.add_lit, Nat.zero_add, h2]
    exact key i 1 _ _ hi rfl
theorem flat46 : flatK Tryd.prog 9 46 = some [.i .i64, .i .u8, .i .i64] := by kernel_rfl
section
variable {H : Type} {enc : TypeId × Value → H} {W : World} {base : Nat} {v : Value} {d : DataW H} {p : List MemPlace}
/-- Rows of bytes that are handed in. -/
def RowsIn (W : World) (v : Value) (l : List (List Int)) : Prop := SlR (Cell ⟨Tryd.prog, W, []⟩ []) v l ∧ (∀ r ∈ l, Byte r ∧ r.length ≤ 9223372036854775807) ∧ l.length ≤ 9223372036854775807
set_option maxRecDepth 100000 in
theorem open_rowsV {n : Nat} {y : DataW H × List MemPlace} (hy : DataW.trod enc Tryd.prog W 0 (fun _ => true) true n 39 [v] = some y) : ∃ l, RowsIn W v l := by
  obtain ⟨l, ⟨A, c, h1, h2, h3⟩, hl⟩ := open_slR (R := fun cs (r : List Int) => ∃ u, cs = [u] ∧ SlI .u8 (Cell ⟨Tryd.prog, W, []⟩ []) u r ∧ Byte r ∧ r.length ≤ 9223372036854775807) Tryd.underlying39 cells50 (fun n cs y hy => by
    cases n with
    | zero => simp [DataW.trod] at hy
    | succ n =>
      obtain ⟨u, rfl⟩ : ∃ u, cs = [u] := by
        rcases DataW.trod_slice Tryd.underlying50 hy with ⟨h, _⟩ | ⟨a, len, cap, _, _, _, _, h, _⟩
        · exact ⟨_, h⟩
        · exact ⟨_, h⟩
      obtain ⟨xs, hx, hw, hl⟩ := open_slv Tryd.underlying50 Tryd.underlying5 cells5 hy
      exact ⟨xs, u, rfl, hx, fun n hn => by have := bounds_u8 (hw n hn); omega, hl⟩) hy
  refine ⟨l, ⟨A, c, h1, h2, fun j x hj => ?_⟩, fun r hr => ?_, hl⟩
  · obtain ⟨a, ha, cs, _, ⟨u, rfl, k1, _⟩, k⟩ := h3 j x hj
    refine ⟨a, ha, u, ?_, k1⟩
    have := k 0 _ rfl
    simpa [Addr.add_zero'] using this
  · obtain ⟨j, hj⟩ := List.mem_iff_getElem?.1 hr
    obtain ⟨a, ha, cs, _, ⟨u, _, _, k⟩, _⟩ := h3 j r hj
    exact k
set_option maxRecDepth 100000 in
theorem open_frame (hv : Value.okWide Tryd.prog W .any base 41 v) (h : DataW.Trod enc Tryd.prog W 0 (fun _ => true) true 41 v d p) :
    ∃ (f : Fm) (rv : Value), v = .agg (f.cells rv).toArray ∧ RowsIn W rv f.rows ∧ (Lit.int .i64 f.at_).wf = true := by
  obtain ⟨cs, rfl, _⟩ := okWide_struct Tryd.underlying41 hv
  obtain ⟨fuel, hy⟩ := h
  obtain ⟨xs, m, _, _, hcs, hxs, hf⟩ := DataW.trod_struct Tryd.underlying41 hy
  rw [cells41] at hcs
  obtain ⟨l⟩ := cs
  match l, hcs with
  | [c0, c1, c2], _ =>
    have h0 : DataW.trod enc Tryd.prog W 0 (fun _ => true) true m 3 [c0] = xs[0]? := hf 0 _ rfl
    have h1 : DataW.trod enc Tryd.prog W 0 (fun _ => true) true m 39 [c1] = xs[1]? := hf 1 _ rfl
    have h2 : DataW.trod enc Tryd.prog W 0 (fun _ => true) true m 4 [c2] = xs[2]? := hf 2 _ rfl
    rw [List.getElem?_eq_getElem (by rw [hxs]; decide)] at h0 h1 h2
    obtain ⟨n, e1, _, e3⟩ := DataW.trod_int Tryd.underlying3 h0
    obtain ⟨b, e2, _⟩ := DataW.trod_bool Tryd.underlying4 h2
    obtain ⟨rows, hr⟩ := open_rowsV h1
    simp at e1 e2
    subst e1 e2
    exact ⟨⟨n, rows, b⟩, c1, rfl, hr, e3⟩
theorem open_turn (hv : Value.okWide Tryd.prog W .any base 46 v) (h : DataW.Trod enc Tryd.prog W 0 (fun _ => true) true 46 v d p) :
    ∃ (a b m : Int), v = .agg #[.int .i64 a, .int .u8 b, .int .i64 m] ∧ (Lit.int .i64 a).wf = true ∧ (0 ≤ b ∧ b ≤ 255) ∧ (Lit.int .i64 m).wf = true := by
  obtain ⟨cs, rfl, _⟩ := okWide_struct Tryd.underlying46 hv
  have hk := open_flat flat46 h
  obtain ⟨a, v1, e1, h1, hk⟩ := okVs_i hk
  obtain ⟨b, v2, e2, h2, hk⟩ := okVs_i hk
  obtain ⟨m, v3, e3, h3, hk⟩ := okVs_i hk
  have e4 := okVs_nil hk
  subst e4 e3 e2
  exact ⟨a, b, m, congrArg Value.agg (Array.toList_inj.1 e1), h1, by have := bounds_u8 h2; omega, h3⟩
theorem RowsIn.by_ {rv : Value} {l : List (List Int)} (h : RowsIn W rv l) : ∀ i, i < l.length → ∀ j, j < (l.getD i []).length → 0 ≤ (l.getD i []).getD j 0 ∧ (l.getD i []).getD j 0 ≤ 255 := fun i hi j hj => by
  have hm := (h.2.1 _ (List.mem_of_getElem? (getD_get (d := []) hi))).1
  exact hm _ (List.mem_of_getElem? (getD_get (d := 0) hj))
end
end Go.Proofs.YtpakphgeichopaaDoor
