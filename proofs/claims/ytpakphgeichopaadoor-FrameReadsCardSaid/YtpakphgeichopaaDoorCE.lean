/- A part of a proof: contracts and plain facts that it stands on. -/
import Derived.Test.YtpakphgeichopaaDoorCD
import Derived.Test.YtpakphgeichopaaDoorRows
import Derived.Test.YtpakphgeichopaaDoorCards
import Derived.Test.YtpakphgeichopaaDoorTie
import Derived.SevenTiedAt
import Derived.Lib.SmallJoins
set_option linter.unusedVariables false
set_option linter.unusedSimpArgs false
namespace Go.Proofs.YtpakphgeichopaaDoor
open Go.RowKit Go.SX Go.Proofs
open Go.SX renaming ia_someH → Φa

def bsV (b : ByteArray) : List Value := [.string b]
theorem bsV_len (b : ByteArray) : (bsV b).length = 1 := rfl
abbrev RowB (v : Value) (l : List ByteArray) (s : Slot) : Prop := RowL bsV 9 1 v l s
instance : Inhabited ByteArray := ⟨⟨#[]⟩⟩
theorem RowB.anyB {v : Value} {ws : List ByteArray} {s : Slot} (h : RowB v ws s) :
    ∃ A c b, v = .slice A ws.length c ∧ (ws.length ≤ c ∧ c ≤ 9223372036854775807) ∧ (0 < ws.length → A = some ⟨b, 0, none⟩) ∧ ∀ (Γ : Ctx) (L : Hp) (i : Nat), L[i]? = some s → ∀ j, j < ws.length → Cell Γ L ⟨b, j, none⟩ (.string (ws.getD j default)) := by
  obtain ⟨A, c, a1, h1, h2, h3, h4⟩ := RowL.anyL bsV_len h
  exact ⟨A, c, a1, h1, h2, h3, fun Γ L i hi j hj => by have := h4 Γ L i hi j hj 0 _ (by decide) rfl; rwa [Nat.mul_one, Nat.add_zero] at this⟩
def RefRowR (l : ByteArray) (L : Hp) (v : Value) (L' : Hp) : Prop := (okLine l = true ∧ ∃ vo so, v = .tuple #[vo, .bool true] ∧ L' = so :: L ∧ RowI .u8 5 vo (rowT l) so) ∨ (okLine l = false ∧ v = .tuple #[.slice none 0 0, .bool false] ∧ L' = L)
theorem okRow_not {c : List Int} {i : Nat} (hi : i < c.length) (h : ¬ (c.getD i 0 = 35 ∨ c.getD i 0 = 46)) : okRow c = false := by
  rcases hk : okRow c with _ | _
  · rfl
  · exfalso
    unfold okRow at hk
    simp only [Bool.and_eq_true, decide_eq_true_eq, List.all_eq_true, Bool.or_eq_true] at hk
    exact h (hk.2 _ (getD_memI hi))
theorem okRow_yes {c : List Int} (h1 : c.length % 8 = 0) (h2 : c.length ≤ 64) (h : ∀ j, j < c.length → c.getD j 0 = 35 ∨ c.getD j 0 = 46) : okRow c = true := by
  unfold okRow
  simp only [Bool.and_eq_true, decide_eq_true_eq, List.all_eq_true, Bool.or_eq_true]
  refine ⟨⟨h1, h2⟩, fun x hx => ?_⟩
  obtain ⟨j, hj⟩ := List.mem_iff_getElem?.1 hx
  have := h j (List.getElem?_eq_some_iff.1 hj).1
  rwa [List.getD_eq_getElem?_getD, hj] at this
theorem okRow_no {c : List Int} (h : ¬ (c.length % 8 = 0 ∧ c.length ≤ 64)) : okRow c = false := by
  rcases hk : okRow c with _ | _
  · rfl
  · exfalso
    unfold okRow at hk
    simp only [Bool.and_eq_true, decide_eq_true_eq] at hk
    exact h hk.1
set_option maxHeartbeats 1000000 in
set_option maxRecDepth 100000 in
theorem Lines_spec {Γ : Ctx} (hP : Γ.P = Tryd.prog) {L : Hp} {s : ByteArray} (hs : s.size ≤ 65536) :
    SCall Γ 45 #[(.string s)] L (fun v L' => ∃ vo so, v = .tuple #[vo, .string (restR s)] ∧ L' = so :: L ∧ RowB vo (linesR s) so) := by
  refine SCall.enter (n := 30) (res2 2 3) (hP ▸ Tryd.func45) rfl rfl (by simp) (res2_ok rfl) ?_
  refine SX.seq_k fun K1 hK1 => ?_
  refine SX.region_d [some 2, some 3] rfl (fun ops hops => ?_)
  unfold Dsts at hops
  simp (maxSteps:=1000000)(dsimp:=false)(disch:=omega) only [go_sem, Φa, hP, hops]
  refine hK1 _ _ ?_
  try clear hK1 K1
  refine SX.seq_k fun K2 hK2 => ?_
  refine SX.region_d [some 4] rfl (fun ops hops => ?_)
  unfold Dsts at hops
  simp (maxSteps:=1000000)(dsimp:=false)(disch:=omega) only [go_sem, Φa, hP, hops]
  refine hK2 _ _ ?_
  try clear hK2 K2
  refine SX.seq_k fun K3 hK3 => ?_
  refine SX.region_d [some 5] rfl (fun ops hops => ?_)
  unfold Dsts at hops
  simp (maxSteps:=1000000)(dsimp:=false)(disch:=omega) only [go_sem, Φa, hP, hops]
  refine hK3 _ _ ?_
  try clear hK3 K3
  refine SX.seq_k fun K4 hK4 => ?_
  refine SX.seq_k fun K5 hK5 => ?_
  refine SX.less (Less.none _) ?_
  refine SX.region_d [some 6] rfl (fun ops hops => ?_)
  unfold Dsts at hops
  simp (maxSteps:=1000000)(dsimp:=false)(disch:=omega) only [go_sem, Φa, hP, hops]
  refine hK5 _ _ ?_
  try clear hK5 K5
  refine SX.block ?_
  refine SX.live [0, 4, 5, 6] (fun T1 hT1 => ?_)
  simp only [forall_mem_cons', forall_mem_nil', go_sem, Φa, hP] at hT1
  obtain ⟨h1_0, h1_4, h1_5, h1_6⟩ := hT1
  refine SX.loop_k (fun (ss : (Nat) × (Value) × (Slot)) T L' => (fun (i : Nat) (vo : Value) (so : Slot) => T 4 = vo ∧ T 5 = .int .i64 (((lnAt s i).2 : Nat) : Int) ∧ T 6 = .int .i64 (i : Int) ∧ T 0 = T1 0 ∧ L' = so :: L ∧ (i ≤ s.size ∧ RowB vo (lnAt s i).1 so)) (ss.1) (ss.2.1) (ss.2.2)) (fun (ss : (Nat) × (Value) × (Slot)) => (fun (i : Nat) (vo : Value) (so : Slot) => s.size - i) (ss.1) (ss.2.1) (ss.2.2)) (0, .slice none 0 0, none) ?_ ?_
  · try dsimp only
    refine ⟨?_, ?_, ?_, ?_, ?_, ?_⟩
    · first | exact h1_4 | (rw [h1_4]; rfl) | (rw [h1_4]; simp; done)
    · first | exact h1_5 | (rw [h1_5]; rfl) | (rw [h1_5]; simp; done)
    · first | exact h1_6 | (rw [h1_6]; rfl) | (rw [h1_6]; simp; done)
    · rfl
    · rfl
    · exact ⟨Nat.zero_le _, RowL.nil _ _ _⟩
  · intro ss T2 L2 hI K6 hK6
    obtain ⟨i, vo, so⟩ := ss
    try dsimp only at hI hK6
    simp only [h1_0] at hI hK6
    obtain ⟨h2_4, h2_5, h2_6, h2_0, hL2, ⟨hi, hrow⟩⟩ := hI
    replace hL2 := hL2.symm
    subst hL2
    clear h1_0 h1_4 h1_5 h1_6 T1
    refine SX.seq_k fun K7 hK7 => ?_
    refine SX.seq_k fun K8 hK8 => ?_
    refine SX.region_d [some 7, some 8, some 9, some 10] rfl (fun ops hops => ?_)
    unfold Dsts at hops
    simp (maxSteps:=1000000)(dsimp:=false)(disch:=omega) only [go_sem, Φa, hP, h2_4, h2_5, h2_6, h2_0, hops]
    repeat' ((first | refine And.intro (by omega) ?_ | fail); try (with_reducible refine stI ?_); try simp (maxSteps:=1000000)(dsimp:=false)(disch:=omega) only [go_sem, Φa, hP, h2_4, h2_5, h2_6, h2_0, hops])
    refine hK8 _ _ ?_
    try clear hK8 K8
    refine SX.cond_k fun X9 Y9 hX9 hY9 => ?_
    simp (maxSteps:=1000000)(dsimp:=false)(disch:=omega) only [go_sem, Φa, hP, h2_4, h2_5, h2_6, h2_0, condVC]
    refine ⟨fun hc10 => hX9 ?_, fun hc10 => hY9 ?_⟩
    · clear hX9 hY9 X9 Y9
      refine SX.skip ?_
      try simp only [andThen_normal, andThen_ret, andThen_exit, inBlk_normal, inBlk_ret, inBlk_exit, Nat.reduceEqDiff, if_true, if_false, ↓reduceIte]
      refine hK7 _ _ ?_
      try clear hK7 K7
      refine SX.seq_k fun K10 hK10 => ?_
      refine SX.block ?_
      refine SX.seq_k fun K11 hK11 => ?_
      have hil : i < s.size := by omega
      obtain ⟨b, hb1, hb2⟩ := nums8_getD hil
      obtain ⟨hv1, hv2, _⟩ := lnAt_inv s i (by omega)
      refine SX.region_d [some 13, some 14, some 15, some 16] rfl (fun ops hops => ?_)
      unfold Dsts at hops
      simp (maxSteps:=1000000)(dsimp:=false)(disch:=omega) only [go_sem, Φa, hP, h2_4, h2_5, h2_6, h2_0, hops, hb1]
      refine ⟨_, rfl, ?_⟩
      try with_reducible refine stI ?_
      try simp (maxSteps:=1000000)(dsimp:=false)(disch:=omega) only [go_sem, Φa, hP, h2_4, h2_5, h2_6, h2_0, hops, hb1]
      refine hK11 _ _ ?_
      try clear hK11 K11
      refine SX.cond_k fun X12 Y12 hX12 hY12 => ?_
      simp (maxSteps:=1000000)(dsimp:=false)(disch:=omega) only [go_sem, Φa, hP, h2_4, h2_5, h2_6, h2_0, condVC]
      refine ⟨fun hc16 => hX12 ?_, fun hc16 => hY12 ?_⟩
      · clear hX12 hY12 X12 Y12
        refine SX.seq_k fun K13 hK13 => ?_
        have h10 : (nums8 s).getD i 0 = 10 := by rw [hb2]; first | exact hc16 | simpa using hc16
        refine SX.region_d [some 17, some 18, some 19, some 20, some 21, some 22, some 23, some 4] rfl (fun ops hops => ?_)
        unfold Dsts at hops
        simp (maxSteps:=1000000)(dsimp:=false)(disch:=omega) only [go_sem, Φa, hP, h2_4, h2_5, h2_6, h2_0, hops]
        intro g7
        try with_reducible refine stI ?_
        try simp (maxSteps:=1000000)(dsimp:=false)(disch:=omega) only [go_sem, Φa, hP, h2_4, h2_5, h2_6, h2_0, hops]
        refine YAppend.rowL (z := [.string ⟨#[]⟩]) (f := bsV) (x := s.extract (lnAt s i).2 i) (i := 0) (hP ▸ T.elS_83) (hP ▸ T.zr_9) rfl rfl rfl rfl hrow (by omega) (by decide) ?_
        intro v' s' hr'
        try with_reducible refine stI ?_
        try simp (maxSteps:=1000000)(dsimp:=false)(disch:=omega) only [go_sem, Φa, hP, h2_4, h2_5, h2_6, h2_0, hops]
        refine hK13 _ _ ?_
        try clear hK13 K13
        refine SX.live [0, 4, 6] (fun T3 hT3 => ?_)
        simp only [forall_mem_cons', forall_mem_nil', go_sem, Φa, hP, h2_4, h2_5, h2_6, h2_0] at hT3
        obtain ⟨h3_0, h3_4, h3_6⟩ := hT3
        clear h2_4 h2_5 h2_6 h2_0 T2
        refine SX.region_d [some 24, some 25, some 5] rfl (fun ops hops => ?_)
        unfold Dsts at hops
        simp (maxSteps:=1000000)(dsimp:=false)(disch:=omega) only [go_sem, Φa, hP, h3_0, h3_4, h3_6, hops]
        repeat' ((first | refine And.intro (by omega) ?_ | fail); try (with_reducible refine stI ?_); try simp (maxSteps:=1000000)(dsimp:=false)(disch:=omega) only [go_sem, Φa, hP, h3_0, h3_4, h3_6, hops])
        refine hK10 _ _ ?_
        try clear hK10 K10
        refine SX.region_d [some 11, some 12, some 6] rfl (fun ops hops => ?_)
        unfold Dsts at hops
        simp (maxSteps:=1000000)(dsimp:=false)(disch:=omega) only [go_sem, Φa, hP, h3_0, h3_4, h3_6, hops]
        repeat' ((first | refine And.intro (by omega) ?_ | fail); try (with_reducible refine stI ?_); try simp (maxSteps:=1000000)(dsimp:=false)(disch:=omega) only [go_sem, Φa, hP, h3_0, h3_4, h3_6, hops])
        refine hK6 (i + 1, v', s') _ (s' :: L) _ (by exact Less.drop _ _) ?_ ?_
        · try dsimp only
          refine ⟨?_, ?_, ?_, ?_, ?_, ?_⟩
          · simp (maxSteps:=1000000)(dsimp:=false)(disch:=omega) only [go_sem, Φa, hP, h3_0, h3_4, h3_6]
            first | done | rfl | skip
          · simp (maxSteps:=1000000)(dsimp:=false)(disch:=omega) only [go_sem, Φa, hP, h3_0, h3_4, h3_6]
            rw [lnAt, if_pos h10]; try rfl
          · simp (maxSteps:=1000000)(dsimp:=false)(disch:=omega) only [go_sem, Φa, hP, h3_0, h3_4, h3_6]
            first | done | rfl | skip
          · simp (maxSteps:=1000000)(dsimp:=false)(disch:=omega) only [go_sem, Φa, hP, h3_0, h3_4, h3_6]
          · rfl
          · refine ⟨by omega, ?_⟩
            rw [lnAt, if_pos h10]
            exact hr'
        · (try dsimp only); omega
      · clear hX12 hY12 X12 Y12
        refine SX.skip ?_
        try simp only [andThen_normal, andThen_ret, andThen_exit, inBlk_normal, inBlk_ret, inBlk_exit, Nat.reduceEqDiff, if_true, if_false, ↓reduceIte]
        refine hK10 _ _ ?_
        try clear hK10 K10
        refine SX.region_d [some 11, some 12, some 6] rfl (fun ops hops => ?_)
        unfold Dsts at hops
        simp (maxSteps:=1000000)(dsimp:=false)(disch:=omega) only [go_sem, Φa, hP, h2_4, h2_5, h2_6, h2_0, hops]
        repeat' ((first | refine And.intro (by omega) ?_ | fail); try (with_reducible refine stI ?_); try simp (maxSteps:=1000000)(dsimp:=false)(disch:=omega) only [go_sem, Φa, hP, h2_4, h2_5, h2_6, h2_0, hops])
        refine hK6 (i + 1, vo, so) _ (so :: L) _ (by exact Less.refl _) ?_ ?_
        · try dsimp only
          refine ⟨?_, ?_, ?_, ?_, ?_, ?_⟩
          · simp (maxSteps:=1000000)(dsimp:=false)(disch:=omega) only [go_sem, Φa, hP, h2_4, h2_5, h2_6, h2_0]
            first | done | rfl | skip
          · simp (maxSteps:=1000000)(dsimp:=false)(disch:=omega) only [go_sem, Φa, hP, h2_4, h2_5, h2_6, h2_0]
            rw [lnAt, if_neg (by rw [hb2]; first | exact hc16 | simpa using hc16)]; try assumption
          · simp (maxSteps:=1000000)(dsimp:=false)(disch:=omega) only [go_sem, Φa, hP, h2_4, h2_5, h2_6, h2_0]
            first | done | rfl | skip
          · simp (maxSteps:=1000000)(dsimp:=false)(disch:=omega) only [go_sem, Φa, hP, h2_4, h2_5, h2_6, h2_0]
          · rfl
          · refine ⟨by omega, ?_⟩
            rw [lnAt, if_neg (by rw [hb2]; first | exact hc16 | simpa using hc16)]
            exact hrow
        · (try dsimp only); omega
    · clear hX9 hY9 X9 Y9
      refine SX.exit ?_
      try simp only [andThen_normal, andThen_ret, andThen_exit, inBlk_normal, inBlk_ret, inBlk_exit, Nat.reduceEqDiff, if_true, if_false, ↓reduceIte]
      refine hK4 _ _ ?_
      try clear hK4 K4
      refine SX.seq_k fun K14 hK14 => ?_
      obtain rfl : i = s.size := by omega
      have hle := (lnAt_inv s s.size (Nat.le_refl _)).1
      refine SX.quiet_d (hP ▸ T.mixed) (by kernel_rfl) [some 26, some 27, some 28, some 29, some 2, some 3] rfl (fun ops hops => ?_)
      unfold Dsts at hops
      simp (maxSteps:=1000000)(dsimp:=false)(disch:=omega) only [go_sem, Φa, hP, h2_4, h2_5, h2_6, h2_0, hops]
      repeat' ((first | refine And.intro (by omega) ?_ | fail); try (with_reducible refine stI ?_); try simp (maxSteps:=1000000)(dsimp:=false)(disch:=omega) only [go_sem, Φa, hP, h2_4, h2_5, h2_6, h2_0, hops])
      refine hK14 _ _ ?_
      try clear hK14 K14
      refine SX.ret ?_
      simp only [andThen_normal, andThen_ret, andThen_exit, inBlk_normal, inBlk_ret, inBlk_exit, Nat.reduceEqDiff, if_true, if_false, ↓reduceIte, retQ_ret]
      try simp only [res0, res1, res2, res3, stK_e, go_sem, Φa, hP, h2_4, h2_5, h2_6, h2_0]
      exact ⟨_, _, Less.refl _, rfl, vo, so, rfl, rfl, hrow⟩
set_option maxHeartbeats 1000000 in
set_option maxRecDepth 100000 in
theorem refRow_spec {Γ : Ctx} (hP : Γ.P = Tryd.prog) {L : Hp} {l : ByteArray} :
    SCall Γ 46 #[(.string l)] L (RefRowR l L) := by
  refine SCall.enter (n := 49) (res2 2 3) (hP ▸ Tryd.func46) rfl rfl (by simp) (res2_ok rfl) ?_
  refine SX.seq_k fun K1 hK1 => ?_
  refine SX.region_d [some 2, some 3] rfl (fun ops hops => ?_)
  unfold Dsts at hops
  simp (maxSteps:=1000000)(dsimp:=false)(disch:=omega) only [go_sem, Φa, hP, hops]
  refine hK1 _ _ ?_
  try clear hK1 K1
  refine SX.seq_k fun K2 hK2 => ?_
  refine SX.seq_k fun K3 hK3 => ?_
  refine SX.region_xd [some 7, some 8, some 9, some 10, some 11, some 12, some 13, some 14, some 15] rfl (fun ops hops => ?_)
  unfold Dsts at hops
  refine RX.live [0] (fun T1 hT1 => ?_)
  simp only [forall_mem_cons', forall_mem_nil', go_sem, Φa, hP] at hT1
  have h1_0 := hT1; clear hT1
  have hcl : (nums8 l).length = l.size := nums8_length l
  have htm0 : (l.size : Int).tmod 8 = ((l.size % 8 : Nat) : Int) := tmod_nat l.size 8
  refine RX.join 9 (fun (ss : Unit) T L' => T 15 = .bool (!(decide (l.size % 8 = 0) && decide (l.size ≤ 64))) ∧ T 0 = T1 0 ∧ L' = L ∧ (True)) (fun K4 hK4 => ?_) ?_
  · simp only [h1_0] at hK4
    simp (maxSteps:=1000000)(dsimp:=false)(disch:=omega) only [go_sem, Φa, hP, h1_0, hops, htm0]
    repeat' (first | refine iteB (fun hg => ?_) (fun hg => ?_) | refine iteI (fun hg => ?_) (fun hg => ?_) | ((first | refine And.intro (by omega) ?_ | fail); try (with_reducible refine stI ?_); try simp (maxSteps:=1000000)(dsimp:=false)(disch:=omega) only [go_sem, Φa, hP, h1_0, hops, htm0]) | fail)
    all_goals
      refine hK4 () _ (L) _ (by first | exact Less.refl _ | exact Less.drop _ _ | exact Less.drops (Less.drop _ _) | exact Less.drops (Less.drops (Less.drop _ _)) | exact Less.drops (Less.drops (Less.drops (Less.drop _ _))) | exact Less.drops (Less.drops (Less.drops (Less.drops (Less.drop _ _))))) ?_
      try dsimp only
      refine ⟨?_, ?_, ?_, ?_⟩
      · simp (maxSteps:=1000000)(dsimp:=false)(disch:=omega) only [go_sem, Φa, hP, h1_0]
        first | done | (refine congrArg Value.bool ?_; rw [Bool.eq_iff_iff]; simp only [Bool.not_eq_true', Bool.and_eq_false_iff, Bool.or_eq_true, decide_eq_true_eq, decide_eq_false_iff_not]; omega) | (refine congrArg Value.bool ?_; rw [Bool.eq_iff_iff]; simp; first | done | omega)
      · simp (maxSteps:=1000000)(dsimp:=false)(disch:=omega) only [go_sem, Φa, hP, h1_0]
      · rfl
      · trivial
  · intro ss T2 L2 hI
    simp only [h1_0] at hI 
    obtain ⟨h2_15, h2_0, hL2, hinv⟩ := hI
    replace hL2 := hL2.symm
    subst hL2
    clear h1_0 T1
    refine RX.done ?_
    simp (maxSteps:=1000000)(dsimp:=false)(disch:=omega) only [go_sem, Φa, hP, h2_15, h2_0, hops]
    refine hK3 _ _ ?_
    try clear hK3 K3
    refine SX.cond_k fun X5 Y5 hX5 hY5 => ?_
    simp (maxSteps:=1000000)(dsimp:=false)(disch:=omega) only [go_sem, Φa, hP, h2_15, h2_0, condVC]
    refine ⟨fun hc15 => hX5 ?_, fun hc15 => hY5 ?_⟩
    · clear hX5 hY5 X5 Y5
      refine SX.seq_k fun K6 hK6 => ?_
      refine SX.region_d [some 2, some 3] rfl (fun ops hops => ?_)
      unfold Dsts at hops
      simp (maxSteps:=1000000)(dsimp:=false)(disch:=omega) only [go_sem, Φa, hP, h2_15, h2_0, hops]
      refine hK6 _ _ ?_
      try clear hK6 K6
      refine SX.ret ?_
      simp only [andThen_normal, andThen_ret, andThen_exit, inBlk_normal, inBlk_ret, inBlk_exit, Nat.reduceEqDiff, if_true, if_false, ↓reduceIte, retQ_ret]
      try simp only [res0, res1, res2, res3, stK_e, go_sem, Φa, hP, h2_15, h2_0]
      refine ⟨_, _, Less.refl _, rfl, .inr ⟨okRow_no (c := nums8 l) ?_, rfl, rfl⟩⟩
      rw [hcl]
      first | exact hc15 | omega | (simp at hc15; omega)
    · clear hX5 hY5 X5 Y5
      refine SX.skip ?_
      try simp only [andThen_normal, andThen_ret, andThen_exit, inBlk_normal, inBlk_ret, inBlk_exit, Nat.reduceEqDiff, if_true, if_false, ↓reduceIte]
      refine hK2 _ _ ?_
      try clear hK2 K2
      refine SX.seq_k fun K7 hK7 => ?_
      have hszz : l.size % 8 = 0 ∧ l.size ≤ 64 := by first | exact hc15 | omega | (simp at hc15; omega)
      refine SX.region_d [some 4] rfl (fun ops hops => ?_)
      unfold Dsts at hops
      simp (maxSteps:=1000000)(dsimp:=false)(disch:=omega) only [go_sem, Φa, hP, h2_15, h2_0, hops]
      refine hK7 _ _ ?_
      try clear hK7 K7
      refine SX.seq_k fun K8 hK8 => ?_
      refine SX.region_d [some 5] rfl (fun ops hops => ?_)
      unfold Dsts at hops
      simp (maxSteps:=1000000)(dsimp:=false)(disch:=omega) only [go_sem, Φa, hP, h2_15, h2_0, hops]
      refine hK8 _ _ ?_
      try clear hK8 K8
      refine SX.seq_k fun K9 hK9 => ?_
      refine SX.seq_k fun K10 hK10 => ?_
      refine SX.less (Less.none _) ?_
      refine SX.region_d [some 6] rfl (fun ops hops => ?_)
      unfold Dsts at hops
      simp (maxSteps:=1000000)(dsimp:=false)(disch:=omega) only [go_sem, Φa, hP, h2_15, h2_0, hops]
      refine hK10 _ _ ?_
      try clear hK10 K10
      refine SX.block ?_
      refine SX.live [0, 4, 5, 6] (fun T3 hT3 => ?_)
      simp only [forall_mem_cons', forall_mem_nil', go_sem, Φa, hP, h2_15, h2_0] at hT3
      obtain ⟨h3_0, h3_4, h3_5, h3_6⟩ := hT3
      clear h2_15 h2_0 T2
      refine SX.loop_k (fun (ss : (Nat) × (Value) × (Slot)) T L' => (fun (i : Nat) (vo : Value) (so : Slot) => T 4 = vo ∧ T 5 = .int .i64 (bAt (nums8 l) i).1 ∧ T 6 = .int .i64 (i : Int) ∧ T 0 = T3 0 ∧ L' = so :: L ∧ (i ≤ l.size ∧ RowI .u8 5 vo (bAt (nums8 l) i).2 so ∧ ∀ j, j < i → (nums8 l).getD j 0 = 35 ∨ (nums8 l).getD j 0 = 46)) (ss.1) (ss.2.1) (ss.2.2)) (fun (ss : (Nat) × (Value) × (Slot)) => (fun (i : Nat) (vo : Value) (so : Slot) => l.size - i) (ss.1) (ss.2.1) (ss.2.2)) (0, .slice none 0 0, none) ?_ ?_
      · try dsimp only
        refine ⟨?_, ?_, ?_, ?_, ?_, ?_⟩
        · first | exact h3_4 | (rw [h3_4]; rfl) | (rw [h3_4]; simp; done)
        · first | exact h3_5 | (rw [h3_5]; rfl) | (rw [h3_5]; simp; done)
        · first | exact h3_6 | (rw [h3_6]; rfl) | (rw [h3_6]; simp; done)
        · rfl
        · rfl
        · exact ⟨Nat.zero_le _, RowI.nil _ _, fun j hj => absurd hj (Nat.not_lt_zero _)⟩
      · intro ss T4 L4 hI K11 hK11
        obtain ⟨i, vo, so⟩ := ss
        try dsimp only at hI hK11
        simp only [h3_0] at hI hK11
        obtain ⟨h4_4, h4_5, h4_6, h4_0, hL4, ⟨hi, hrow, hin⟩⟩ := hI
        replace hL4 := hL4.symm
        subst hL4
        clear h3_0 h3_4 h3_5 h3_6 T3
        refine SX.seq_k fun K12 hK12 => ?_
        refine SX.seq_k fun K13 hK13 => ?_
        refine SX.region_d [some 16, some 17, some 18, some 19] rfl (fun ops hops => ?_)
        unfold Dsts at hops
        simp (maxSteps:=1000000)(dsimp:=false)(disch:=omega) only [go_sem, Φa, hP, h4_4, h4_5, h4_6, h4_0, hops]
        repeat' ((first | refine And.intro (by omega) ?_ | fail); try (with_reducible refine stI ?_); try simp (maxSteps:=1000000)(dsimp:=false)(disch:=omega) only [go_sem, Φa, hP, h4_4, h4_5, h4_6, h4_0, hops])
        refine hK13 _ _ ?_
        try clear hK13 K13
        refine SX.cond_k fun X14 Y14 hX14 hY14 => ?_
        simp (maxSteps:=1000000)(dsimp:=false)(disch:=omega) only [go_sem, Φa, hP, h4_4, h4_5, h4_6, h4_0, condVC]
        refine ⟨fun hc19 => hX14 ?_, fun hc19 => hY14 ?_⟩
        · clear hX14 hY14 X14 Y14
          refine SX.skip ?_
          try simp only [andThen_normal, andThen_ret, andThen_exit, inBlk_normal, inBlk_ret, inBlk_exit, Nat.reduceEqDiff, if_true, if_false, ↓reduceIte]
          refine hK12 _ _ ?_
          try clear hK12 K12
          refine SX.seq_k fun K15 hK15 => ?_
          refine SX.block ?_
          refine SX.seq_k fun K16 hK16 => ?_
          refine SX.seq_k fun K17 hK17 => ?_
          refine SX.region_xd [some 22, some 23, some 24, some 25, some 26, some 27, some 28, some 29, some 30, some 31] rfl (fun ops hops => ?_)
          unfold Dsts at hops
          refine RX.live [0, 4, 5, 6] (fun T5 hT5 => ?_)
          simp only [forall_mem_cons', forall_mem_nil', go_sem, Φa, hP, h4_4, h4_5, h4_6, h4_0] at hT5
          obtain ⟨h5_0, h5_4, h5_5, h5_6⟩ := hT5
          clear h4_4 h4_5 h4_6 h4_0 T4
          have hil : i < l.size := by omega
          obtain ⟨b, hb1, hb2⟩ := nums8_getD hil
          obtain ⟨hv1, hv2, hv3, _⟩ := bAt_inv (nums8 l) i
          have hv4 : (bAt (nums8 l) i).1 ≤ 127 := by
            have : i % 8 < 8 := by omega
            have : (2 : Int) ^ (i % 8) ≤ 2 ^ 7 := by
              have hh : ∀ m : Fin 8, (2 : Int) ^ m.1 ≤ 2 ^ 7 := by decide
              exact hh ⟨i % 8, by omega⟩
            omega
          refine RX.join 10 (fun (ss : Unit) T L' => T 31 = .bool (decide (¬ ((b.toNat : Int) = 35 ∨ (b.toNat : Int) = 46))) ∧ T 0 = T5 0 ∧ T 4 = T5 4 ∧ T 5 = T5 5 ∧ T 6 = T5 6 ∧ L' = so :: L ∧ (True)) (fun K18 hK18 => ?_) ?_
          · simp only [h5_0, h5_4, h5_5, h5_6] at hK18
            simp (maxSteps:=1000000)(dsimp:=false)(disch:=omega) only [go_sem, Φa, hP, h5_0, h5_4, h5_5, h5_6, hops, hb1]
            repeat' (first | refine iteB (fun hg => ?_) (fun hg => ?_) | refine iteI (fun hg => ?_) (fun hg => ?_) | ((first | refine ⟨_, rfl, ?_⟩ | refine And.intro (by omega) ?_ | refine ⟨_, Cell.at 0 rfl rfl, ?_⟩ | fail); try (with_reducible refine stI ?_); try simp (maxSteps:=1000000)(dsimp:=false)(disch:=omega) only [go_sem, Φa, hP, h5_0, h5_4, h5_5, h5_6, hops, hb1]) | fail)
            all_goals
              refine hK18 () _ (so :: L) _ (by first | exact Less.refl _ | exact Less.drop _ _ | exact Less.drops (Less.drop _ _) | exact Less.drops (Less.drops (Less.drop _ _)) | exact Less.drops (Less.drops (Less.drops (Less.drop _ _))) | exact Less.drops (Less.drops (Less.drops (Less.drops (Less.drop _ _))))) ?_
              try dsimp only
              refine ⟨?_, ?_, ?_, ?_, ?_, ?_, ?_⟩
              · simp (maxSteps:=1000000)(dsimp:=false)(disch:=omega) only [go_sem, Φa, hP, h5_0, h5_4, h5_5, h5_6]
                first | done | rfl | (refine congrArg Value.bool ?_; rw [Bool.eq_iff_iff]; simp; first | done | omega)
              · simp (maxSteps:=1000000)(dsimp:=false)(disch:=omega) only [go_sem, Φa, hP, h5_0, h5_4, h5_5, h5_6]
              · simp (maxSteps:=1000000)(dsimp:=false)(disch:=omega) only [go_sem, Φa, hP, h5_0, h5_4, h5_5, h5_6]
              · simp (maxSteps:=1000000)(dsimp:=false)(disch:=omega) only [go_sem, Φa, hP, h5_0, h5_4, h5_5, h5_6]
              · simp (maxSteps:=1000000)(dsimp:=false)(disch:=omega) only [go_sem, Φa, hP, h5_0, h5_4, h5_5, h5_6]
              · rfl
              · trivial
          · intro ss T6 L6 hI
            simp only [h5_0, h5_4, h5_5, h5_6] at hI 
            obtain ⟨h6_31, h6_0, h6_4, h6_5, h6_6, hL6, hinv⟩ := hI
            replace hL6 := hL6.symm
            subst hL6
            clear h5_0 h5_4 h5_5 h5_6 T5
            refine RX.done ?_
            simp (maxSteps:=1000000)(dsimp:=false)(disch:=omega) only [go_sem, Φa, hP, h6_31, h6_0, h6_4, h6_5, h6_6, hops]
            refine hK17 _ _ ?_
            try clear hK17 K17
            refine SX.cond_k fun X19 Y19 hX19 hY19 => ?_
            simp (maxSteps:=1000000)(dsimp:=false)(disch:=omega) only [go_sem, Φa, hP, h6_31, h6_0, h6_4, h6_5, h6_6, condVC]
            refine ⟨fun hc31 => hX19 ?_, fun hc31 => hY19 ?_⟩
            · clear hX19 hY19 X19 Y19
              refine SX.seq_k fun K20 hK20 => ?_
              refine SX.region_d [some 2, some 3] rfl (fun ops hops => ?_)
              unfold Dsts at hops
              simp (maxSteps:=1000000)(dsimp:=false)(disch:=omega) only [go_sem, Φa, hP, h6_31, h6_0, h6_4, h6_5, h6_6, hops]
              refine hK20 _ _ ?_
              try clear hK20 K20
              refine SX.ret ?_
              simp only [andThen_normal, andThen_ret, andThen_exit, inBlk_normal, inBlk_ret, inBlk_exit, Nat.reduceEqDiff, if_true, if_false, ↓reduceIte, retQ_ret]
              try simp only [res0, res1, res2, res3, stK_e, go_sem, Φa, hP, h6_31, h6_0, h6_4, h6_5, h6_6]
              refine ⟨_, _, Less.drop _ _, rfl, .inr ⟨okRow_not (c := nums8 l) (i := i) (by omega) ?_, rfl, rfl⟩⟩
              rw [hb2]
              first | exact hc31 | exact of_decide_eq_true hc31
            · clear hX19 hY19 X19 Y19
              refine SX.skip ?_
              try simp only [andThen_normal, andThen_ret, andThen_exit, inBlk_normal, inBlk_ret, inBlk_exit, Nat.reduceEqDiff, if_true, if_false, ↓reduceIte]
              refine hK16 _ _ ?_
              try clear hK16 K16
              refine SX.seq_k fun K21 hK21 => ?_
              have hch : (b.toNat : Int) = 35 ∨ (b.toNat : Int) = 46 := by first | omega | (simp at hc31; omega)
              have hin' : ∀ j, j < i + 1 → (nums8 l).getD j 0 = 35 ∨ (nums8 l).getD j 0 = 46 := fun j hj => by
                rcases Nat.lt_succ_iff_lt_or_eq.1 hj with h | rfl
                · exact hin j h
                · rw [hb2]; exact hch
              refine SX.region_d [some 32, some 33, some 5] rfl (fun ops hops => ?_)
              unfold Dsts at hops
              simp (maxSteps:=1000000)(dsimp:=false)(disch:=omega) only [go_sem, Φa, hP, h6_31, h6_0, h6_4, h6_5, h6_6, hops]
              repeat' ((first | refine And.intro (by omega) ?_ | fail); try (with_reducible refine stI ?_); try simp (maxSteps:=1000000)(dsimp:=false)(disch:=omega) only [go_sem, Φa, hP, h6_31, h6_0, h6_4, h6_5, h6_6, hops])
              refine hK21 _ _ ?_
              try clear hK21 K21
              refine SX.live [0, 4, 5, 6] (fun T7 hT7 => ?_)
              simp only [forall_mem_cons', forall_mem_nil', go_sem, Φa, hP, h6_31, h6_0, h6_4, h6_5, h6_6] at hT7
              obtain ⟨h7_0, h7_4, h7_5, h7_6⟩ := hT7
              clear h6_31 h6_0 h6_4 h6_5 h6_6 T6
              refine SX.join (fun (ss : (Int)) T L' => (fun (q : Int) => T 5 = .int .i64 q ∧ T 0 = T7 0 ∧ T 4 = T7 4 ∧ T 6 = T7 6 ∧ L' = so :: L ∧ (q = 2 * (bAt (nums8 l) i).1 + (if (nums8 l).getD i 0 = 35 then 1 else 0) ∧ 0 ≤ q ∧ q ≤ 255)) (ss)) (fun K22 hK22 => ?_) ?_
              · simp only [h7_0, h7_4, h7_6] at hK22
                refine SX.seq_k fun K23 hK23 => ?_
                refine SX.region_d [some 34, some 35, some 36, some 37] rfl (fun ops hops => ?_)
                unfold Dsts at hops
                simp (maxSteps:=1000000)(dsimp:=false)(disch:=omega) only [go_sem, Φa, hP, h7_0, h7_4, h7_5, h7_6, hops, hb1]
                refine ⟨_, rfl, ?_⟩
                try with_reducible refine stI ?_
                try simp (maxSteps:=1000000)(dsimp:=false)(disch:=omega) only [go_sem, Φa, hP, h7_0, h7_4, h7_5, h7_6, hops, hb1]
                refine hK23 _ _ ?_
                try clear hK23 K23
                refine SX.cond_k fun X24 Y24 hX24 hY24 => ?_
                simp (maxSteps:=1000000)(dsimp:=false)(disch:=omega) only [go_sem, Φa, hP, h7_0, h7_4, h7_5, h7_6, condVC]
                refine ⟨fun hc37 => hX24 ?_, fun hc37 => hY24 ?_⟩
                · clear hX24 hY24 X24 Y24
                  refine SX.region_d [some 38, some 39, some 5] rfl (fun ops hops => ?_)
                  unfold Dsts at hops
                  simp (maxSteps:=1000000)(dsimp:=false)(disch:=omega) only [go_sem, Φa, hP, h7_0, h7_4, h7_5, h7_6, hops]
                  repeat' ((first | refine And.intro (by omega) ?_ | fail); try (with_reducible refine stI ?_); try simp (maxSteps:=1000000)(dsimp:=false)(disch:=omega) only [go_sem, Φa, hP, h7_0, h7_4, h7_5, h7_6, hops])
                  refine hK22 (2 * (bAt (nums8 l) i).1 + 1) _ (so :: L) _ (by exact Less.refl _) ?_
                  try dsimp only
                  refine ⟨?_, ?_, ?_, ?_, ?_, ?_⟩
                  · simp (maxSteps:=1000000)(dsimp:=false)(disch:=omega) only [go_sem, Φa, hP, h7_0, h7_4, h7_5, h7_6]
                    first | done | rfl | skip
                  · simp (maxSteps:=1000000)(dsimp:=false)(disch:=omega) only [go_sem, Φa, hP, h7_0, h7_4, h7_5, h7_6]
                  · simp (maxSteps:=1000000)(dsimp:=false)(disch:=omega) only [go_sem, Φa, hP, h7_0, h7_4, h7_5, h7_6]
                  · simp (maxSteps:=1000000)(dsimp:=false)(disch:=omega) only [go_sem, Φa, hP, h7_0, h7_4, h7_5, h7_6]
                  · rfl
                  · refine ⟨?_, by omega, by omega⟩
                    rw [hb2, if_pos (by first | exact hc37 | simpa using hc37)]
                · clear hX24 hY24 X24 Y24
                  refine SX.skip ?_
                  try simp only [andThen_normal, andThen_ret, andThen_exit, inBlk_normal, inBlk_ret, inBlk_exit, Nat.reduceEqDiff, if_true, if_false, ↓reduceIte]
                  refine hK22 (2 * (bAt (nums8 l) i).1) _ (so :: L) _ (by exact Less.refl _) ?_
                  try dsimp only
                  refine ⟨?_, ?_, ?_, ?_, ?_, ?_⟩
                  · simp (maxSteps:=1000000)(dsimp:=false)(disch:=omega) only [go_sem, Φa, hP, h7_0, h7_4, h7_5, h7_6]
                    first | done | rfl | skip
                  · simp (maxSteps:=1000000)(dsimp:=false)(disch:=omega) only [go_sem, Φa, hP, h7_0, h7_4, h7_5, h7_6]
                  · simp (maxSteps:=1000000)(dsimp:=false)(disch:=omega) only [go_sem, Φa, hP, h7_0, h7_4, h7_5, h7_6]
                  · simp (maxSteps:=1000000)(dsimp:=false)(disch:=omega) only [go_sem, Φa, hP, h7_0, h7_4, h7_5, h7_6]
                  · rfl
                  · refine ⟨?_, by omega, by omega⟩
                    rw [hb2, if_neg (by first | exact hc37 | simpa using hc37)]
                    omega
              · intro q T8 L8 hI
                try dsimp only at hI 
                simp only [h7_0, h7_4, h7_6] at hI 
                obtain ⟨h8_5, h8_0, h8_4, h8_6, hL8, ⟨hq, hq0, hq1⟩⟩ := hI
                replace hL8 := hL8.symm
                subst hL8
                clear h7_0 h7_4 h7_5 h7_6 T7
                refine SX.seq_k fun K25 hK25 => ?_
                have htm : (i : Int).tmod 8 = ((i % 8 : Nat) : Int) := tmod_nat i 8
                refine SX.region_d [some 40, some 41, some 42] rfl (fun ops hops => ?_)
                unfold Dsts at hops
                simp (maxSteps:=1000000)(dsimp:=false)(disch:=omega) only [go_sem, Φa, hP, h8_5, h8_0, h8_4, h8_6, hops, htm]
                repeat' ((first | refine And.intro (by omega) ?_ | fail); try (with_reducible refine stI ?_); try simp (maxSteps:=1000000)(dsimp:=false)(disch:=omega) only [go_sem, Φa, hP, h8_5, h8_0, h8_4, h8_6, hops, htm])
                refine hK25 _ _ ?_
                try clear hK25 K25
                refine SX.cond_k fun X26 Y26 hX26 hY26 => ?_
                simp (maxSteps:=1000000)(dsimp:=false)(disch:=omega) only [go_sem, Φa, hP, h8_5, h8_0, h8_4, h8_6, condVC]
                refine ⟨fun hc42 => hX26 ?_, fun hc42 => hY26 ?_⟩
                · clear hX26 hY26 X26 Y26
                  refine SX.seq_k fun K27 hK27 => ?_
                  have h7 : i % 8 = 7 := by omega
                  refine SX.region_d [some 43, some 44, some 45, some 46, some 47, some 4] rfl (fun ops hops => ?_)
                  unfold Dsts at hops
                  simp (maxSteps:=1000000)(dsimp:=false)(disch:=omega) only [go_sem, Φa, hP, h8_5, h8_0, h8_4, h8_6, hops]
                  intro g14
                  try with_reducible refine stI ?_
                  try simp (maxSteps:=1000000)(dsimp:=false)(disch:=omega) only [go_sem, Φa, hP, h8_5, h8_0, h8_4, h8_6, hops]
                  refine YAppend.int1 (i := 0) (hP ▸ T.elS_50) (hP ▸ T.zr_5) rfl rfl hrow (by omega) (by decide) ?_
                  intro v' s' hr'
                  try with_reducible refine stI ?_
                  try simp (maxSteps:=1000000)(dsimp:=false)(disch:=omega) only [go_sem, Φa, hP, h8_5, h8_0, h8_4, h8_6, hops]
                  refine hK27 _ _ ?_
                  try clear hK27 K27
                  refine SX.live [0, 4, 6] (fun T9 hT9 => ?_)
                  simp only [forall_mem_cons', forall_mem_nil', go_sem, Φa, hP, h8_5, h8_0, h8_4, h8_6] at hT9
                  obtain ⟨h9_0, h9_4, h9_6⟩ := hT9
                  clear h8_5 h8_0 h8_4 h8_6 T8
                  refine SX.region_d [some 5] rfl (fun ops hops => ?_)
                  unfold Dsts at hops
                  simp (maxSteps:=1000000)(dsimp:=false)(disch:=omega) only [go_sem, Φa, hP, h9_0, h9_4, h9_6, hops]
                  refine hK15 _ _ ?_
                  try clear hK15 K15
                  refine SX.region_d [some 20, some 21, some 6] rfl (fun ops hops => ?_)
                  unfold Dsts at hops
                  simp (maxSteps:=1000000)(dsimp:=false)(disch:=omega) only [go_sem, Φa, hP, h9_0, h9_4, h9_6, hops]
                  repeat' ((first | refine And.intro (by omega) ?_ | fail); try (with_reducible refine stI ?_); try simp (maxSteps:=1000000)(dsimp:=false)(disch:=omega) only [go_sem, Φa, hP, h9_0, h9_4, h9_6, hops])
                  refine hK11 (i + 1, v', s') _ (s' :: L) _ (by exact Less.drop _ _) ?_ ?_
                  · try dsimp only
                    refine ⟨?_, ?_, ?_, ?_, ?_, ?_⟩
                    · simp (maxSteps:=1000000)(dsimp:=false)(disch:=omega) only [go_sem, Φa, hP, h9_0, h9_4, h9_6]
                      first | done | rfl | skip
                    · simp (maxSteps:=1000000)(dsimp:=false)(disch:=omega) only [go_sem, Φa, hP, h9_0, h9_4, h9_6]
                      rw [bAt, if_pos h7]; try rfl
                    · simp (maxSteps:=1000000)(dsimp:=false)(disch:=omega) only [go_sem, Φa, hP, h9_0, h9_4, h9_6]
                      first | done | rfl | skip
                    · simp (maxSteps:=1000000)(dsimp:=false)(disch:=omega) only [go_sem, Φa, hP, h9_0, h9_4, h9_6]
                    · rfl
                    · refine ⟨by omega, ?_, hin'⟩
                      rw [bAt, if_pos h7, ← hq]
                      exact hr'
                  · (try dsimp only); omega
                · clear hX26 hY26 X26 Y26
                  refine SX.skip ?_
                  try simp only [andThen_normal, andThen_ret, andThen_exit, inBlk_normal, inBlk_ret, inBlk_exit, Nat.reduceEqDiff, if_true, if_false, ↓reduceIte]
                  refine hK15 _ _ ?_
                  try clear hK15 K15
                  refine SX.region_d [some 20, some 21, some 6] rfl (fun ops hops => ?_)
                  unfold Dsts at hops
                  simp (maxSteps:=1000000)(dsimp:=false)(disch:=omega) only [go_sem, Φa, hP, h8_5, h8_0, h8_4, h8_6, hops]
                  repeat' ((first | refine And.intro (by omega) ?_ | fail); try (with_reducible refine stI ?_); try simp (maxSteps:=1000000)(dsimp:=false)(disch:=omega) only [go_sem, Φa, hP, h8_5, h8_0, h8_4, h8_6, hops])
                  refine hK11 (i + 1, vo, so) _ (so :: L) _ (by exact Less.refl _) ?_ ?_
                  · try dsimp only
                    refine ⟨?_, ?_, ?_, ?_, ?_, ?_⟩
                    · simp (maxSteps:=1000000)(dsimp:=false)(disch:=omega) only [go_sem, Φa, hP, h8_5, h8_0, h8_4, h8_6]
                      first | done | rfl | skip
                    · simp (maxSteps:=1000000)(dsimp:=false)(disch:=omega) only [go_sem, Φa, hP, h8_5, h8_0, h8_4, h8_6]
                      rw [bAt, if_neg (by omega), ← hq]; try assumption
                    · simp (maxSteps:=1000000)(dsimp:=false)(disch:=omega) only [go_sem, Φa, hP, h8_5, h8_0, h8_4, h8_6]
                      first | done | rfl | skip
                    · simp (maxSteps:=1000000)(dsimp:=false)(disch:=omega) only [go_sem, Φa, hP, h8_5, h8_0, h8_4, h8_6]
                    · rfl
                    · refine ⟨by omega, ?_, hin'⟩
                      rw [bAt, if_neg (by omega)]
                      exact hrow
                  · (try dsimp only); omega
        · clear hX14 hY14 X14 Y14
          refine SX.exit ?_
          try simp only [andThen_normal, andThen_ret, andThen_exit, inBlk_normal, inBlk_ret, inBlk_exit, Nat.reduceEqDiff, if_true, if_false, ↓reduceIte]
          refine hK9 _ _ ?_
          try clear hK9 K9
          refine SX.seq_k fun K28 hK28 => ?_
          refine SX.region_d [some 48, some 2, some 3] rfl (fun ops hops => ?_)
          unfold Dsts at hops
          simp (maxSteps:=1000000)(dsimp:=false)(disch:=omega) only [go_sem, Φa, hP, h4_4, h4_5, h4_6, h4_0, hops]
          refine hK28 _ _ ?_
          try clear hK28 K28
          refine SX.ret ?_
          simp only [andThen_normal, andThen_ret, andThen_exit, inBlk_normal, inBlk_ret, inBlk_exit, Nat.reduceEqDiff, if_true, if_false, ↓reduceIte, retQ_ret]
          try simp only [res0, res1, res2, res3, stK_e, go_sem, Φa, hP, h4_4, h4_5, h4_6, h4_0]
          obtain rfl : i = l.size := by omega
          refine ⟨_, _, Less.refl _, rfl, .inl ⟨okRow_yes (c := nums8 l) (by rw [hcl]; exact hszz.1) (by rw [hcl]; exact hszz.2) (by rw [hcl]; exact hin), vo, so, rfl, rfl, ?_⟩⟩
          unfold rowT
          rw [hcl]
          exact hrow

end Go.Proofs.YtpakphgeichopaaDoor
set_option linter.unusedVariables false
set_option linter.unusedSimpArgs false
namespace Go.Proofs.YtpakphgeichopaaDoor
open Go.RowKit Go.SX Go.Proofs
open Go.SX renaming ia_someH → Φa

theorem lessG1 {b s l : Slot} {L : Hp} {f : Slot} : Less (f :: l :: b :: L) (b :: f :: Option.none :: l :: L) := by
  refine (Less.none _).trans (Less.perm ?_)
  refine List.Perm.trans (List.Perm.trans (.swap f Option.none _) (.cons f ((List.Perm.cons Option.none (.swap b l L)).trans (.swap b Option.none _)))) (.swap b f _)
theorem lessG2 {a r b f s : Slot} {R : Hp} : Less (a :: r :: b :: f :: s :: R) (b :: f :: s :: r :: R) := by
  refine (Less.drop _ _).trans (Less.perm ?_)
  exact (List.perm_append_comm (l₁ := [r]) (l₂ := [b, f, s])).append_right R
theorem lessG4 {b f s l : Slot} {M L : Hp} : Less (b :: f :: s :: (M ++ (l :: L))) (s :: (M ++ L)) := Less.sublist (.cons _ (.cons _ (.cons_cons _ (List.Sublist.append (List.Sublist.refl _) (.cons _ (List.Sublist.refl _))))))
theorem lessG5 {b f s l : Slot} {M L : Hp} : Less (b :: f :: s :: (M ++ (l :: L))) (Option.none :: L) := (Less.sublist (.cons _ (.cons _ (.cons _ (List.Sublist.trans (.cons _ (List.Sublist.refl _)) (List.sublist_append_right M _)))))).trans (Less.none _)
theorem lessG6 {b l : Slot} {L : Hp} : Less (l :: b :: L) (Option.none :: L) := ((Less.drop _ _).trans (Less.drop _ _)).trans (Less.none _)
theorem refBad {s : ByteArray} (h : refReadP s = (zF, 100)) : readP s = (zF, 100) := by rw [← refReadP_eq]; exact h
theorem refBad_line {s : ByteArray} {i : Nat} (hi : i < (linesR s).length) (h : okLine ((linesR s).getD i default) = false) : refReadP s = (zF, 100) := by
  unfold refReadP
  split
  · rfl
  · rw [if_neg]
    intro hk
    have := List.all_eq_true.1 hk.2.2 _ (getD_mem hi)
    rw [h] at this
    cases this
theorem refRows_take {s : ByteArray} {i : Nat} (hi : i < (linesR s).length) : (refRows s).take (i + 1) = (refRows s).take i ++ [rowT ((linesR s).getD i default)] := by
  unfold refRows
  rw [List.take_add_one, List.getElem?_map, getD_get (d := default) hi]
  rfl
set_option maxHeartbeats 1000000 in
set_option maxRecDepth 100000 in
theorem refRead_spec {Γ : Ctx} (hP : Γ.P = Tryd.prog) {L : Hp} {s : ByteArray} :
    SCall Γ 25 #[(.string s)] L (ReadR s L) := by
  refine SCall.enter (n := 57) (resX Γ [.cell 2 41, .tmp 3]) (hP ▸ Tryd.func25) rfl rfl (by simp) (resX_ok rfl) ?_
  refine SX.seq_k fun K1 hK1 => ?_
  refine SX.region_d [some 2, some 3] rfl (fun ops hops => ?_)
  unfold Dsts at hops
  simp (maxSteps:=1000000)(dsimp:=false)(disch:=omega) only [go_sem, Φa, hP, hops]
  intro b0
  try with_reducible refine stI ?_
  try simp (maxSteps:=1000000)(dsimp:=false)(disch:=omega) only [go_sem, Φa, hP, hops]
  refine hK1 _ _ ?_
  try clear hK1 K1
  refine SX.seq_k fun K2 hK2 => ?_
  refine SX.seq_k fun K3 hK3 => ?_
  refine SX.region_d [some 11, some 12, some 13] rfl (fun ops hops => ?_)
  unfold Dsts at hops
  simp (maxSteps:=1000000)(dsimp:=false)(disch:=omega) only [go_sem, Φa, hP, hops]
  repeat' ((first | refine And.intro (by omega) ?_ | fail); try (with_reducible refine stI ?_); try simp (maxSteps:=1000000)(dsimp:=false)(disch:=omega) only [go_sem, Φa, hP, hops])
  refine hK3 _ _ ?_
  try clear hK3 K3
  refine SX.cond_k fun X4 Y4 hX4 hY4 => ?_
  simp (maxSteps:=1000000)(dsimp:=false)(disch:=omega) only [go_sem, Φa, hP, condVC]
  refine ⟨fun hc13 => hX4 ?_, fun hc13 => hY4 ?_⟩
  · clear hX4 hY4 X4 Y4
    refine SX.seq_k fun K5 hK5 => ?_
    refine SX.region_d [some 14, none, some 3] rfl (fun ops hops => ?_)
    unfold Dsts at hops
    simp (maxSteps:=1000000)(dsimp:=false)(disch:=omega) only [go_sem, Φa, hP, hops]
    refine ⟨0, _, _, _, rfl, by decide, .inr (by decide), ?_⟩
    try with_reducible refine stI ?_
    try simp (maxSteps:=1000000)(dsimp:=false)(disch:=omega) only [go_sem, Φa, hP, hops]
    refine hK5 _ _ ?_
    try clear hK5 K5
    refine SX.ret ?_
    simp only [andThen_normal, andThen_ret, andThen_exit, inBlk_normal, inBlk_ret, inBlk_exit, Nat.reduceEqDiff, if_true, if_false, ↓reduceIte, retQ_ret]
    try simp only [res0,res1,res2,res3,stK_e,resX,resK,oneOr,ld_ptr,loadVC,loadN,List.nil_append,List.cons_append,Nat.reduceAdd,Nat.add_zero,Nat.zero_add,Addr.add_lit,Addr.add_zero',add_addS,T.elA_41,T.lay_41,T.szA_41,T.zr_41,Tryd.underlying41,go_sem,Φa,hP]
    refine ⟨_, _, (Less.drop _ _).trans (Less.none _), ⟨_, Cell.at 0 rfl rfl, _, Cell.at 0 rfl rfl, _, Cell.at 0 rfl rfl, rfl⟩, ReadR.bad (refBad ?_)⟩
    unfold refReadP
    rw [if_pos (by omega)]
  · clear hX4 hY4 X4 Y4
    refine SX.skip ?_
    try simp only [andThen_normal, andThen_ret, andThen_exit, inBlk_normal, inBlk_ret, inBlk_exit, Nat.reduceEqDiff, if_true, if_false, ↓reduceIte]
    refine hK2 _ _ ?_
    try clear hK2 K2
    refine SX.seq_k fun K6 hK6 => ?_
    have hs : s.size ≤ 65536 := by omega
    refine SX.region_d [some 16, some 17, some 15, some 18, some 19, some 4, some 5] rfl (fun ops hops => ?_)
    unfold Dsts at hops
    simp (maxSteps:=1000000)(dsimp:=false)(disch:=omega) only [go_sem, Φa, hP, hops]
    refine SCall.mono (Lines_spec hP hs) ?_
    rintro v_ L_ ⟨vl, sl, rfl, rfl, hln⟩
    obtain ⟨LA, lc, la, rfl, hlc, hle, hlat⟩ := RowB.anyB hln
    try with_reducible refine stI ?_
    try simp (maxSteps:=1000000)(dsimp:=false)(disch:=omega) only [go_sem, Φa, hP, hops]
    refine hK6 _ _ ?_
    try clear hK6 K6
    refine SX.live [2, 4, 5] (fun T1 hT1 => ?_)
    simp only [forall_mem_cons', forall_mem_nil', go_sem, Φa, hP] at hT1
    obtain ⟨h1_2, h1_4, h1_5⟩ := hT1
    refine SX.seq_k fun K7 hK7 => ?_
    refine SX.seq_k fun K8 hK8 => ?_
    refine SX.region_xd [some 20, some 21, some 22, some 23, some 24, some 25, some 26] rfl (fun ops hops => ?_)
    unfold Dsts at hops
    refine RX.live [2, 4, 5] (fun T2 hT2 => ?_)
    simp only [forall_mem_cons', forall_mem_nil', go_sem, Φa, hP, h1_2, h1_4, h1_5] at hT2
    obtain ⟨h2_2, h2_4, h2_5⟩ := hT2
    clear h1_2 h1_4 h1_5 T1
    refine RX.join 7 (fun (ss : Unit) T L' => T 26 = .bool (!(decide ((linesR s).length = 128) && decide (restR s = ⟨#[]⟩))) ∧ T 2 = T2 2 ∧ T 4 = T2 4 ∧ L' = sl :: some (b0, .cells [.int .i64 0, .slice none 0 0, .bool false].toArray 41 (0, 0)) :: L ∧ (True)) (fun K9 hK9 => ?_) ?_
    · simp only [h2_2, h2_4] at hK9
      simp (maxSteps:=1000000)(dsimp:=false)(disch:=omega) only [go_sem, Φa, hP, h2_2, h2_4, h2_5, hops]
      repeat' (first | refine iteB (fun hg => ?_) (fun hg => ?_) | refine iteI (fun hg => ?_) (fun hg => ?_) | ((first | refine And.intro (by omega) ?_ | refine ⟨_, Cell.at 0 rfl rfl, ?_⟩ | refine ⟨_, Cell.at 1 rfl rfl, ?_⟩ | fail); try (with_reducible refine stI ?_); try simp (maxSteps:=1000000)(dsimp:=false)(disch:=omega) only [go_sem, Φa, hP, h2_2, h2_4, h2_5, hops]) | fail)
      all_goals
        refine hK9 () _ (sl :: some (b0, .cells [.int .i64 0, .slice none 0 0, .bool false].toArray 41 (0, 0)) :: L) _ (by first | exact Less.refl _ | exact Less.drop _ _ | exact Less.drops (Less.drop _ _) | exact Less.drops (Less.drops (Less.drop _ _)) | exact Less.drops (Less.drops (Less.drops (Less.drop _ _))) | exact Less.drops (Less.drops (Less.drops (Less.drops (Less.drop _ _))))) ?_
        try dsimp only
        refine ⟨?_, ?_, ?_, ?_, ?_⟩
        · simp (maxSteps:=1000000)(dsimp:=false)(disch:=omega) only [go_sem, Φa, hP, h2_2, h2_4, h2_5]
          first | done | rfl | (refine congrArg Value.bool ?_; rw [Bool.eq_iff_iff]; simp; first | done | omega) | (refine congrArg Value.bool ?_; simp; done) | (refine congrArg Value.bool ?_; rw [Bool.eq_iff_iff]; simp only [Bool.not_eq_true', Bool.and_eq_false_iff, decide_eq_true_eq, decide_eq_false_iff_not]; omega)
        · simp (maxSteps:=1000000)(dsimp:=false)(disch:=omega) only [go_sem, Φa, hP, h2_2, h2_4, h2_5]
        · simp (maxSteps:=1000000)(dsimp:=false)(disch:=omega) only [go_sem, Φa, hP, h2_2, h2_4, h2_5]
        · rfl
        · trivial
    · intro ss T3 L3 hI
      simp only [h2_2, h2_4] at hI 
      obtain ⟨h3_26, h3_2, h3_4, hL3, hinv⟩ := hI
      replace hL3 := hL3.symm
      subst hL3
      clear h2_2 h2_4 h2_5 T2
      refine RX.done ?_
      simp (maxSteps:=1000000)(dsimp:=false)(disch:=omega) only [go_sem, Φa, hP, h3_26, h3_2, h3_4, hops]
      refine hK8 _ _ ?_
      try clear hK8 K8
      refine SX.cond_k fun X10 Y10 hX10 hY10 => ?_
      simp (maxSteps:=1000000)(dsimp:=false)(disch:=omega) only [go_sem, Φa, hP, h3_26, h3_2, h3_4, condVC]
      refine ⟨fun hc26 => hX10 ?_, fun hc26 => hY10 ?_⟩
      · clear hX10 hY10 X10 Y10
        refine SX.seq_k fun K11 hK11 => ?_
        refine SX.region_d [some 27, none, some 3] rfl (fun ops hops => ?_)
        unfold Dsts at hops
        simp (maxSteps:=1000000)(dsimp:=false)(disch:=omega) only [go_sem, Φa, hP, h3_26, h3_2, h3_4, hops]
        refine ⟨1, _, _, _, rfl, by decide, .inr (by decide), ?_⟩
        try with_reducible refine stI ?_
        try simp (maxSteps:=1000000)(dsimp:=false)(disch:=omega) only [go_sem, Φa, hP, h3_26, h3_2, h3_4, hops]
        refine hK11 _ _ ?_
        try clear hK11 K11
        refine SX.ret ?_
        simp only [andThen_normal, andThen_ret, andThen_exit, inBlk_normal, inBlk_ret, inBlk_exit, Nat.reduceEqDiff, if_true, if_false, ↓reduceIte, retQ_ret]
        try simp only [res0,res1,res2,res3,stK_e,resX,resK,oneOr,ld_ptr,loadVC,loadN,List.nil_append,List.cons_append,Nat.reduceAdd,Nat.add_zero,Nat.zero_add,Addr.add_lit,Addr.add_zero',add_addS,T.elA_41,T.lay_41,T.szA_41,T.zr_41,Tryd.underlying41,go_sem,Φa,hP,h3_26,h3_2,h3_4]
        refine ⟨_, _, lessG6, ⟨_, Cell.at 1 rfl rfl, _, Cell.at 1 rfl rfl, _, Cell.at 1 rfl rfl, rfl⟩, ReadR.bad (refBad ?_)⟩
        unfold refReadP
        rw [if_neg (by omega), if_neg]
        rintro ⟨h1, h2, _⟩
        rw [h1, h2] at hc26
        simp at hc26
      · clear hX10 hY10 X10 Y10
        refine SX.skip ?_
        try simp only [andThen_normal, andThen_ret, andThen_exit, inBlk_normal, inBlk_ret, inBlk_exit, Nat.reduceEqDiff, if_true, if_false, ↓reduceIte]
        refine hK7 _ _ ?_
        try clear hK7 K7
        refine SX.seq_k fun K12 hK12 => ?_
        have h12 : (linesR s).length = 128 ∧ restR s = ⟨#[]⟩ := by simpa using hc26
        have h128 := h12.1
        refine SX.region_d [some 28, some 6, none] rfl (fun ops hops => ?_)
        unfold Dsts at hops
        simp (maxSteps:=1000000)(dsimp:=false)(disch:=omega) only [go_sem, Φa, hP, h3_26, h3_2, h3_4, hops]
        intro b6
        try with_reducible refine stI ?_
        try simp (maxSteps:=1000000)(dsimp:=false)(disch:=omega) only [go_sem, Φa, hP, h3_26, h3_2, h3_4, hops]
        refine ⟨0, _, _, _, rfl, by decide, .inr (by decide), ?_⟩
        try with_reducible refine stI ?_
        try simp (maxSteps:=1000000)(dsimp:=false)(disch:=omega) only [go_sem, Φa, hP, h3_26, h3_2, h3_4, hops]
        refine hK12 _ _ ?_
        try clear hK12 K12
        refine SX.seq_k fun K13 hK13 => ?_
        refine SX.seq_k fun K14 hK14 => ?_
        refine SX.less (lessG1 (s := none)) ?_
        refine SX.region_d [some 7] rfl (fun ops hops => ?_)
        unfold Dsts at hops
        simp (maxSteps:=1000000)(dsimp:=false)(disch:=omega) only [go_sem, Φa, hP, h3_26, h3_2, h3_4, hops]
        refine hK14 _ _ ?_
        try clear hK14 K14
        refine SX.block ?_
        refine SX.live [2, 4, 6, 7] (fun T4 hT4 => ?_)
        simp only [forall_mem_cons', forall_mem_nil', go_sem, Φa, hP, h3_26, h3_2, h3_4] at hT4
        obtain ⟨h4_2, h4_4, h4_6, h4_7⟩ := hT4
        clear h3_26 h3_2 h3_4 T3
        refine SX.loop_k (fun (ss : (Nat) × (Value) × (Slot) × (List Rw)) T L' => (fun (i : Nat) (vo : Value) (so : Slot) (rs : List Rw) => T 7 = .int .i64 (i : Int) ∧ T 2 = T4 2 ∧ T 4 = T4 4 ∧ T 6 = T4 6 ∧ L' = some (b0, .cells [.int .i64 0, .slice none 0 0, .bool false].toArray 41 (0, 0)) :: some (b6, .cells [.int .i64 0, vo, .bool false].toArray 41 (0, 0)) :: so :: (rsl rs ++ (sl :: L)) ∧ (i ≤ 128 ∧ RowR vo rs so ∧ RwsOk rs ∧ rs.map (·.l) = (refRows s).take i ∧ ∀ j, j < i → okLine ((linesR s).getD j default) = true)) (ss.1) (ss.2.1) (ss.2.2.1) (ss.2.2.2)) (fun (ss : (Nat) × (Value) × (Slot) × (List Rw)) => (fun (i : Nat) (vo : Value) (so : Slot) (rs : List Rw) => 128 - i) (ss.1) (ss.2.1) (ss.2.2.1) (ss.2.2.2)) (0, .slice none 0 0, none, []) ?_ ?_
        · try dsimp only
          refine ⟨?_, ?_, ?_, ?_, ?_, ?_⟩
          · first | exact h4_7 | (rw [h4_7]; rfl) | (rw [h4_7]; simp; done)
          · rfl
          · rfl
          · rfl
          · rfl
          · exact ⟨Nat.zero_le _, RowL.nil _ _ _, RwsOk.nil, rfl, fun j hj => absurd hj (Nat.not_lt_zero _)⟩
        · intro ss T5 L5 hI K15 hK15
          obtain ⟨i, vo, so, rs⟩ := ss
          try dsimp only at hI hK15
          simp only [h4_2, h4_4, h4_6] at hI hK15
          obtain ⟨h5_7, h5_2, h5_4, h5_6, hL5, ⟨hi, hrow, hok, hrs, hin⟩⟩ := hI
          replace hL5 := hL5.symm
          subst hL5
          clear h4_2 h4_4 h4_6 h4_7 T4
          refine SX.seq_k fun K16 hK16 => ?_
          refine SX.seq_k fun K17 hK17 => ?_
          refine SX.region_d [some 29, some 30] rfl (fun ops hops => ?_)
          unfold Dsts at hops
          simp (maxSteps:=1000000)(dsimp:=false)(disch:=omega) only [go_sem, Φa, hP, h5_7, h5_2, h5_4, h5_6, hops]
          repeat' ((first | refine And.intro (by omega) ?_ | fail); try (with_reducible refine stI ?_); try simp (maxSteps:=1000000)(dsimp:=false)(disch:=omega) only [go_sem, Φa, hP, h5_7, h5_2, h5_4, h5_6, hops])
          refine hK17 _ _ ?_
          try clear hK17 K17
          refine SX.cond_k fun X18 Y18 hX18 hY18 => ?_
          simp (maxSteps:=1000000)(dsimp:=false)(disch:=omega) only [go_sem, Φa, hP, h5_7, h5_2, h5_4, h5_6, condVC]
          refine ⟨fun hc30 => hX18 ?_, fun hc30 => hY18 ?_⟩
          · clear hX18 hY18 X18 Y18
            refine SX.skip ?_
            try simp only [andThen_normal, andThen_ret, andThen_exit, inBlk_normal, inBlk_ret, inBlk_exit, Nat.reduceEqDiff, if_true, if_false, ↓reduceIte]
            refine hK16 _ _ ?_
            try clear hK16 K16
            refine SX.seq_k fun K19 hK19 => ?_
            refine SX.block ?_
            refine SX.seq_k fun K20 hK20 => ?_
            have hil : i < (linesR s).length := by omega
            have hmem : sl ∈ some (b0, .cells [.int .i64 0, .slice none 0 0, .bool false].toArray 41 (0, 0)) :: some (b6, .cells [.int .i64 0, vo, .bool false].toArray 41 (0, 0)) :: so :: (rsl rs ++ (sl :: L)) := List.mem_cons_of_mem _ (List.mem_cons_of_mem _ (List.mem_cons_of_mem _ (List.mem_append_right _ (List.mem_cons_self ..))))
            obtain ⟨q, hq⟩ := List.mem_iff_getElem?.1 hmem
            have hrl : rs.length = i := by
              have := congrArg List.length hrs
              rw [List.length_map, List.length_take] at this
              unfold refRows at this
              rw [List.length_map] at this
              omega
            refine SX.region_d [some 34, some 35, some 36, some 37, some 38, some 33, some 39, some 40, some 8, some 9] rfl (fun ops hops => ?_)
            unfold Dsts at hops
            simp (maxSteps:=1000000)(dsimp:=false)(disch:=omega) only [go_sem, Φa, hP, h5_7, h5_2, h5_4, h5_6, hops, ia_at hle]
            refine ⟨_, hlat _ _ q hq i hil, ?_⟩
            try with_reducible refine stI ?_
            try simp (maxSteps:=1000000)(dsimp:=false)(disch:=omega) only [go_sem, Φa, hP, h5_7, h5_2, h5_4, h5_6, hops, ia_at hle]
            refine SCall.mono (refRow_spec hP) ?_
            rintro v_ L_ (⟨hokl, vr, sr, rfl, rfl, hrr⟩ | ⟨hokl, rfl, rfl⟩)
            · skip
              try with_reducible refine stI ?_
              obtain ⟨VA, vc, rfl, _, _⟩ := Row.form hrr
              rw [SX.ints_length] at *
              try with_reducible refine stI ?_
              try simp (maxSteps:=1000000)(dsimp:=false)(disch:=omega) only [go_sem, Φa, hP, h5_7, h5_2, h5_4, h5_6, hops, ia_at hle]
              refine hK20 _ _ ?_
              try clear hK20 K20
              refine SX.live [2, 4, 6, 7, 8, 9] (fun T6 hT6 => ?_)
              simp only [forall_mem_cons', forall_mem_nil', go_sem, Φa, hP, h5_7, h5_2, h5_4, h5_6] at hT6
              obtain ⟨h6_2, h6_4, h6_6, h6_7, h6_8, h6_9⟩ := hT6
              clear h5_7 h5_2 h5_4 h5_6 T5
              refine SX.seq_k fun K21 hK21 => ?_
              refine SX.seq_k fun K22 hK22 => ?_
              refine SX.region_d [some 41, some 42] rfl (fun ops hops => ?_)
              unfold Dsts at hops
              simp (maxSteps:=1000000)(dsimp:=false)(disch:=omega) only [go_sem, Φa, hP, h6_2, h6_4, h6_6, h6_7, h6_8, h6_9, hops]
              refine hK22 _ _ ?_
              try clear hK22 K22
              refine SX.cond_k fun X23 Y23 hX23 hY23 => ?_
              simp (maxSteps:=1000000)(dsimp:=false)(disch:=omega) only [go_sem, Φa, hP, h6_2, h6_4, h6_6, h6_7, h6_8, h6_9, condVC]
              refine hY23 ?_
              clear hX23 hY23 X23 Y23
              refine SX.skip ?_
              try simp only [andThen_normal, andThen_ret, andThen_exit, inBlk_normal, inBlk_ret, inBlk_exit, Nat.reduceEqDiff, if_true, if_false, ↓reduceIte]
              refine hK21 _ _ ?_
              try clear hK21 K21
              refine SX.region_d [some 44, some 45, some 46, some 47, some 48, some 49, none] rfl (fun ops hops => ?_)
              unfold Dsts at hops
              simp (maxSteps:=1000000)(dsimp:=false)(disch:=omega) only [go_sem, Φa, hP, h6_2, h6_4, h6_6, h6_7, h6_8, h6_9, hops]
              refine ⟨_, Cell.at 2 rfl rfl, ?_⟩
              try with_reducible refine stI ?_
              try simp (maxSteps:=1000000)(dsimp:=false)(disch:=omega) only [go_sem, Φa, hP, h6_2, h6_4, h6_6, h6_7, h6_8, h6_9, hops]
              intro g13
              try with_reducible refine stI ?_
              try simp (maxSteps:=1000000)(dsimp:=false)(disch:=omega) only [go_sem, Φa, hP, h6_2, h6_4, h6_6, h6_7, h6_8, h6_9, hops]
              refine YAppend.rowL (z := [.slice none 0 0]) (f := rwV) (x := (⟨rowT ((linesR s).getD i default), .slice VA (rowT ((linesR s).getD i default)).length vc, sr⟩ : Rw)) (i := 3) (hP ▸ T.elS_39) (hP ▸ T.zr_50) rfl rfl rfl rfl hrow (by omega) (by decide) ?_
              intro v' s' hr'
              obtain ⟨A', c', rfl, hcc', _⟩ := Row.form hr'
              try with_reducible refine stI ?_
              try simp (maxSteps:=1000000)(dsimp:=false)(disch:=omega) only [go_sem, Φa, hP, h6_2, h6_4, h6_6, h6_7, h6_8, h6_9, hops]
              refine ⟨3, _, _, _, rfl, (by simp), .inr (by omega), ?_⟩
              try with_reducible refine stI ?_
              try simp (maxSteps:=1000000)(dsimp:=false)(disch:=omega) only [go_sem, Φa, hP, h6_2, h6_4, h6_6, h6_7, h6_8, h6_9, hops]
              refine hK19 _ _ ?_
              try clear hK19 K19
              refine SX.region_d [some 31, some 32, some 7] rfl (fun ops hops => ?_)
              unfold Dsts at hops
              simp (maxSteps:=1000000)(dsimp:=false)(disch:=omega) only [go_sem, Φa, hP, h6_2, h6_4, h6_6, h6_7, h6_8, h6_9, hops]
              repeat' ((first | refine And.intro (by omega) ?_ | fail); try (with_reducible refine stI ?_); try simp (maxSteps:=1000000)(dsimp:=false)(disch:=omega) only [go_sem, Φa, hP, h6_2, h6_4, h6_6, h6_7, h6_8, h6_9, hops])
              refine hK15 (i + 1, .slice A' (rs ++ [(⟨rowT ((linesR s).getD i default), .slice VA (rowT ((linesR s).getD i default)).length vc, sr⟩ : Rw)]).length c', s', rs ++ [(⟨rowT ((linesR s).getD i default), .slice VA (rowT ((linesR s).getD i default)).length vc, sr⟩ : Rw)]) _ (some (b0, .cells [.int .i64 0, .slice none 0 0, .bool false].toArray 41 (0, 0)) :: some (b6, .cells [.int .i64 0, (.slice A' (rs ++ [(⟨rowT ((linesR s).getD i default), .slice VA (rowT ((linesR s).getD i default)).length vc, sr⟩ : Rw)]).length c'), .bool false].toArray 41 (0, 0)) :: s' :: (rsl (rs ++ [(⟨rowT ((linesR s).getD i default), .slice VA (rowT ((linesR s).getD i default)).length vc, sr⟩ : Rw)]) ++ (sl :: L))) _ (by rw [rsl_app]; exact lessG2) ?_ ?_
              · try dsimp only
                refine ⟨?_, ?_, ?_, ?_, ?_, ?_⟩
                · simp (maxSteps:=1000000)(dsimp:=false)(disch:=omega) only [go_sem, Φa, hP, h6_2, h6_4, h6_6, h6_7, h6_8, h6_9]
                  first | done | rfl | skip
                · simp (maxSteps:=1000000)(dsimp:=false)(disch:=omega) only [go_sem, Φa, hP, h6_2, h6_4, h6_6, h6_7, h6_8, h6_9]
                · simp (maxSteps:=1000000)(dsimp:=false)(disch:=omega) only [go_sem, Φa, hP, h6_2, h6_4, h6_6, h6_7, h6_8, h6_9]
                · simp (maxSteps:=1000000)(dsimp:=false)(disch:=omega) only [go_sem, Φa, hP, h6_2, h6_4, h6_6, h6_7, h6_8, h6_9]
                · rfl
                · refine ⟨by omega, hr', RwsOk.app hok hrr, ?_, fun j hj => ?_⟩
                  · rw [List.map_append, hrs, refRows_take (by omega)]
                    rfl
                  · rcases Nat.lt_succ_iff_lt_or_eq.1 hj with h | rfl
                    · exact hin j h
                    · exact hokl
              · (try dsimp only); omega
            · skip
              try with_reducible refine stI ?_
              try with_reducible refine stI ?_
              try simp (maxSteps:=1000000)(dsimp:=false)(disch:=omega) only [go_sem, Φa, hP, h5_7, h5_2, h5_4, h5_6, hops, ia_at hle]
              refine hK20 _ _ ?_
              try clear hK20 K20
              refine SX.live [2, 4, 6, 7, 8, 9] (fun T7 hT7 => ?_)
              simp only [forall_mem_cons', forall_mem_nil', go_sem, Φa, hP, h5_7, h5_2, h5_4, h5_6] at hT7
              obtain ⟨h7_2, h7_4, h7_6, h7_7, h7_8, h7_9⟩ := hT7
              clear h5_7 h5_2 h5_4 h5_6 T5
              refine SX.seq_k fun K24 hK24 => ?_
              refine SX.seq_k fun K25 hK25 => ?_
              refine SX.region_d [some 41, some 42] rfl (fun ops hops => ?_)
              unfold Dsts at hops
              simp (maxSteps:=1000000)(dsimp:=false)(disch:=omega) only [go_sem, Φa, hP, h7_2, h7_4, h7_6, h7_7, h7_8, h7_9, hops]
              refine hK25 _ _ ?_
              try clear hK25 K25
              refine SX.cond_k fun X26 Y26 hX26 hY26 => ?_
              simp (maxSteps:=1000000)(dsimp:=false)(disch:=omega) only [go_sem, Φa, hP, h7_2, h7_4, h7_6, h7_7, h7_8, h7_9, condVC]
              refine hX26 ?_
              clear hX26 hY26 X26 Y26
              refine SX.seq_k fun K27 hK27 => ?_
              refine SX.region_d [some 43, none, some 3] rfl (fun ops hops => ?_)
              unfold Dsts at hops
              simp (maxSteps:=1000000)(dsimp:=false)(disch:=omega) only [go_sem, Φa, hP, h7_2, h7_4, h7_6, h7_7, h7_8, h7_9, hops]
              refine ⟨0, _, _, _, rfl, by decide, .inr (by decide), ?_⟩
              try with_reducible refine stI ?_
              try simp (maxSteps:=1000000)(dsimp:=false)(disch:=omega) only [go_sem, Φa, hP, h7_2, h7_4, h7_6, h7_7, h7_8, h7_9, hops]
              refine hK27 _ _ ?_
              try clear hK27 K27
              refine SX.ret ?_
              simp only [andThen_normal, andThen_ret, andThen_exit, inBlk_normal, inBlk_ret, inBlk_exit, Nat.reduceEqDiff, if_true, if_false, ↓reduceIte, retQ_ret]
              try simp only [res0,res1,res2,res3,stK_e,resX,resK,oneOr,ld_ptr,loadVC,loadN,List.nil_append,List.cons_append,Nat.reduceAdd,Nat.add_zero,Nat.zero_add,Addr.add_lit,Addr.add_zero',add_addS,T.elA_41,T.lay_41,T.szA_41,T.zr_41,Tryd.underlying41,go_sem,Φa,hP,h7_2,h7_4,h7_6,h7_7,h7_8,h7_9]
              refine ⟨_, _, lessG5, ⟨_, Cell.at 0 rfl rfl, _, Cell.at 0 rfl rfl, _, Cell.at 0 rfl rfl, rfl⟩, ReadR.bad (refBad (refBad_line hil hokl))⟩
          · clear hX18 hY18 X18 Y18
            refine SX.exit ?_
            try simp only [andThen_normal, andThen_ret, andThen_exit, inBlk_normal, inBlk_ret, inBlk_exit, Nat.reduceEqDiff, if_true, if_false, ↓reduceIte]
            refine hK13 _ _ ?_
            try clear hK13 K13
            refine SX.seq_k fun K28 hK28 => ?_
            obtain rfl : i = 128 := by omega
            obtain ⟨VA, vc, rfl, hvc, _⟩ := Row.form hrow
            have hrf : (refRows s).length = 128 := by unfold refRows; rw [List.length_map]; exact h128
            rw [List.take_of_length_le (by omega)] at hrs
            have hall : (linesR s).all okLine = true := by
              rw [List.all_eq_true]
              intro l hl
              obtain ⟨j, hj⟩ := List.mem_iff_getElem?.1 hl
              have hjl := (List.getElem?_eq_some_iff.1 hj).1
              have := hin j (by omega)
              rwa [List.getD_eq_getElem?_getD, hj] at this
            have hp : refReadP s = (⟨0, refRows s, shortB (refRows s)⟩, 0) := by unfold refReadP; rw [if_neg (by omega), if_pos ⟨h128, h12.2, hall⟩]
            rw [refReadP_eq] at hp
            have hR8 : ∀ r ∈ refRows s, r.length ≤ 8 := fun r hr => by
              obtain ⟨l, hl, rfl⟩ := List.mem_map.1 hr
              exact (okLine_ex (List.all_eq_true.1 hall l hl)).2.1
            have hcn := cnt_le hR8
            rw [hrf] at hcn
            have hslF : SlR (Cell Γ (some (b0, .cells [.int .i64 0, .slice none 0 0, .bool false].toArray 41 (0, 0)) :: some (b6, .cells [.int .i64 0, (.slice VA rs.length vc), .bool false].toArray 41 (0, 0)) :: so :: (rsl rs ++ (sl :: L)))) (.slice VA rs.length vc) (refRows s) := by rw [← hrs]; exact RowR.sl hrow hok (List.mem_cons_of_mem _ (List.mem_cons_of_mem _ (List.mem_cons_self ..))) (fun x hx => List.mem_cons_of_mem _ (List.mem_cons_of_mem _ (List.mem_cons_of_mem _ (List.mem_append_left _ hx))))
            refine SX.region_d [some 50, some 51, some 52, some 10] rfl (fun ops hops => ?_)
            unfold Dsts at hops
            simp (maxSteps:=1000000)(dsimp:=false)(disch:=omega) only [go_sem, Φa, hP, h5_7, h5_2, h5_4, h5_6, hops]
            refine ⟨_, Cell.at 1 rfl rfl, ?_⟩
            try with_reducible refine stI ?_
            try simp (maxSteps:=1000000)(dsimp:=false)(disch:=omega) only [go_sem, Φa, hP, h5_7, h5_2, h5_4, h5_6, hops]
            refine SCall.mono (refCount_spec (rows := refRows s) hP hslF (by omega) (by omega)) ?_
            rintro v_ L_ ⟨hv_, hL_⟩
            rw [hv_, hL_]
            clear hv_ hL_ v_ L_
            try with_reducible refine stI ?_
            try simp (maxSteps:=1000000)(dsimp:=false)(disch:=omega) only [go_sem, Φa, hP, h5_7, h5_2, h5_4, h5_6, hops]
            refine hK28 _ _ ?_
            try clear hK28 K28
            refine SX.seq_k fun K29 hK29 => ?_
            have hshb : decide (((cnt (refRows s) : Nat) : Int) < 1024) = shortB (refRows s) := decide_eq_decide.2 (by omega)
            refine SX.region_d [some 53, some 54, some 55, none] rfl (fun ops hops => ?_)
            unfold Dsts at hops
            simp (maxSteps:=1000000)(dsimp:=false)(disch:=omega) only [go_sem, Φa, hP, h5_7, h5_2, h5_4, h5_6, hops, hshb]
            refine ⟨1, _, _, _, rfl, (by simp), .inr (by omega), ?_⟩
            try with_reducible refine stI ?_
            try simp (maxSteps:=1000000)(dsimp:=false)(disch:=omega) only [go_sem, Φa, hP, h5_7, h5_2, h5_4, h5_6, hops, hshb]
            refine hK29 _ _ ?_
            try clear hK29 K29
            refine SX.live [2, 6] (fun T8 hT8 => ?_)
            simp only [forall_mem_cons', forall_mem_nil', go_sem, Φa, hP, h5_7, h5_2, h5_4, h5_6] at hT8
            obtain ⟨h8_2, h8_6⟩ := hT8
            clear h5_7 h5_2 h5_4 h5_6 T5
            refine SX.seq_k fun K30 hK30 => ?_
            refine SX.region_d [some 56, none, some 3] rfl (fun ops hops => ?_)
            unfold Dsts at hops
            simp (maxSteps:=1000000)(dsimp:=false)(disch:=omega) only [go_sem, Φa, hP, h8_2, h8_6, hops]
            refine ⟨_, Cell.at 1 rfl rfl, _, Cell.at 1 rfl rfl, _, Cell.at 1 rfl rfl, ?_⟩
            try with_reducible refine stI ?_
            try simp (maxSteps:=1000000)(dsimp:=false)(disch:=omega) only [go_sem, Φa, hP, h8_2, h8_6, hops]
            refine ⟨0, _, _, _, rfl, (by simp), .inr (by omega), ?_⟩
            try with_reducible refine stI ?_
            try simp (maxSteps:=1000000)(dsimp:=false)(disch:=omega) only [go_sem, Φa, hP, h8_2, h8_6, hops]
            refine hK30 _ _ ?_
            try clear hK30 K30
            refine SX.ret ?_
            simp only [andThen_normal, andThen_ret, andThen_exit, inBlk_normal, inBlk_ret, inBlk_exit, Nat.reduceEqDiff, if_true, if_false, ↓reduceIte, retQ_ret]
            try simp only [res0,res1,res2,res3,stK_e,resX,resK,oneOr,ld_ptr,loadVC,loadN,List.nil_append,List.cons_append,Nat.reduceAdd,Nat.add_zero,Nat.zero_add,Addr.add_lit,Addr.add_zero',add_addS,T.elA_41,T.lay_41,T.szA_41,T.zr_41,Tryd.underlying41,go_sem,Φa,hP,h8_2,h8_6]
            refine ⟨_, _, lessG4, ⟨_, Cell.at 0 rfl rfl, _, Cell.at 0 rfl rfl, _, Cell.at 0 rfl rfl, rfl⟩, ?_⟩
            exact ⟨_, _, rs, by rw [hp]; rfl, rfl, hrow, hok, by rw [hp]; exact hrs⟩

end Go.Proofs.YtpakphgeichopaaDoor
set_option linter.unusedVariables false
set_option linter.unusedSimpArgs false
namespace Go.Proofs.YtpakphgeichopaaDoor
open Go.RowKit Go.SX Go.Proofs

theorem SCall.pre {Γ : Ctx} {f : FuncId} {args : Array Value} {L L1 : Hp} {R : Value → Hp → Prop} (hl : Less L L1) (h : SCall Γ f args L1 R) : SCall Γ f args L R := fun w hi => h w (hl _ _ hi)
theorem lessF2 {c a b d : Slot} {M R : Hp} : Less (c :: a :: b :: (M ++ (d :: R))) (d :: c :: a :: b :: (M ++ R)) := Less.perm (List.perm_middle (l₁ := c :: a :: b :: M) (a := d) (l₂ := R))
theorem rsl_perm (rs : List Rw) : (rsl rs).Perm (rs.map Rw.s) := by
  induction rs with
  | nil => exact .refl _
  | cons r rs ih =>
    rw [rsl, List.map_cons]
    exact (List.perm_append_comm).trans (.cons _ ih)
theorem perm_out {X M : Hp} {s : Slot} {L : Hp} {rs : List Rw} : (X ++ s :: (rsl rs ++ L)).Perm (rs.map Rw.s ++ ([s] ++ (X ++ L))) := by
  have h1 : (X ++ s :: (rsl rs ++ L)).Perm (s :: (X ++ (rsl rs ++ L))) := List.perm_middle
  have h2 : (X ++ (rsl rs ++ L)).Perm (rsl rs ++ (X ++ L)) := by
    rw [← List.append_assoc, ← List.append_assoc]
    exact List.Perm.append_right _ List.perm_append_comm
  have h3 : (rsl rs ++ (X ++ L)).Perm (rs.map Rw.s ++ (X ++ L)) := List.Perm.append_right _ (rsl_perm rs)
  have h4 : (s :: (rs.map Rw.s ++ (X ++ L))).Perm (rs.map Rw.s ++ ([s] ++ (X ++ L))) := List.perm_middle.symm
  exact h1.trans ((List.Perm.cons s (h2.trans h3)).trans h4)
theorem lessL {g a b c s3 s2 s1 : Slot} {M3 M2 L : Hp} {rs : List Rw} : Less (g :: a :: b :: c :: s3 :: (M3 ++ s2 :: (M2 ++ s1 :: (rsl rs ++ L)))) (g :: (rs.map Rw.s ++ ([s1] ++ (a :: b :: c :: s3 :: (M3 ++ s2 :: (M2 ++ L)))))) := by
  refine Less.perm (.cons _ ?_)
  have h := perm_out (X := a :: b :: c :: s3 :: (M3 ++ s2 :: M2)) (M := []) (s := s1) (L := L) (rs := rs)
  simpa using h
theorem lessX {a b c s3 s2 : Slot} {M3 M2 L : Hp} : Less (a :: b :: c :: s3 :: (M3 ++ s2 :: (M2 ++ L))) L := Less.sublist (.cons _ (.cons _ (.cons _ (.cons _ ((List.Sublist.trans (.cons _ (List.sublist_append_right M2 L)) (List.sublist_append_right M3 _)))))))
theorem readP_bnd2 (s : ByteArray) : cnt (readP s).1.rows ≤ 1064960 ∧ (readP s).1.rows.length ≤ 128 := by
  unfold readP
  split
  · exact ⟨by decide, by decide⟩
  · split
    · have h1 := rowsAt_cnt (s := s) (by omega)
      have h2 := rowsAt_len s 128
      exact ⟨by show cnt (rowsAt s 128) ≤ _; omega, by show (rowsAt s 128).length ≤ _; omega⟩
    · exact ⟨by decide, by decide⟩
theorem rws_bnd {rs : List Rw} {g : Fm} (h : rs.map (·.l) = g.rows) (hc : cnt g.rows ≤ 1064960) : ∀ w ∈ rs, w.l.length ≤ 1099511627776 := fun w hw => by
  have hm : w.l ∈ g.rows := by rw [← h]; exact List.mem_map_of_mem hw
  obtain ⟨j, hj⟩ := List.mem_iff_getElem?.1 hm
  have hjl := (List.getElem?_eq_some_iff.1 hj).1
  have := cnt_at hjl
  rw [List.getD_eq_getElem?_getD, hj] at this
  simp only [Option.getD_some] at this
  omega
set_option maxHeartbeats 1000000 in
set_option maxRecDepth 100000 in
theorem FrameReads_spec {Γ : Ctx} (hP : Γ.P = Tryd.prog) {L : Hp} (S : SH Γ) (hM : HasM Γ) {s : ByteArray} :
    SCall Γ 9 #[(.string s)] L (fun v L' => v = .bool true ∧ L' = L) := by
  refine SCall.enter (n := 55) (res1 2) (hP ▸ Tryd.func9) rfl rfl (by simp) (res1_ok rfl) ?_
  refine SX.seq_k fun K1 hK1 => ?_
  refine SX.region_d [some 2] rfl (fun ops hops => ?_)
  unfold Dsts at hops
  simp (maxSteps:=1000000)(dsimp:=false)(disch:=omega) only [go_sem, ia_someH, hP, hops]
  refine hK1 _ _ ?_
  try clear hK1 K1
  refine SX.seq_k fun K2 hK2 => ?_
  obtain ⟨hb1, hb2⟩ := readP_bnd2 s
  obtain ⟨g, e, hge⟩ : ∃ g e, readP s = (g, e) := ⟨_, _, rfl⟩
  rw [hge] at hb1 hb2
  dsimp only at hb1 hb2
  refine SX.region_d [some 10, some 11, some 9, some 12, some 13, some 3, none, some 4] rfl (fun ops hops => ?_)
  unfold Dsts at hops
  simp (maxSteps:=1000000)(dsimp:=false)(disch:=omega) only [go_sem, ia_someH, hP, hops]
  refine SCall.mono (Read_spec hP hM) ?_
  rintro v_ L_ ⟨vo, s1, rs1, hv_, rfl, hrow1, hok1, hrs1⟩
  rw [hge] at hv_ hrs1
  obtain ⟨V1, v1, rfl, _, _⟩ := Row.form hrow1
  obtain rfl : v_ = .tuple #[.agg #[.int .i64 g.at_, .slice V1 rs1.length v1, .bool g.sh], .int .i64 e] := hv_
  dsimp only at hrs1
  try with_reducible refine stI ?_
  try simp (maxSteps:=1000000)(dsimp:=false)(disch:=omega) only [go_sem, ia_someH, hP, hops]
  intro a1
  try with_reducible refine stI ?_
  try simp (maxSteps:=1000000)(dsimp:=false)(disch:=omega) only [go_sem, ia_someH, hP, hops]
  refine ⟨0, _, _, _, rfl, (by decide), .inr (by omega), ?_⟩
  try with_reducible refine stI ?_
  try simp (maxSteps:=1000000)(dsimp:=false)(disch:=omega) only [go_sem, ia_someH, hP, hops]
  refine hK2 _ _ ?_
  try clear hK2 K2
  refine SX.seq_k fun K3 hK3 => ?_
  refine SX.region_d [some 15, some 16, some 14, some 17, some 18, some 5, none, some 6] rfl (fun ops hops => ?_)
  unfold Dsts at hops
  simp (maxSteps:=1000000)(dsimp:=false)(disch:=omega) only [go_sem, ia_someH, hP, hops]
  refine SCall.mono (Read_spec hP hM) ?_
  rintro v_ L_ ⟨vo, s2, rs2, hv_, rfl, hrow2, hok2, hrs2⟩
  rw [hge] at hv_ hrs2
  obtain ⟨V2, v2, rfl, _, _⟩ := Row.form hrow2
  obtain rfl : v_ = .tuple #[.agg #[.int .i64 g.at_, .slice V2 rs2.length v2, .bool g.sh], .int .i64 e] := hv_
  dsimp only at hrs2
  try with_reducible refine stI ?_
  try simp (maxSteps:=1000000)(dsimp:=false)(disch:=omega) only [go_sem, ia_someH, hP, hops]
  intro a2
  try with_reducible refine stI ?_
  try simp (maxSteps:=1000000)(dsimp:=false)(disch:=omega) only [go_sem, ia_someH, hP, hops]
  refine ⟨0, _, _, _, rfl, (by decide), .inr (by omega), ?_⟩
  try with_reducible refine stI ?_
  try simp (maxSteps:=1000000)(dsimp:=false)(disch:=omega) only [go_sem, ia_someH, hP, hops]
  refine hK3 _ _ ?_
  try clear hK3 K3
  refine SX.live [0, 3, 4, 5, 6] (fun T1 hT1 => ?_)
  simp only [forall_mem_cons', forall_mem_nil', go_sem, ia_someH, hP] at hT1
  obtain ⟨h1_0, h1_3, h1_4, h1_5, h1_6⟩ := hT1
  refine SX.seq_k fun K4 hK4 => ?_
  refine SX.less lessF ?_
  refine SX.region_d [some 20, some 21, some 19, some 22, some 23, some 7, none, some 8] rfl (fun ops hops => ?_)
  unfold Dsts at hops
  simp (maxSteps:=1000000)(dsimp:=false)(disch:=omega) only [go_sem, ia_someH, hP, h1_0, h1_3, h1_4, h1_5, h1_6, hops]
  refine SCall.mono (refRead_spec hP) ?_
  rintro v_ L_ ⟨vo, s3, rs3, hv_, rfl, hrow3, hok3, hrs3⟩
  rw [hge] at hv_ hrs3
  obtain ⟨V3, v3, rfl, _, _⟩ := Row.form hrow3
  obtain rfl : v_ = .tuple #[.agg #[.int .i64 g.at_, .slice V3 rs3.length v3, .bool g.sh], .int .i64 e] := hv_
  dsimp only at hrs3
  try with_reducible refine stI ?_
  try simp (maxSteps:=1000000)(dsimp:=false)(disch:=omega) only [go_sem, ia_someH, hP, h1_0, h1_3, h1_4, h1_5, h1_6, hops]
  intro a3
  try with_reducible refine stI ?_
  try simp (maxSteps:=1000000)(dsimp:=false)(disch:=omega) only [go_sem, ia_someH, hP, h1_0, h1_3, h1_4, h1_5, h1_6, hops]
  refine ⟨0, _, _, _, rfl, (by decide), .inr (by omega), ?_⟩
  try with_reducible refine stI ?_
  try simp (maxSteps:=1000000)(dsimp:=false)(disch:=omega) only [go_sem, ia_someH, hP, h1_0, h1_3, h1_4, h1_5, h1_6, hops]
  refine hK4 _ _ ?_
  try clear hK4 K4
  refine SX.seq_k fun K5 hK5 => ?_
  refine SX.seq_k fun K6 hK6 => ?_
  refine SX.less (lessF.trans lessF2) ?_
  refine SX.region_xd [some 24, some 25, some 26, some 27, some 28, some 29, some 30, some 31, some 32, some 33, some 34, some 35, some 36, some 37, some 38, some 39, some 40, some 41, some 42, some 43] rfl (fun ops hops => ?_)
  unfold Dsts at hops
  refine RX.live [3, 4, 5, 6, 7, 8] (fun T2 hT2 => ?_)
  simp only [forall_mem_cons', forall_mem_nil', go_sem, ia_someH, hP, h1_0, h1_3, h1_4, h1_5, h1_6] at hT2
  obtain ⟨h2_3, h2_4, h2_5, h2_6, h2_7, h2_8⟩ := hT2
  clear h1_0 h1_3 h1_4 h1_5 h1_6 T1
  have hsa1 : SlR (Cell Γ (some (a2, .cells [.int .i64 g.at_, .slice V2 rs2.length v2, .bool g.sh].toArray 41 (0, 0)) :: some (a1, .cells [.int .i64 g.at_, .slice V1 rs1.length v1, .bool g.sh].toArray 41 (0, 0)) :: some (a3, .cells [.int .i64 g.at_, .slice V3 rs3.length v3, .bool g.sh].toArray 41 (0, 0)) :: s3 :: (rsl rs3 ++ s2 :: (rsl rs2 ++ s1 :: (rsl rs1 ++ L))))) (.slice V1 rs1.length v1) g.rows := by
    have h := RowR.sl (Γ := Γ) (L := some (a2, .cells [.int .i64 g.at_, .slice V2 rs2.length v2, .bool g.sh].toArray 41 (0, 0)) :: some (a1, .cells [.int .i64 g.at_, .slice V1 rs1.length v1, .bool g.sh].toArray 41 (0, 0)) :: some (a3, .cells [.int .i64 g.at_, .slice V3 rs3.length v3, .bool g.sh].toArray 41 (0, 0)) :: s3 :: (rsl rs3 ++ s2 :: (rsl rs2 ++ s1 :: (rsl rs1 ++ L)))) hrow1 hok1 (by simp only [List.mem_cons, List.mem_append, true_or, or_true]) (fun x hx => by simp only [List.mem_cons, List.mem_append]; simp only [hx, true_or, or_true])
    rwa [hrs1] at h
  have hsa2 : SlR (Cell Γ (some (a2, .cells [.int .i64 g.at_, .slice V2 rs2.length v2, .bool g.sh].toArray 41 (0, 0)) :: some (a1, .cells [.int .i64 g.at_, .slice V1 rs1.length v1, .bool g.sh].toArray 41 (0, 0)) :: some (a3, .cells [.int .i64 g.at_, .slice V3 rs3.length v3, .bool g.sh].toArray 41 (0, 0)) :: s3 :: (rsl rs3 ++ s2 :: (rsl rs2 ++ s1 :: (rsl rs1 ++ L))))) (.slice V2 rs2.length v2) g.rows := by
    have h := RowR.sl (Γ := Γ) (L := some (a2, .cells [.int .i64 g.at_, .slice V2 rs2.length v2, .bool g.sh].toArray 41 (0, 0)) :: some (a1, .cells [.int .i64 g.at_, .slice V1 rs1.length v1, .bool g.sh].toArray 41 (0, 0)) :: some (a3, .cells [.int .i64 g.at_, .slice V3 rs3.length v3, .bool g.sh].toArray 41 (0, 0)) :: s3 :: (rsl rs3 ++ s2 :: (rsl rs2 ++ s1 :: (rsl rs1 ++ L)))) hrow2 hok2 (by simp only [List.mem_cons, List.mem_append, true_or, or_true]) (fun x hx => by simp only [List.mem_cons, List.mem_append]; simp only [hx, true_or, or_true])
    rwa [hrs2] at h
  have hsa3 : SlR (Cell Γ (some (a2, .cells [.int .i64 g.at_, .slice V2 rs2.length v2, .bool g.sh].toArray 41 (0, 0)) :: some (a1, .cells [.int .i64 g.at_, .slice V1 rs1.length v1, .bool g.sh].toArray 41 (0, 0)) :: some (a3, .cells [.int .i64 g.at_, .slice V3 rs3.length v3, .bool g.sh].toArray 41 (0, 0)) :: s3 :: (rsl rs3 ++ s2 :: (rsl rs2 ++ s1 :: (rsl rs1 ++ L))))) (.slice V3 rs3.length v3) g.rows := by
    have h := RowR.sl (Γ := Γ) (L := some (a2, .cells [.int .i64 g.at_, .slice V2 rs2.length v2, .bool g.sh].toArray 41 (0, 0)) :: some (a1, .cells [.int .i64 g.at_, .slice V1 rs1.length v1, .bool g.sh].toArray 41 (0, 0)) :: some (a3, .cells [.int .i64 g.at_, .slice V3 rs3.length v3, .bool g.sh].toArray 41 (0, 0)) :: s3 :: (rsl rs3 ++ s2 :: (rsl rs2 ++ s1 :: (rsl rs1 ++ L)))) hrow3 hok3 (by simp only [List.mem_cons, List.mem_append, true_or, or_true]) (fun x hx => by simp only [List.mem_cons, List.mem_append]; simp only [hx, true_or, or_true])
    rwa [hrs3] at h
  refine RX.join 8 (fun (ss : Unit) T L' => T 31 = .bool (false) ∧ T 3 = T2 3 ∧ T 5 = T2 5 ∧ T 7 = T2 7 ∧ L' = some (a2, .cells [.int .i64 g.at_, .slice V2 rs2.length v2, .bool g.sh].toArray 41 (0, 0)) :: some (a1, .cells [.int .i64 g.at_, .slice V1 rs1.length v1, .bool g.sh].toArray 41 (0, 0)) :: some (a3, .cells [.int .i64 g.at_, .slice V3 rs3.length v3, .bool g.sh].toArray 41 (0, 0)) :: s3 :: (rsl rs3 ++ s2 :: (rsl rs2 ++ s1 :: (rsl rs1 ++ L))) ∧ (True)) (fun K7 hK7 => ?_) ?_
  · simp only [h2_3, h2_5, h2_7] at hK7
    simp (maxSteps:=1000000)(dsimp:=false)(disch:=omega) only [go_sem, ia_someH, hP, h2_3, h2_4, h2_5, h2_6, h2_7, h2_8, hops]
    repeat' (first | refine iteB (fun hg => ?_) (fun hg => ?_) | refine iteI (fun hg => ?_) (fun hg => ?_) | ((first | refine ⟨_, Cell.at 0 rfl rfl, _, Cell.at 0 rfl rfl, _, Cell.at 0 rfl rfl, ?_⟩ | refine ⟨_, Cell.at 1 rfl rfl, _, Cell.at 1 rfl rfl, _, Cell.at 1 rfl rfl, ?_⟩ | refine ⟨_, Cell.at 2 rfl rfl, _, Cell.at 2 rfl rfl, _, Cell.at 2 rfl rfl, ?_⟩ | (refine SCall.mono (Same_spec (f := g) hP hsa1 hsa3 (by omega) (by omega)) ?_; rintro v_ L_ ⟨hv_, hL_⟩; rw [hv_, hL_]; clear hv_ hL_ v_ L_) | (refine SCall.mono (Same_spec (f := g) hP hsa2 hsa3 (by omega) (by omega)) ?_; rintro v_ L_ ⟨hv_, hL_⟩; rw [hv_, hL_]; clear hv_ hL_ v_ L_) | refine And.intro (by omega) ?_ | refine ⟨_, Cell.at 0 rfl rfl, ?_⟩ | refine ⟨_, Cell.at 1 rfl rfl, ?_⟩ | refine ⟨_, Cell.at 2 rfl rfl, ?_⟩ | refine ⟨_, Cell.at 3 rfl rfl, ?_⟩ | refine ⟨_, Cell.at 4 rfl rfl, ?_⟩ | refine ⟨_, Cell.at 5 rfl rfl, ?_⟩ | fail); try (with_reducible refine stI ?_); try simp (maxSteps:=1000000)(dsimp:=false)(disch:=omega) only [go_sem, ia_someH, hP, h2_3, h2_4, h2_5, h2_6, h2_7, h2_8, hops]) | fail)
    all_goals
      refine hK7 () _ (some (a2, .cells [.int .i64 g.at_, .slice V2 rs2.length v2, .bool g.sh].toArray 41 (0, 0)) :: some (a1, .cells [.int .i64 g.at_, .slice V1 rs1.length v1, .bool g.sh].toArray 41 (0, 0)) :: some (a3, .cells [.int .i64 g.at_, .slice V3 rs3.length v3, .bool g.sh].toArray 41 (0, 0)) :: s3 :: (rsl rs3 ++ s2 :: (rsl rs2 ++ s1 :: (rsl rs1 ++ L)))) _ (by first | exact Less.refl _ | exact Less.drop _ _ | exact Less.drops (Less.drop _ _) | exact Less.drops (Less.drops (Less.drop _ _)) | exact Less.drops (Less.drops (Less.drops (Less.drop _ _))) | exact Less.drops (Less.drops (Less.drops (Less.drops (Less.drop _ _))))) ?_
      try dsimp only
      refine ⟨?_, ?_, ?_, ?_, ?_, ?_⟩
      · simp (maxSteps:=1000000)(dsimp:=false)(disch:=omega) only [go_sem, ia_someH, hP, h2_3, h2_4, h2_5, h2_6, h2_7, h2_8]
        first | done | rfl | (refine congrArg Value.bool ?_; simp; done)
      · simp (maxSteps:=1000000)(dsimp:=false)(disch:=omega) only [go_sem, ia_someH, hP, h2_3, h2_4, h2_5, h2_6, h2_7, h2_8]
      · simp (maxSteps:=1000000)(dsimp:=false)(disch:=omega) only [go_sem, ia_someH, hP, h2_3, h2_4, h2_5, h2_6, h2_7, h2_8]
      · simp (maxSteps:=1000000)(dsimp:=false)(disch:=omega) only [go_sem, ia_someH, hP, h2_3, h2_4, h2_5, h2_6, h2_7, h2_8]
      · rfl
      · trivial
  · intro ss T3 L3 hI
    simp only [h2_3, h2_5, h2_7] at hI 
    obtain ⟨h3_31, h3_3, h3_5, h3_7, hL3, hinv⟩ := hI
    replace hL3 := hL3.symm
    subst hL3
    clear h2_3 h2_4 h2_5 h2_6 h2_7 h2_8 T2
    refine RX.live [3, 5, 7, 31] (fun T4 hT4 => ?_)
    simp only [forall_mem_cons', forall_mem_nil', go_sem, ia_someH, hP, h3_31, h3_3, h3_5, h3_7] at hT4
    obtain ⟨h4_3, h4_5, h4_7, h4_31⟩ := hT4
    clear h3_31 h3_3 h3_5 h3_7 T3
    refine RX.join 6 (fun (ss : Unit) T L' => T 37 = .bool (false) ∧ T 3 = T4 3 ∧ T 5 = T4 5 ∧ T 7 = T4 7 ∧ L' = some (a2, .cells [.int .i64 g.at_, .slice V2 rs2.length v2, .bool g.sh].toArray 41 (0, 0)) :: some (a1, .cells [.int .i64 g.at_, .slice V1 rs1.length v1, .bool g.sh].toArray 41 (0, 0)) :: some (a3, .cells [.int .i64 g.at_, .slice V3 rs3.length v3, .bool g.sh].toArray 41 (0, 0)) :: s3 :: (rsl rs3 ++ s2 :: (rsl rs2 ++ s1 :: (rsl rs1 ++ L))) ∧ (True)) (fun K8 hK8 => ?_) ?_
    · simp only [h4_3, h4_5, h4_7] at hK8
      simp (maxSteps:=1000000)(dsimp:=false)(disch:=omega) only [go_sem, ia_someH, hP, h4_3, h4_5, h4_7, h4_31, hops]
      repeat' (first | refine iteB (fun hg => ?_) (fun hg => ?_) | refine iteI (fun hg => ?_) (fun hg => ?_) | ((first | refine ⟨_, Cell.at 0 rfl rfl, _, Cell.at 0 rfl rfl, _, Cell.at 0 rfl rfl, ?_⟩ | refine ⟨_, Cell.at 1 rfl rfl, _, Cell.at 1 rfl rfl, _, Cell.at 1 rfl rfl, ?_⟩ | refine ⟨_, Cell.at 2 rfl rfl, _, Cell.at 2 rfl rfl, _, Cell.at 2 rfl rfl, ?_⟩ | (refine SCall.mono (Same_spec (f := g) hP hsa1 hsa3 (by omega) (by omega)) ?_; rintro v_ L_ ⟨hv_, hL_⟩; rw [hv_, hL_]; clear hv_ hL_ v_ L_) | (refine SCall.mono (Same_spec (f := g) hP hsa2 hsa3 (by omega) (by omega)) ?_; rintro v_ L_ ⟨hv_, hL_⟩; rw [hv_, hL_]; clear hv_ hL_ v_ L_) | refine And.intro (by omega) ?_ | refine ⟨_, Cell.at 0 rfl rfl, _, Cell.at 0 rfl rfl, _, Cell.at 0 rfl rfl, ?_⟩ | refine ⟨_, Cell.at 1 rfl rfl, _, Cell.at 1 rfl rfl, _, Cell.at 1 rfl rfl, ?_⟩ | refine ⟨_, Cell.at 2 rfl rfl, _, Cell.at 2 rfl rfl, _, Cell.at 2 rfl rfl, ?_⟩ | refine ⟨_, Cell.at 3 rfl rfl, _, Cell.at 3 rfl rfl, _, Cell.at 3 rfl rfl, ?_⟩ | refine ⟨_, Cell.at 4 rfl rfl, _, Cell.at 4 rfl rfl, _, Cell.at 4 rfl rfl, ?_⟩ | refine ⟨_, Cell.at 5 rfl rfl, _, Cell.at 5 rfl rfl, _, Cell.at 5 rfl rfl, ?_⟩ | refine ⟨_, Cell.at 0 rfl rfl, ?_⟩ | refine ⟨_, Cell.at 1 rfl rfl, ?_⟩ | refine ⟨_, Cell.at 2 rfl rfl, ?_⟩ | refine ⟨_, Cell.at 3 rfl rfl, ?_⟩ | refine ⟨_, Cell.at 4 rfl rfl, ?_⟩ | refine ⟨_, Cell.at 5 rfl rfl, ?_⟩ | fail); try (with_reducible refine stI ?_); try simp (maxSteps:=1000000)(dsimp:=false)(disch:=omega) only [go_sem, ia_someH, hP, h4_3, h4_5, h4_7, h4_31, hops]) | fail)
      all_goals
        refine hK8 () _ (some (a2, .cells [.int .i64 g.at_, .slice V2 rs2.length v2, .bool g.sh].toArray 41 (0, 0)) :: some (a1, .cells [.int .i64 g.at_, .slice V1 rs1.length v1, .bool g.sh].toArray 41 (0, 0)) :: some (a3, .cells [.int .i64 g.at_, .slice V3 rs3.length v3, .bool g.sh].toArray 41 (0, 0)) :: s3 :: (rsl rs3 ++ s2 :: (rsl rs2 ++ s1 :: (rsl rs1 ++ L)))) _ (by first | exact Less.refl _ | exact Less.drop _ _ | exact Less.drops (Less.drop _ _) | exact Less.drops (Less.drops (Less.drop _ _)) | exact Less.drops (Less.drops (Less.drops (Less.drop _ _))) | exact Less.drops (Less.drops (Less.drops (Less.drops (Less.drop _ _))))) ?_
        try dsimp only
        refine ⟨?_, ?_, ?_, ?_, ?_, ?_⟩
        · simp (maxSteps:=1000000)(dsimp:=false)(disch:=omega) only [go_sem, ia_someH, hP, h4_3, h4_5, h4_7, h4_31]
          first | done | rfl | (refine congrArg Value.bool ?_; simp; done)
        · simp (maxSteps:=1000000)(dsimp:=false)(disch:=omega) only [go_sem, ia_someH, hP, h4_3, h4_5, h4_7, h4_31]
        · simp (maxSteps:=1000000)(dsimp:=false)(disch:=omega) only [go_sem, ia_someH, hP, h4_3, h4_5, h4_7, h4_31]
        · simp (maxSteps:=1000000)(dsimp:=false)(disch:=omega) only [go_sem, ia_someH, hP, h4_3, h4_5, h4_7, h4_31]
        · rfl
        · trivial
    · intro ss T5 L5 hI
      simp only [h4_3, h4_5, h4_7] at hI 
      obtain ⟨h5_37, h5_3, h5_5, h5_7, hL5, hinv⟩ := hI
      replace hL5 := hL5.symm
      subst hL5
      clear h4_3 h4_5 h4_7 h4_31 T4
      refine RX.live [3, 5, 7, 37] (fun T6 hT6 => ?_)
      simp only [forall_mem_cons', forall_mem_nil', go_sem, ia_someH, hP, h5_37, h5_3, h5_5, h5_7] at hT6
      obtain ⟨h6_3, h6_5, h6_7, h6_37⟩ := hT6
      clear h5_37 h5_3 h5_5 h5_7 T5
      refine RX.join 6 (fun (ss : Unit) T L' => T 43 = .bool (false) ∧ T 3 = T6 3 ∧ T 5 = T6 5 ∧ T 7 = T6 7 ∧ L' = some (a2, .cells [.int .i64 g.at_, .slice V2 rs2.length v2, .bool g.sh].toArray 41 (0, 0)) :: some (a1, .cells [.int .i64 g.at_, .slice V1 rs1.length v1, .bool g.sh].toArray 41 (0, 0)) :: some (a3, .cells [.int .i64 g.at_, .slice V3 rs3.length v3, .bool g.sh].toArray 41 (0, 0)) :: s3 :: (rsl rs3 ++ s2 :: (rsl rs2 ++ s1 :: (rsl rs1 ++ L))) ∧ (True)) (fun K9 hK9 => ?_) ?_
      · simp only [h6_3, h6_5, h6_7] at hK9
        simp (maxSteps:=1000000)(dsimp:=false)(disch:=omega) only [go_sem, ia_someH, hP, h6_3, h6_5, h6_7, h6_37, hops]
        repeat' (first | refine iteB (fun hg => ?_) (fun hg => ?_) | refine iteI (fun hg => ?_) (fun hg => ?_) | ((first | refine ⟨_, Cell.at 0 rfl rfl, _, Cell.at 0 rfl rfl, _, Cell.at 0 rfl rfl, ?_⟩ | refine ⟨_, Cell.at 1 rfl rfl, _, Cell.at 1 rfl rfl, _, Cell.at 1 rfl rfl, ?_⟩ | refine ⟨_, Cell.at 2 rfl rfl, _, Cell.at 2 rfl rfl, _, Cell.at 2 rfl rfl, ?_⟩ | (refine SCall.mono (Same_spec (f := g) hP hsa1 hsa3 (by omega) (by omega)) ?_; rintro v_ L_ ⟨hv_, hL_⟩; rw [hv_, hL_]; clear hv_ hL_ v_ L_) | (refine SCall.mono (Same_spec (f := g) hP hsa2 hsa3 (by omega) (by omega)) ?_; rintro v_ L_ ⟨hv_, hL_⟩; rw [hv_, hL_]; clear hv_ hL_ v_ L_) | refine And.intro (by omega) ?_ | refine ⟨_, Cell.at 0 rfl rfl, _, Cell.at 0 rfl rfl, _, Cell.at 0 rfl rfl, ?_⟩ | refine ⟨_, Cell.at 1 rfl rfl, _, Cell.at 1 rfl rfl, _, Cell.at 1 rfl rfl, ?_⟩ | refine ⟨_, Cell.at 2 rfl rfl, _, Cell.at 2 rfl rfl, _, Cell.at 2 rfl rfl, ?_⟩ | refine ⟨_, Cell.at 3 rfl rfl, _, Cell.at 3 rfl rfl, _, Cell.at 3 rfl rfl, ?_⟩ | refine ⟨_, Cell.at 4 rfl rfl, _, Cell.at 4 rfl rfl, _, Cell.at 4 rfl rfl, ?_⟩ | refine ⟨_, Cell.at 5 rfl rfl, _, Cell.at 5 rfl rfl, _, Cell.at 5 rfl rfl, ?_⟩ | refine ⟨_, Cell.at 0 rfl rfl, ?_⟩ | refine ⟨_, Cell.at 1 rfl rfl, ?_⟩ | refine ⟨_, Cell.at 2 rfl rfl, ?_⟩ | refine ⟨_, Cell.at 3 rfl rfl, ?_⟩ | refine ⟨_, Cell.at 4 rfl rfl, ?_⟩ | refine ⟨_, Cell.at 5 rfl rfl, ?_⟩ | fail); try (with_reducible refine stI ?_); try simp (maxSteps:=1000000)(dsimp:=false)(disch:=omega) only [go_sem, ia_someH, hP, h6_3, h6_5, h6_7, h6_37, hops]) | fail)
        all_goals
          refine hK9 () _ (some (a2, .cells [.int .i64 g.at_, .slice V2 rs2.length v2, .bool g.sh].toArray 41 (0, 0)) :: some (a1, .cells [.int .i64 g.at_, .slice V1 rs1.length v1, .bool g.sh].toArray 41 (0, 0)) :: some (a3, .cells [.int .i64 g.at_, .slice V3 rs3.length v3, .bool g.sh].toArray 41 (0, 0)) :: s3 :: (rsl rs3 ++ s2 :: (rsl rs2 ++ s1 :: (rsl rs1 ++ L)))) _ (by first | exact Less.refl _ | exact Less.drop _ _ | exact Less.drops (Less.drop _ _) | exact Less.drops (Less.drops (Less.drop _ _)) | exact Less.drops (Less.drops (Less.drops (Less.drop _ _))) | exact Less.drops (Less.drops (Less.drops (Less.drops (Less.drop _ _))))) ?_
          try dsimp only
          refine ⟨?_, ?_, ?_, ?_, ?_, ?_⟩
          · simp (maxSteps:=1000000)(dsimp:=false)(disch:=omega) only [go_sem, ia_someH, hP, h6_3, h6_5, h6_7, h6_37]
            first | done | rfl | (refine congrArg Value.bool ?_; simp; done)
          · simp (maxSteps:=1000000)(dsimp:=false)(disch:=omega) only [go_sem, ia_someH, hP, h6_3, h6_5, h6_7, h6_37]
          · simp (maxSteps:=1000000)(dsimp:=false)(disch:=omega) only [go_sem, ia_someH, hP, h6_3, h6_5, h6_7, h6_37]
          · simp (maxSteps:=1000000)(dsimp:=false)(disch:=omega) only [go_sem, ia_someH, hP, h6_3, h6_5, h6_7, h6_37]
          · rfl
          · trivial
      · intro ss T7 L7 hI
        simp only [h6_3, h6_5, h6_7] at hI 
        obtain ⟨h7_43, h7_3, h7_5, h7_7, hL7, hinv⟩ := hI
        replace hL7 := hL7.symm
        subst hL7
        clear h6_3 h6_5 h6_7 h6_37 T6
        refine RX.done ?_
        simp (maxSteps:=1000000)(dsimp:=false)(disch:=omega) only [go_sem, ia_someH, hP, h7_43, h7_3, h7_5, h7_7, hops]
        refine hK6 _ _ ?_
        try clear hK6 K6
        refine SX.cond_k fun X10 Y10 hX10 hY10 => ?_
        simp (maxSteps:=1000000)(dsimp:=false)(disch:=omega) only [go_sem, ia_someH, hP, h7_43, h7_3, h7_5, h7_7, condVC]
        refine hY10 ?_
        clear hX10 hY10 X10 Y10
        refine SX.skip ?_
        try simp only [andThen_normal, andThen_ret, andThen_exit, inBlk_normal, inBlk_ret, inBlk_exit, Nat.reduceEqDiff, if_true, if_false, ↓reduceIte]
        refine hK5 _ _ ?_
        try clear hK5 K5
        refine SX.seq_k fun K11 hK11 => ?_
        refine SX.region_xd [some 44, some 45, some 46, some 47, some 48, some 49, some 50, some 51, some 52, some 53, some 54, some 2] rfl (fun ops hops => ?_)
        unfold Dsts at hops
        refine RX.live [3, 5, 7] (fun T8 hT8 => ?_)
        simp only [forall_mem_cons', forall_mem_nil', go_sem, ia_someH, hP, h7_43, h7_3, h7_5, h7_7] at hT8
        obtain ⟨h8_3, h8_5, h8_7⟩ := hT8
        clear h7_43 h7_3 h7_5 h7_7 T7
        have hrl1 : rs1.length ≤ 128 := by have := congrArg List.length hrs1; rw [List.length_map] at this; omega
        have hgok : GsOk [(⟨g.at_, g.sh, rs1, .slice V1 rs1.length v1, s1⟩ : Gf)] := fun j hj => by
          obtain rfl : j = 0 := by (have : j < 1 := hj); omega
          exact hrow1
        have hsb2 : SlR (Cell Γ (some (a2, .cells [.int .i64 g.at_, .slice V2 rs2.length v2, .bool g.sh].toArray 41 (0, 0)) :: some (a1, .cells [.int .i64 g.at_, .slice V1 rs1.length v1, .bool g.sh].toArray 41 (0, 0)) :: some (a3, .cells [.int .i64 g.at_, .slice V3 rs3.length v3, .bool g.sh].toArray 41 (0, 0)) :: s3 :: (rsl rs3 ++ s2 :: (rsl rs2 ++ L)))) (.slice V2 rs2.length v2) g.rows := by
          have h := RowR.sl (Γ := Γ) (L := some (a2, .cells [.int .i64 g.at_, .slice V2 rs2.length v2, .bool g.sh].toArray 41 (0, 0)) :: some (a1, .cells [.int .i64 g.at_, .slice V1 rs1.length v1, .bool g.sh].toArray 41 (0, 0)) :: some (a3, .cells [.int .i64 g.at_, .slice V3 rs3.length v3, .bool g.sh].toArray 41 (0, 0)) :: s3 :: (rsl rs3 ++ s2 :: (rsl rs2 ++ L))) hrow2 hok2 (by simp only [List.mem_cons, List.mem_append, true_or, or_true]) (fun x hx => by simp only [List.mem_cons, List.mem_append]; simp only [hx, true_or, or_true])
          rwa [hrs2] at h
        have hsb3 : SlR (Cell Γ (some (a2, .cells [.int .i64 g.at_, .slice V2 rs2.length v2, .bool g.sh].toArray 41 (0, 0)) :: some (a1, .cells [.int .i64 g.at_, .slice V1 rs1.length v1, .bool g.sh].toArray 41 (0, 0)) :: some (a3, .cells [.int .i64 g.at_, .slice V3 rs3.length v3, .bool g.sh].toArray 41 (0, 0)) :: s3 :: (rsl rs3 ++ s2 :: (rsl rs2 ++ L)))) (.slice V3 rs3.length v3) g.rows := by
          have h := RowR.sl (Γ := Γ) (L := some (a2, .cells [.int .i64 g.at_, .slice V2 rs2.length v2, .bool g.sh].toArray 41 (0, 0)) :: some (a1, .cells [.int .i64 g.at_, .slice V1 rs1.length v1, .bool g.sh].toArray 41 (0, 0)) :: some (a3, .cells [.int .i64 g.at_, .slice V3 rs3.length v3, .bool g.sh].toArray 41 (0, 0)) :: s3 :: (rsl rs3 ++ s2 :: (rsl rs2 ++ L))) hrow3 hok3 (by simp only [List.mem_cons, List.mem_append, true_or, or_true]) (fun x hx => by simp only [List.mem_cons, List.mem_append]; simp only [hx, true_or, or_true])
          rwa [hrs3] at h
        refine RX.join 8 (fun (ss : Unit) T L' => T 51 = .bool (true) ∧ L' = some (a2, .cells [.int .i64 g.at_, .slice V2 rs2.length v2, .bool g.sh].toArray 41 (0, 0)) :: some (a1, .cells [.int .i64 g.at_, .slice V1 rs1.length v1, .bool g.sh].toArray 41 (0, 0)) :: some (a3, .cells [.int .i64 g.at_, .slice V3 rs3.length v3, .bool g.sh].toArray 41 (0, 0)) :: s3 :: (rsl rs3 ++ s2 :: (rsl rs2 ++ L)) ∧ (True)) (fun K12 hK12 => ?_) ?_
        · simp (maxSteps:=1000000)(dsimp:=false)(disch:=omega) only [go_sem, ia_someH, hP, h8_3, h8_5, h8_7, hops]
          repeat' (first | refine iteB (fun hg => ?_) (fun hg => ?_) | refine iteI (fun hg => ?_) (fun hg => ?_) | ((first | refine ⟨_, Cell.at 0 rfl rfl, _, Cell.at 0 rfl rfl, _, Cell.at 0 rfl rfl, ?_⟩ | refine ⟨_, Cell.at 1 rfl rfl, _, Cell.at 1 rfl rfl, _, Cell.at 1 rfl rfl, ?_⟩ | refine ⟨_, Cell.at 2 rfl rfl, _, Cell.at 2 rfl rfl, _, Cell.at 2 rfl rfl, ?_⟩ | (refine SCall.mono (SCall.pre lessL (lists_spec (gs := [(⟨g.at_, g.sh, rs1, .slice V1 rs1.length v1, s1⟩ : Gf)]) (rws := rs1) hP (Row.lit (xs := gfV (⟨g.at_, g.sh, rs1, .slice V1 rs1.length v1, s1⟩ : Gf)) rfl (by decide)) hgok (by simp [rowsG]) hok1 (by omega) (rws_bnd hrs1 hb1) (by simp))) ?_; rintro v_ L_ ⟨hv_, hL_⟩; rw [hv_, hL_]; clear hv_ hL_ v_ L_) | (refine SCall.mono (Same_spec (f := g) hP hsb2 hsb3 (by omega) (by omega)) ?_; rintro v_ L_ ⟨hv_, hL_⟩; rw [hv_, hL_]; clear hv_ hL_ v_ L_) | (refine SCall.mono (awake_spec hP S) ?_; rintro v_ L_ ⟨hv_, hL_⟩; rw [hv_, hL_]; clear hv_ hL_ v_ L_) | intro g6 | refine And.intro (by omega) ?_ | refine ⟨_, Cell.at 0 rfl rfl, _, Cell.at 0 rfl rfl, _, Cell.at 0 rfl rfl, ?_⟩ | refine ⟨_, Cell.at 1 rfl rfl, _, Cell.at 1 rfl rfl, _, Cell.at 1 rfl rfl, ?_⟩ | refine ⟨_, Cell.at 2 rfl rfl, _, Cell.at 2 rfl rfl, _, Cell.at 2 rfl rfl, ?_⟩ | refine ⟨_, Cell.at 3 rfl rfl, _, Cell.at 3 rfl rfl, _, Cell.at 3 rfl rfl, ?_⟩ | refine ⟨_, Cell.at 4 rfl rfl, _, Cell.at 4 rfl rfl, _, Cell.at 4 rfl rfl, ?_⟩ | refine ⟨_, Cell.at 0 rfl rfl, ?_⟩ | refine ⟨_, Cell.at 1 rfl rfl, ?_⟩ | refine ⟨_, Cell.at 2 rfl rfl, ?_⟩ | refine ⟨_, Cell.at 3 rfl rfl, ?_⟩ | refine ⟨_, Cell.at 4 rfl rfl, ?_⟩ | fail); try (with_reducible refine stI ?_); try simp (maxSteps:=1000000)(dsimp:=false)(disch:=omega) only [go_sem, ia_someH, hP, h8_3, h8_5, h8_7, hops]) | fail)
          all_goals
            refine hK12 () _ (some (a2, .cells [.int .i64 g.at_, .slice V2 rs2.length v2, .bool g.sh].toArray 41 (0, 0)) :: some (a1, .cells [.int .i64 g.at_, .slice V1 rs1.length v1, .bool g.sh].toArray 41 (0, 0)) :: some (a3, .cells [.int .i64 g.at_, .slice V3 rs3.length v3, .bool g.sh].toArray 41 (0, 0)) :: s3 :: (rsl rs3 ++ s2 :: (rsl rs2 ++ L))) _ (by first | exact Less.refl _ | exact Less.drop _ _ | exact Less.drops (Less.drop _ _) | exact Less.drops (Less.drops (Less.drop _ _)) | exact Less.drops (Less.drops (Less.drops (Less.drop _ _))) | exact Less.drops (Less.drops (Less.drops (Less.drops (Less.drop _ _))))) ?_
            try dsimp only
            refine ⟨?_, ?_, ?_⟩
            · simp (maxSteps:=1000000)(dsimp:=false)(disch:=omega) only [go_sem, ia_someH, hP, h8_3, h8_5, h8_7]
              first | done | rfl | (refine congrArg Value.bool ?_; simp; done)
            · rfl
            · trivial
        · intro ss T9 L9 hI
          obtain ⟨h9_51, hL9, hinv⟩ := hI
          replace hL9 := hL9.symm
          subst hL9
          clear h8_3 h8_5 h8_7 T8
          refine RX.live [51] (fun T10 hT10 => ?_)
          simp only [forall_mem_cons', forall_mem_nil', go_sem, ia_someH, hP, h9_51] at hT10
          have h10_51 := hT10; clear hT10
          clear h9_51 T9
          refine RX.join 3 (fun (ss : Unit) T L' => T 54 = .bool (true) ∧ L' = some (a2, .cells [.int .i64 g.at_, .slice V2 rs2.length v2, .bool g.sh].toArray 41 (0, 0)) :: some (a1, .cells [.int .i64 g.at_, .slice V1 rs1.length v1, .bool g.sh].toArray 41 (0, 0)) :: some (a3, .cells [.int .i64 g.at_, .slice V3 rs3.length v3, .bool g.sh].toArray 41 (0, 0)) :: s3 :: (rsl rs3 ++ s2 :: (rsl rs2 ++ L)) ∧ (True)) (fun K13 hK13 => ?_) ?_
          · simp (maxSteps:=1000000)(dsimp:=false)(disch:=omega) only [go_sem, ia_someH, hP, h10_51, hops]
            repeat' (first | refine iteB (fun hg => ?_) (fun hg => ?_) | refine iteI (fun hg => ?_) (fun hg => ?_) | ((first | refine ⟨_, Cell.at 0 rfl rfl, _, Cell.at 0 rfl rfl, _, Cell.at 0 rfl rfl, ?_⟩ | refine ⟨_, Cell.at 1 rfl rfl, _, Cell.at 1 rfl rfl, _, Cell.at 1 rfl rfl, ?_⟩ | refine ⟨_, Cell.at 2 rfl rfl, _, Cell.at 2 rfl rfl, _, Cell.at 2 rfl rfl, ?_⟩ | (refine SCall.mono (SCall.pre lessL (lists_spec (gs := [(⟨g.at_, g.sh, rs1, .slice V1 rs1.length v1, s1⟩ : Gf)]) (rws := rs1) hP (Row.lit (xs := gfV (⟨g.at_, g.sh, rs1, .slice V1 rs1.length v1, s1⟩ : Gf)) rfl (by decide)) hgok (by simp [rowsG]) hok1 (by omega) (rws_bnd hrs1 hb1) (by simp))) ?_; rintro v_ L_ ⟨hv_, hL_⟩; rw [hv_, hL_]; clear hv_ hL_ v_ L_) | (refine SCall.mono (Same_spec (f := g) hP hsb2 hsb3 (by omega) (by omega)) ?_; rintro v_ L_ ⟨hv_, hL_⟩; rw [hv_, hL_]; clear hv_ hL_ v_ L_) | (refine SCall.mono (awake_spec hP S) ?_; rintro v_ L_ ⟨hv_, hL_⟩; rw [hv_, hL_]; clear hv_ hL_ v_ L_) | intro g6 | refine And.intro (by omega) ?_ | refine ⟨_, Cell.at 0 rfl rfl, ?_⟩ | refine ⟨_, Cell.at 1 rfl rfl, ?_⟩ | refine ⟨_, Cell.at 2 rfl rfl, ?_⟩ | refine ⟨_, Cell.at 3 rfl rfl, ?_⟩ | refine ⟨_, Cell.at 4 rfl rfl, ?_⟩ | fail); try (with_reducible refine stI ?_); try simp (maxSteps:=1000000)(dsimp:=false)(disch:=omega) only [go_sem, ia_someH, hP, h10_51, hops]) | fail)
            all_goals
              refine hK13 () _ (some (a2, .cells [.int .i64 g.at_, .slice V2 rs2.length v2, .bool g.sh].toArray 41 (0, 0)) :: some (a1, .cells [.int .i64 g.at_, .slice V1 rs1.length v1, .bool g.sh].toArray 41 (0, 0)) :: some (a3, .cells [.int .i64 g.at_, .slice V3 rs3.length v3, .bool g.sh].toArray 41 (0, 0)) :: s3 :: (rsl rs3 ++ s2 :: (rsl rs2 ++ L))) _ (by first | exact Less.refl _ | exact Less.drop _ _ | exact Less.drops (Less.drop _ _) | exact Less.drops (Less.drops (Less.drop _ _)) | exact Less.drops (Less.drops (Less.drops (Less.drop _ _))) | exact Less.drops (Less.drops (Less.drops (Less.drops (Less.drop _ _))))) ?_
              try dsimp only
              refine ⟨?_, ?_, ?_⟩
              · simp (maxSteps:=1000000)(dsimp:=false)(disch:=omega) only [go_sem, ia_someH, hP, h10_51]
                first | done | rfl | (refine congrArg Value.bool ?_; simp; done)
              · rfl
              · trivial
          · intro ss T11 L11 hI
            obtain ⟨h11_54, hL11, hinv⟩ := hI
            replace hL11 := hL11.symm
            subst hL11
            clear h10_51 T10
            refine RX.done ?_
            simp (maxSteps:=1000000)(dsimp:=false)(disch:=omega) only [go_sem, ia_someH, hP, h11_54, hops]
            refine hK11 _ _ ?_
            try clear hK11 K11
            refine SX.ret ?_
            simp only [andThen_normal, andThen_ret, andThen_exit, inBlk_normal, inBlk_ret, inBlk_exit, Nat.reduceEqDiff, if_true, if_false, ↓reduceIte, retQ_ret]
            try simp only [res0, res1, res2, res3, stK_e, go_sem, ia_someH, hP, h11_54]
            exact ⟨_, _, lessX, rfl, rfl, rfl⟩

end Go.Proofs.YtpakphgeichopaaDoor
set_option linter.unusedVariables false
namespace Go.Proofs.YtpakphgeichopaaDoor
open Go.ChangeShapes Go.WideShapes Go.ChangeAt Go.RowKit Go.SX
/-! What is handed in: rasters, records, frames; the laid variable. -/
theorem own : ownKnob Tryd.prog.godebug = none := by kernel_rfl
theorem laidOut : laidOutB Tryd.prog = true := by kernel_rfl
theorem cells3 : Tryd.prog.cellsOf 3 = 1 := by kernel_rfl
theorem cellsE : Tryd.prog.cellsOf 89 = 2 := by kernel_rfl
theorem cellsS : Tryd.prog.cellsOf 90 = 2 := by kernel_rfl
theorem gSh : Tryd.prog.globalNamed "vesper/pixie.shown" = some 0 := by kernel_rfl
theorem tSh : (Tryd.prog.globals[0]?).map (·.type) = some 90 := by kernel_rfl
theorem shown_of {W : World} {laid : List (String × DataW Unit)} (hp : (laid.all fun x => x.2.handleName?.isNone) = true) (hL : laidMetH Tryd.prog laid W) (hm : ("vesper/pixie.shown", Rows.laid_vesper_pixie_shown) ∈ laid) : SH ⟨Tryd.prog, W, []⟩ := by
  obtain ⟨cs, f, p, h1, h2⟩ := laid_var hp hL hm gSh tSh
  have key := trod_arr_arr (zss := [[80, 207]]) Tryd.underlying90 Tryd.underlying89 Tryd.underlying3 cells3 cellsE cellsS (by intro zs hz; rw [List.mem_singleton.1 hz]; rfl) h1 rfl
  intro L i b hb
  have hi : ([[80, 207]] : List (List Int))[i]? = some [b.1, b.2] := by
    cases i with
    | zero => simp at hb; subst hb; rfl
    | succ i => simp at hb
  constructor
  · refine Cell.old (by simp) ?_
    rw [Addr.add_lit, Nat.zero_add, h2]
    exact key i 0 _ _ hi rfl
  · refine Cell.old (by simp) ?_
    rw [Addr.add_lit, Nat.zero_add, h2]
    exact key i 1 _ _ hi rfl
section
variable {H : Type} {enc : TypeId × Value → H} {W : World} {base : Nat} {v : Value} {d : DataW H} {p : List MemPlace}
/-- Rows of bytes that are handed in. -/
def RowsIn (W : World) (v : Value) (l : List (List Int)) : Prop := SlR (Cell ⟨Tryd.prog, W, []⟩ []) v l ∧ (∀ r ∈ l, Byte r ∧ r.length ≤ 9223372036854775807) ∧ l.length ≤ 9223372036854775807
theorem RowsIn.by_ {rv : Value} {l : List (List Int)} (h : RowsIn W rv l) : ∀ i, i < l.length → ∀ j, j < (l.getD i []).length → 0 ≤ (l.getD i []).getD j 0 ∧ (l.getD i []).getD j 0 ≤ 255 := fun i hi j hj => by
  have hm := (h.2.1 _ (List.mem_of_getElem? (getD_get (d := []) hi))).1
  exact hm _ (List.mem_of_getElem? (getD_get (d := 0) hj))
end
end Go.Proofs.YtpakphgeichopaaDoor
