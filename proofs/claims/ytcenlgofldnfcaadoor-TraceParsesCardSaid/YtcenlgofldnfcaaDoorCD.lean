/- A part of a proof: contracts and plain facts that it stands on. -/
import Derived.Test.YtcenlgofldnfcaaDoorCC
import Derived.Laws.RangeAny
import Derived.Test.YtcenlgofldnfcaaDoorRows
import Derived.Test.YtcenlgofldnfcaaDoorCards
import Derived.Test.YtcenlgofldnfcaaDoorTie
import Derived.SevenTiedAt
import Derived.Lib.SmallJoins
set_option linter.unusedVariables false
set_option linter.unusedSimpArgs false
namespace Go.Proofs.YtcenlgofldnfcaaDoor
open Go.RowKit Go.SX Go.Proofs
open Go.SX renaming ia_someH → Φa

/-! bits.Number, digits, and what strings tells. -/
theorem or16 {a d : Nat} (ha : a < 4294967296) (hd : d < 16) : bits .or .i64 ((a : Int) * 16) (d : Int) = ((a * 16 + d : Nat) : Int) := by
  have := bits_join .i64 62 (by decide) (fun n h1 h2 => w64 (by omega)) 4 ((a : Int) * 16) (d : Int) (by omega) (by omega) (by omega) (by omega) (by omega) (by omega)
  rw [this]
  omega
theorem or16a {a : Nat} {x : Int} (ha : a < 4294967296) (h0 : 0 ≤ x) (hd : x < 16) : bits .or .i64 ((a : Int) * 16) x = (a : Int) * 16 + x := by
  obtain ⟨d, rfl⟩ := Int.eq_ofNat_of_zero_le h0
  rw [or16 ha (by omega)]
  omega
theorem pow24 : (2 : Int) ^ min (4 : Nat) 64 = 16 := rfl
theorem drop_byte {s : ByteArray} {pos : Nat} (h : pos < s.size) : s.data.toList.drop pos = (s[pos]'h) :: s.data.toList.drop (pos + 1) := by
  rw [List.drop_eq_getElem_cons (by rw [Array.length_toList]; exact h), Array.getElem_toList]
  rfl
def HasM (Γ : Ctx) : Prop := 1 ∉ Γ.own ∧ ∃ m, Γ.w0.cell? ⟨1, 0, none⟩ = some (.int .i64 m)
theorem words_length (s : ByteArray) : (words s).length = Lib.countB s sp + 1 := Lib.splitB_all sp (by decide) 0 _ s rfl
theorem Split_spec {Γ : Ctx} (hP : Γ.P = Tryd.prog) (hM : HasM Γ) {L : Hp} {s : ByteArray} (hs : s.size < 4294967281) :
    SCall Γ 52 #[.string s, .string ⟨#[32]⟩] L (fun v L' => ∃ b, v = .slice (some ⟨b, 0, none⟩) (words s).length (words s).length ∧ L' = some (b, .cells ((words s).map Value.string).toArray 9 (0, 0)) :: L) := by
  obtain ⟨ho, m, hm⟩ := hM
  rw [words_length]
  refine SCall.of_alloc fun w hi => ?_
  rw [hP]
  exact Tryd.strings_Split s sp m w hs (Cell.w0 ho hm hi) (by decide)
theorem HasPrefix_spec {Γ : Ctx} (hP : Γ.P = Tryd.prog) {L : Hp} (s p : ByteArray) : SCall Γ 53 #[.string s, .string p] L (fun v L' => v = .bool (preB s p) ∧ L' = L) :=
  SCall.of_calls_eq fun w hi => by rw [hP]; exact Tryd.strings_HasPrefix s p w
theorem Cut_spec {Γ : Ctx} (hP : Γ.P = Tryd.prog) (hM : HasM Γ) {L : Hp} {s : ByteArray} (hs : s.size < 4294967281) :
    SCall Γ 41 #[.string s, .string ⟨#[10]⟩] L (fun v L' => v = .tuple #[.string (cL s), .string (cR s), .bool (Lib.cut s.data.toList [10]).2.2] ∧ L' = L) := by
  obtain ⟨ho, m, hm⟩ := hM
  refine SCall.of_calls fun w hi => ?_
  rw [hP]
  exact Go.Proofs.Tryd.strings_Cut s ⟨#[10]⟩ m w hs (Cell.w0 ho hm hi)
set_option maxHeartbeats 1000000 in
set_option maxRecDepth 100000 in
theorem Number_spec {Γ : Ctx} (hP : Γ.P = Tryd.prog) {L : Hp} (s : ByteArray) :
    SCall Γ 73 #[(.string s)] L (fun v L' => v = numR s ∧ L' = L) := by
  refine SCall.enter (n := 48) (res2 2 3) (hP ▸ Tryd.func73) rfl rfl (by simp) (res2_ok rfl) ?_
  refine SX.seq_k fun K1 hK1 => ?_
  refine SX.region_d [some 2, some 3] rfl (fun ops hops => ?_)
  unfold Dsts at hops
  simp (maxSteps:=1000000)(dsimp:=false)(disch:=omega) only [go_sem, Φa, hP, hops]
  refine hK1 _ _ ?_
  try clear hK1 K1
  refine SX.seq_k fun K2 hK2 => ?_
  refine SX.seq_k fun K3 hK3 => ?_
  refine SX.region_xd [some 7, some 8, some 9, some 10, some 11, some 12, some 13, some 14] rfl (fun ops hops => ?_)
  unfold Dsts at hops
  refine RX.live [0] (fun T1 hT1 => ?_)
  simp only [forall_mem_cons', forall_mem_nil', go_sem, Φa, hP] at hT1
  have h1_0 := hT1; clear hT1
  refine RX.join 8 (fun (ss : Unit) T L' => T 14 = .bool (decide (¬ (1 ≤ s.size ∧ s.size ≤ 8))) ∧ T 0 = T1 0 ∧ L' = L ∧ (True)) (fun K4 hK4 => ?_) ?_
  · simp only [h1_0] at hK4
    simp (maxSteps:=1000000)(dsimp:=false)(disch:=omega) only [go_sem, Φa, hP, h1_0, hops]
    repeat' (first | refine iteB (fun hg => ?_) (fun hg => ?_) | refine iteI (fun hg => ?_) (fun hg => ?_) | ((first | refine And.intro (by omega) ?_ | fail); try (with_reducible refine stI ?_); try simp (maxSteps:=1000000)(dsimp:=false)(disch:=omega) only [go_sem, Φa, hP, h1_0, hops]) | fail)
    all_goals
      refine hK4 () _ (L) _ (by first | exact Less.refl _ | exact Less.drop _ _ | exact Less.drops (Less.drop _ _) | exact Less.drops (Less.drops (Less.drop _ _)) | exact Less.drops (Less.drops (Less.drops (Less.drop _ _))) | exact Less.drops (Less.drops (Less.drops (Less.drops (Less.drop _ _))))) ?_
      try dsimp only
      refine ⟨?_, ?_, ?_, ?_⟩
      · simp (maxSteps:=1000000)(dsimp:=false)(disch:=omega) only [go_sem, Φa, hP, h1_0]
        first | done | exact congrArg _ (decide_eq_decide.2 (by omega)) | exact congrArg _ (decide_eq_true (by omega)).symm | exact congrArg _ (decide_eq_false (by omega)).symm
      · simp (maxSteps:=1000000)(dsimp:=false)(disch:=omega) only [go_sem, Φa, hP, h1_0]
      · rfl
      · trivial
  · intro ss T2 L2 hI
    simp only [h1_0] at hI 
    obtain ⟨h2_14, h2_0, hL2, hinv⟩ := hI
    replace hL2 := hL2.symm
    subst hL2
    clear h1_0 T1
    refine RX.done ?_
    simp (maxSteps:=1000000)(dsimp:=false)(disch:=omega) only [go_sem, Φa, hP, h2_14, h2_0, hops]
    refine hK3 _ _ ?_
    try clear hK3 K3
    refine SX.cond_k fun X5 Y5 hX5 hY5 => ?_
    simp (maxSteps:=1000000)(dsimp:=false)(disch:=omega) only [go_sem, Φa, hP, h2_14, h2_0, condVC]
    refine ⟨fun hc14 => hX5 ?_, fun hc14 => hY5 ?_⟩
    · clear hX5 hY5 X5 Y5
      refine SX.seq_k fun K6 hK6 => ?_
      refine SX.region_d [some 2, some 3] rfl (fun ops hops => ?_)
      unfold Dsts at hops
      simp (maxSteps:=1000000)(dsimp:=false)(disch:=omega) only [go_sem, Φa, hP, h2_14, h2_0, hops]
      refine hK6 _ _ ?_
      try clear hK6 K6
      refine SX.ret ?_
      simp only [andThen_normal, andThen_ret, andThen_exit, inBlk_normal, inBlk_ret, inBlk_exit, Nat.reduceEqDiff, if_true, if_false, ↓reduceIte, retQ_ret]
      try simp only [res0, res1, res2, res3, stK_e, go_sem, Φa, hP, h2_14, h2_0]
      have hn : numS s = none := if_neg (hc14)
      exact ⟨_, L, (by first | exact Less.refl _ | exact Less.drop _ _ | exact Less.drops (Less.drop _ _) | exact Less.drops (Less.drops (Less.drop _ _)) | exact Less.drops (Less.drops (Less.drops (Less.drop _ _))) | exact Less.drops (Less.drops (Less.drops (Less.drops (Less.drop _ _))))), rfl, by unfold numR; rw [hn]; exact ⟨rfl, rfl⟩⟩
    · clear hX5 hY5 X5 Y5
      refine SX.skip ?_
      try simp only [andThen_normal, andThen_ret, andThen_exit, inBlk_normal, inBlk_ret, inBlk_exit, Nat.reduceEqDiff, if_true, if_false, ↓reduceIte]
      refine hK2 _ _ ?_
      try clear hK2 K2
      refine SX.seq_k fun K7 hK7 => ?_
      refine SX.region_d [some 4] rfl (fun ops hops => ?_)
      unfold Dsts at hops
      simp (maxSteps:=1000000)(dsimp:=false)(disch:=omega) only [go_sem, Φa, hP, h2_14, h2_0, hops]
      refine hK7 _ _ ?_
      try clear hK7 K7
      refine SX.seq_k fun K8 hK8 => ?_
      refine SX.seq_k fun K9 hK9 => ?_
      refine SX.region_d [some 15, some 16] rfl (fun ops hops => ?_)
      unfold Dsts at hops
      simp (maxSteps:=1000000)(dsimp:=false)(disch:=omega) only [go_sem, Φa, hP, h2_14, h2_0, hops]
      repeat' ((first | intro g4 | fail); try (with_reducible refine stI ?_); try simp (maxSteps:=1000000)(dsimp:=false)(disch:=omega) only [go_sem, Φa, hP, h2_14, h2_0, hops])
      refine hK9 _ _ ?_
      try clear hK9 K9
      refine SX.block ?_
      have hs8 : 1 ≤ s.size ∧ s.size ≤ 8 := by first | exact hc14 | exact Decidable.not_not.1 hc14 | omega
      refine SX.live [4, 16] (fun T3 hT3 => ?_)
      simp only [forall_mem_cons', forall_mem_nil', go_sem, Φa, hP, h2_14, h2_0] at hT3
      obtain ⟨h3_4, h3_16⟩ := hT3
      clear h2_14 h2_0 T2
      refine SX.loop_k (fun (ss : (Nat) × (Nat)) T L' => (fun (pos : Nat) (n : Nat) => T 4 = .int .i64 (n : Int) ∧ T 16 = T3 16 ∧ L' = some (g4, .stringIter s pos) :: L ∧ (pos ≤ s.size ∧ n < 16 ^ pos ∧ numF s.data.toList 0 = numF (s.data.toList.drop pos) n)) (ss.1) (ss.2)) (fun (ss : (Nat) × (Nat)) => (fun (pos : Nat) (n : Nat) => s.size - pos) (ss.1) (ss.2)) (0, 0) ?_ ?_
      · try dsimp only
        refine ⟨?_, ?_, ?_, ?_⟩
        · first | exact h3_4 | (rw [h3_4]; rfl) | (rw [h3_4]; simp; done)
        · rfl
        · rfl
        · exact ⟨Nat.zero_le _, by decide, rfl⟩
      · intro ss T4 L4 hI K10 hK10
        obtain ⟨pos, n⟩ := ss
        try dsimp only at hI hK10
        simp only [h3_16] at hI hK10
        obtain ⟨h4_4, h4_16, hL4, ⟨hp, hn, he⟩⟩ := hI
        replace hL4 := hL4.symm
        subst hL4
        clear h3_4 h3_16 T3
        refine SX.seq_k fun K11 hK11 => ?_
        refine SX.region_d [some 17, some 18] rfl (fun ops hops => ?_)
        unfold Dsts at hops
        simp (maxSteps:=1000000)(dsimp:=false)(disch:=omega) only [go_sem, Φa, hP, h4_4, h4_16, hops]
        refine ⟨0, _, _, rfl, ?_⟩
        try with_reducible refine stI ?_
        try simp (maxSteps:=1000000)(dsimp:=false)(disch:=omega) only [go_sem, Φa, hP, h4_4, h4_16, hops]
        refine iteI (fun hg => ?_) (fun hg => ?_)
        rcases (by omega : (48 ≤ (s[pos]'hg).toNat ∧ (s[pos]'hg).toNat ≤ 57) ∨ (97 ≤ (s[pos]'hg).toNat ∧ (s[pos]'hg).toNat ≤ 102) ∨ (s[pos]'hg).toNat < 48 ∨ (57 < (s[pos]'hg).toNat ∧ (s[pos]'hg).toNat < 97) ∨ (102 < (s[pos]'hg).toNat ∧ (s[pos]'hg).toNat < 128) ∨ 128 ≤ (s[pos]'hg).toNat) with ha | ha | ha | ha | ha | ha
        · skip
          try with_reducible refine stI ?_
          rw [decode_ascii s pos hg (by omega)]
          try with_reducible refine stI ?_
          try simp (maxSteps:=1000000)(dsimp:=false)(disch:=omega) only [go_sem, Φa, hP, h4_4, h4_16, hops]
          have hn4 : n < 4294967296 := Nat.lt_of_lt_of_le hn (Nat.le_trans (Nat.pow_le_pow_right (by decide) (show pos ≤ 7 by omega)) (by decide))
          refine hK11 _ _ ?_
          try clear hK11 K11
          refine SX.seq_k fun K12 hK12 => ?_
          refine SX.cond_k fun X13 Y13 hX13 hY13 => ?_
          simp (maxSteps:=1000000)(dsimp:=false)(disch:=omega) only [go_sem, Φa, hP, h4_4, h4_16, condVC]
          refine hX13 ?_
          clear hX13 hY13 X13 Y13
          refine SX.skip ?_
          try simp only [andThen_normal, andThen_ret, andThen_exit, inBlk_normal, inBlk_ret, inBlk_exit, Nat.reduceEqDiff, if_true, if_false, ↓reduceIte]
          refine hK12 _ _ ?_
          try clear hK12 K12
          refine SX.block ?_
          refine SX.seq_k fun K14 hK14 => ?_
          refine SX.region_d [some 19, some 6] rfl (fun ops hops => ?_)
          unfold Dsts at hops
          simp (maxSteps:=1000000)(dsimp:=false)(disch:=omega) only [go_sem, Φa, hP, h4_4, h4_16, hops]
          refine hK14 _ _ ?_
          try clear hK14 K14
          refine SX.block ?_
          refine SX.seq_k fun K15 hK15 => ?_
          refine SX.region_d [some 21, some 22, some 23, some 24, some 25, some 26, some 20] rfl (fun ops hops => ?_)
          unfold Dsts at hops
          simp (maxSteps:=1000000)(dsimp:=false)(disch:=omega) only [go_sem, Φa, hP, h4_4, h4_16, hops]
          repeat' ((first | refine And.intro (by omega) ?_ | fail); try (with_reducible refine stI ?_); try simp (maxSteps:=1000000)(dsimp:=false)(disch:=omega) only [go_sem, Φa, hP, h4_4, h4_16, hops])
          refine hK15 _ _ ?_
          try clear hK15 K15
          refine SX.live [4, 6, 16, 20] (fun T5 hT5 => ?_)
          simp only [forall_mem_cons', forall_mem_nil', go_sem, Φa, hP, h4_4, h4_16] at hT5
          obtain ⟨h5_4, h5_6, h5_16, h5_20⟩ := hT5
          clear h4_4 h4_16 T4
          refine SX.cond_k fun X16 Y16 hX16 hY16 => ?_
          simp (maxSteps:=1000000)(dsimp:=false)(disch:=omega) only [go_sem, Φa, hP, h5_4, h5_6, h5_16, h5_20, condVC]
          refine hX16 ?_
          clear hX16 hY16 X16 Y16
          refine SX.region_d [some 27, some 28, some 29, some 30, some 31, some 32, some 4] rfl (fun ops hops => ?_)
          unfold Dsts at hops
          simp (maxSteps:=1000000)(dsimp:=false)(disch:=omega) only [go_sem, Φa, hP, h5_4, h5_6, h5_16, h5_20, hops]
          repeat' ((first | refine And.intro (by omega) ?_ | fail); try (with_reducible refine stI ?_); try simp (maxSteps:=1000000)(dsimp:=false)(disch:=omega) only [go_sem, Φa, hP, h5_4, h5_6, h5_16, h5_20, hops])
          refine hK10 (pos + 1, n * 16 + ((s[pos]'hg).toNat - 48)) _ (some (g4, .stringIter s (pos + 1)) :: L) _ (by first | exact Less.refl _ | exact Less.drop _ _ | exact Less.drops (Less.drop _ _) | exact Less.drops (Less.drops (Less.drop _ _)) | exact Less.drops (Less.drops (Less.drops (Less.drop _ _))) | exact Less.drops (Less.drops (Less.drops (Less.drops (Less.drop _ _))))) ?_ ?_
          · try dsimp only
            refine ⟨?_, ?_, ?_, ?_⟩
            · simp (maxSteps:=1000000)(dsimp:=false)(disch:=omega) only [go_sem, Φa, hP, h5_4, h5_6, h5_16, h5_20]
              rw [pow24, w64 (by omega), or16a hn4 (by omega) (by omega)]; congr 1; omega
            · simp (maxSteps:=1000000)(dsimp:=false)(disch:=omega) only [go_sem, Φa, hP, h5_4, h5_6, h5_16, h5_20]
            · rfl
            · refine ⟨by omega, by rw [Nat.pow_succ]; omega, ?_⟩
              rw [he, drop_byte hg, numF, show hexV (s[pos]'hg).toNat = some ((s[pos]'hg).toNat - 48) from if_pos (by omega)]
          · (try dsimp only); omega
        · skip
          try with_reducible refine stI ?_
          rw [decode_ascii s pos hg (by omega)]
          try with_reducible refine stI ?_
          try simp (maxSteps:=1000000)(dsimp:=false)(disch:=omega) only [go_sem, Φa, hP, h4_4, h4_16, hops]
          have hn4 : n < 4294967296 := Nat.lt_of_lt_of_le hn (Nat.le_trans (Nat.pow_le_pow_right (by decide) (show pos ≤ 7 by omega)) (by decide))
          refine hK11 _ _ ?_
          try clear hK11 K11
          refine SX.seq_k fun K17 hK17 => ?_
          refine SX.cond_k fun X18 Y18 hX18 hY18 => ?_
          simp (maxSteps:=1000000)(dsimp:=false)(disch:=omega) only [go_sem, Φa, hP, h4_4, h4_16, condVC]
          refine hX18 ?_
          clear hX18 hY18 X18 Y18
          refine SX.skip ?_
          try simp only [andThen_normal, andThen_ret, andThen_exit, inBlk_normal, inBlk_ret, inBlk_exit, Nat.reduceEqDiff, if_true, if_false, ↓reduceIte]
          refine hK17 _ _ ?_
          try clear hK17 K17
          refine SX.block ?_
          refine SX.seq_k fun K19 hK19 => ?_
          refine SX.region_d [some 19, some 6] rfl (fun ops hops => ?_)
          unfold Dsts at hops
          simp (maxSteps:=1000000)(dsimp:=false)(disch:=omega) only [go_sem, Φa, hP, h4_4, h4_16, hops]
          refine hK19 _ _ ?_
          try clear hK19 K19
          refine SX.block ?_
          refine SX.seq_k fun K20 hK20 => ?_
          refine SX.region_d [some 21, some 22, some 23, some 24, some 25, some 26, some 20] rfl (fun ops hops => ?_)
          unfold Dsts at hops
          simp (maxSteps:=1000000)(dsimp:=false)(disch:=omega) only [go_sem, Φa, hP, h4_4, h4_16, hops]
          repeat' ((first | refine And.intro (by omega) ?_ | fail); try (with_reducible refine stI ?_); try simp (maxSteps:=1000000)(dsimp:=false)(disch:=omega) only [go_sem, Φa, hP, h4_4, h4_16, hops])
          refine hK20 _ _ ?_
          try clear hK20 K20
          refine SX.live [4, 6, 16, 20] (fun T6 hT6 => ?_)
          simp only [forall_mem_cons', forall_mem_nil', go_sem, Φa, hP, h4_4, h4_16] at hT6
          obtain ⟨h6_4, h6_6, h6_16, h6_20⟩ := hT6
          clear h4_4 h4_16 T4
          refine SX.cond_k fun X21 Y21 hX21 hY21 => ?_
          simp (maxSteps:=1000000)(dsimp:=false)(disch:=omega) only [go_sem, Φa, hP, h6_4, h6_6, h6_16, h6_20, condVC]
          refine hY21 ?_
          clear hX21 hY21 X21 Y21
          refine SX.seq_k fun K22 hK22 => ?_
          refine SX.region_d [some 34, some 35, some 36, some 37, some 38, some 39, some 33] rfl (fun ops hops => ?_)
          unfold Dsts at hops
          simp (maxSteps:=1000000)(dsimp:=false)(disch:=omega) only [go_sem, Φa, hP, h6_4, h6_6, h6_16, h6_20, hops]
          repeat' ((first | refine And.intro (by omega) ?_ | fail); try (with_reducible refine stI ?_); try simp (maxSteps:=1000000)(dsimp:=false)(disch:=omega) only [go_sem, Φa, hP, h6_4, h6_6, h6_16, h6_20, hops])
          refine hK22 _ _ ?_
          try clear hK22 K22
          refine SX.cond_k fun X23 Y23 hX23 hY23 => ?_
          simp (maxSteps:=1000000)(dsimp:=false)(disch:=omega) only [go_sem, Φa, hP, h6_4, h6_6, h6_16, h6_20, condVC]
          refine hX23 ?_
          clear hX23 hY23 X23 Y23
          refine SX.region_d [some 40, some 41, some 42, some 43, some 44, some 45, some 46, some 4] rfl (fun ops hops => ?_)
          unfold Dsts at hops
          simp (maxSteps:=1000000)(dsimp:=false)(disch:=omega) only [go_sem, Φa, hP, h6_4, h6_6, h6_16, h6_20, hops]
          repeat' ((first | refine And.intro (by omega) ?_ | fail); try (with_reducible refine stI ?_); try simp (maxSteps:=1000000)(dsimp:=false)(disch:=omega) only [go_sem, Φa, hP, h6_4, h6_6, h6_16, h6_20, hops])
          refine hK10 (pos + 1, n * 16 + ((s[pos]'hg).toNat - 97 + 10)) _ (some (g4, .stringIter s (pos + 1)) :: L) _ (by first | exact Less.refl _ | exact Less.drop _ _ | exact Less.drops (Less.drop _ _) | exact Less.drops (Less.drops (Less.drop _ _)) | exact Less.drops (Less.drops (Less.drops (Less.drop _ _))) | exact Less.drops (Less.drops (Less.drops (Less.drops (Less.drop _ _))))) ?_ ?_
          · try dsimp only
            refine ⟨?_, ?_, ?_, ?_⟩
            · simp (maxSteps:=1000000)(dsimp:=false)(disch:=omega) only [go_sem, Φa, hP, h6_4, h6_6, h6_16, h6_20]
              rw [pow24, w64 (by omega), or16a hn4 (by omega) (by omega)]; congr 1; omega
            · simp (maxSteps:=1000000)(dsimp:=false)(disch:=omega) only [go_sem, Φa, hP, h6_4, h6_6, h6_16, h6_20]
            · rfl
            · refine ⟨by omega, by rw [Nat.pow_succ]; omega, ?_⟩
              rw [he, drop_byte hg, numF, show hexV (s[pos]'hg).toNat = some ((s[pos]'hg).toNat - 97 + 10) by unfold hexV; rw [if_neg (by omega), if_pos (by omega)]]
          · (try dsimp only); omega
        · skip
          try with_reducible refine stI ?_
          rw [decode_ascii s pos hg (by omega)]
          try with_reducible refine stI ?_
          try simp (maxSteps:=1000000)(dsimp:=false)(disch:=omega) only [go_sem, Φa, hP, h4_4, h4_16, hops]
          have hn4 : n < 4294967296 := Nat.lt_of_lt_of_le hn (Nat.le_trans (Nat.pow_le_pow_right (by decide) (show pos ≤ 7 by omega)) (by decide))
          refine hK11 _ _ ?_
          try clear hK11 K11
          refine SX.seq_k fun K24 hK24 => ?_
          refine SX.cond_k fun X25 Y25 hX25 hY25 => ?_
          simp (maxSteps:=1000000)(dsimp:=false)(disch:=omega) only [go_sem, Φa, hP, h4_4, h4_16, condVC]
          refine hX25 ?_
          clear hX25 hY25 X25 Y25
          refine SX.skip ?_
          try simp only [andThen_normal, andThen_ret, andThen_exit, inBlk_normal, inBlk_ret, inBlk_exit, Nat.reduceEqDiff, if_true, if_false, ↓reduceIte]
          refine hK24 _ _ ?_
          try clear hK24 K24
          refine SX.block ?_
          refine SX.seq_k fun K26 hK26 => ?_
          refine SX.region_d [some 19, some 6] rfl (fun ops hops => ?_)
          unfold Dsts at hops
          simp (maxSteps:=1000000)(dsimp:=false)(disch:=omega) only [go_sem, Φa, hP, h4_4, h4_16, hops]
          refine hK26 _ _ ?_
          try clear hK26 K26
          refine SX.block ?_
          refine SX.seq_k fun K27 hK27 => ?_
          refine SX.region_d [some 21, some 22, some 23, some 24, some 25, some 26, some 20] rfl (fun ops hops => ?_)
          unfold Dsts at hops
          simp (maxSteps:=1000000)(dsimp:=false)(disch:=omega) only [go_sem, Φa, hP, h4_4, h4_16, hops]
          repeat' ((first | refine And.intro (by omega) ?_ | fail); try (with_reducible refine stI ?_); try simp (maxSteps:=1000000)(dsimp:=false)(disch:=omega) only [go_sem, Φa, hP, h4_4, h4_16, hops])
          refine hK27 _ _ ?_
          try clear hK27 K27
          refine SX.live [4, 6, 16, 20] (fun T7 hT7 => ?_)
          simp only [forall_mem_cons', forall_mem_nil', go_sem, Φa, hP, h4_4, h4_16] at hT7
          obtain ⟨h7_4, h7_6, h7_16, h7_20⟩ := hT7
          clear h4_4 h4_16 T4
          refine SX.cond_k fun X28 Y28 hX28 hY28 => ?_
          simp (maxSteps:=1000000)(dsimp:=false)(disch:=omega) only [go_sem, Φa, hP, h7_4, h7_6, h7_16, h7_20, condVC]
          refine hY28 ?_
          clear hX28 hY28 X28 Y28
          refine SX.seq_k fun K29 hK29 => ?_
          refine SX.region_d [some 34, some 35, some 36, some 37, some 38, some 39, some 33] rfl (fun ops hops => ?_)
          unfold Dsts at hops
          simp (maxSteps:=1000000)(dsimp:=false)(disch:=omega) only [go_sem, Φa, hP, h7_4, h7_6, h7_16, h7_20, hops]
          repeat' ((first | refine And.intro (by omega) ?_ | fail); try (with_reducible refine stI ?_); try simp (maxSteps:=1000000)(dsimp:=false)(disch:=omega) only [go_sem, Φa, hP, h7_4, h7_6, h7_16, h7_20, hops])
          refine hK29 _ _ ?_
          try clear hK29 K29
          refine SX.cond_k fun X30 Y30 hX30 hY30 => ?_
          simp (maxSteps:=1000000)(dsimp:=false)(disch:=omega) only [go_sem, Φa, hP, h7_4, h7_6, h7_16, h7_20, condVC]
          refine hY30 ?_
          clear hX30 hY30 X30 Y30
          refine SX.seq_k fun K31 hK31 => ?_
          refine SX.region_d [some 2, some 3] rfl (fun ops hops => ?_)
          unfold Dsts at hops
          simp (maxSteps:=1000000)(dsimp:=false)(disch:=omega) only [go_sem, Φa, hP, h7_4, h7_6, h7_16, h7_20, hops]
          refine hK31 _ _ ?_
          try clear hK31 K31
          refine SX.ret ?_
          simp only [andThen_normal, andThen_ret, andThen_exit, inBlk_normal, inBlk_ret, inBlk_exit, Nat.reduceEqDiff, if_true, if_false, ↓reduceIte, retQ_ret]
          try simp only [res0, res1, res2, res3, stK_e, go_sem, Φa, hP, h7_4, h7_6, h7_16, h7_20]
          have hn0 : numS s = none := by
            unfold numS; rw [if_pos hs8, he, drop_byte hg, numF, show hexV (s[pos]'hg).toNat = none by unfold hexV; rw [if_neg (by omega), if_neg (by omega)]]
          exact ⟨_, L, (by first | exact Less.refl _ | exact Less.drop _ _ | exact Less.drops (Less.drop _ _) | exact Less.drops (Less.drops (Less.drop _ _)) | exact Less.drops (Less.drops (Less.drops (Less.drop _ _))) | exact Less.drops (Less.drops (Less.drops (Less.drops (Less.drop _ _))))), rfl, by unfold numR; rw [hn0]; exact ⟨rfl, rfl⟩⟩
        · skip
          try with_reducible refine stI ?_
          rw [decode_ascii s pos hg (by omega)]
          try with_reducible refine stI ?_
          try simp (maxSteps:=1000000)(dsimp:=false)(disch:=omega) only [go_sem, Φa, hP, h4_4, h4_16, hops]
          have hn4 : n < 4294967296 := Nat.lt_of_lt_of_le hn (Nat.le_trans (Nat.pow_le_pow_right (by decide) (show pos ≤ 7 by omega)) (by decide))
          refine hK11 _ _ ?_
          try clear hK11 K11
          refine SX.seq_k fun K32 hK32 => ?_
          refine SX.cond_k fun X33 Y33 hX33 hY33 => ?_
          simp (maxSteps:=1000000)(dsimp:=false)(disch:=omega) only [go_sem, Φa, hP, h4_4, h4_16, condVC]
          refine hX33 ?_
          clear hX33 hY33 X33 Y33
          refine SX.skip ?_
          try simp only [andThen_normal, andThen_ret, andThen_exit, inBlk_normal, inBlk_ret, inBlk_exit, Nat.reduceEqDiff, if_true, if_false, ↓reduceIte]
          refine hK32 _ _ ?_
          try clear hK32 K32
          refine SX.block ?_
          refine SX.seq_k fun K34 hK34 => ?_
          refine SX.region_d [some 19, some 6] rfl (fun ops hops => ?_)
          unfold Dsts at hops
          simp (maxSteps:=1000000)(dsimp:=false)(disch:=omega) only [go_sem, Φa, hP, h4_4, h4_16, hops]
          refine hK34 _ _ ?_
          try clear hK34 K34
          refine SX.block ?_
          refine SX.seq_k fun K35 hK35 => ?_
          refine SX.region_d [some 21, some 22, some 23, some 24, some 25, some 26, some 20] rfl (fun ops hops => ?_)
          unfold Dsts at hops
          simp (maxSteps:=1000000)(dsimp:=false)(disch:=omega) only [go_sem, Φa, hP, h4_4, h4_16, hops]
          repeat' ((first | refine And.intro (by omega) ?_ | fail); try (with_reducible refine stI ?_); try simp (maxSteps:=1000000)(dsimp:=false)(disch:=omega) only [go_sem, Φa, hP, h4_4, h4_16, hops])
          refine hK35 _ _ ?_
          try clear hK35 K35
          refine SX.live [4, 6, 16, 20] (fun T8 hT8 => ?_)
          simp only [forall_mem_cons', forall_mem_nil', go_sem, Φa, hP, h4_4, h4_16] at hT8
          obtain ⟨h8_4, h8_6, h8_16, h8_20⟩ := hT8
          clear h4_4 h4_16 T4
          refine SX.cond_k fun X36 Y36 hX36 hY36 => ?_
          simp (maxSteps:=1000000)(dsimp:=false)(disch:=omega) only [go_sem, Φa, hP, h8_4, h8_6, h8_16, h8_20, condVC]
          refine hY36 ?_
          clear hX36 hY36 X36 Y36
          refine SX.seq_k fun K37 hK37 => ?_
          refine SX.region_d [some 34, some 35, some 36, some 37, some 38, some 39, some 33] rfl (fun ops hops => ?_)
          unfold Dsts at hops
          simp (maxSteps:=1000000)(dsimp:=false)(disch:=omega) only [go_sem, Φa, hP, h8_4, h8_6, h8_16, h8_20, hops]
          repeat' ((first | refine And.intro (by omega) ?_ | fail); try (with_reducible refine stI ?_); try simp (maxSteps:=1000000)(dsimp:=false)(disch:=omega) only [go_sem, Φa, hP, h8_4, h8_6, h8_16, h8_20, hops])
          refine hK37 _ _ ?_
          try clear hK37 K37
          refine SX.cond_k fun X38 Y38 hX38 hY38 => ?_
          simp (maxSteps:=1000000)(dsimp:=false)(disch:=omega) only [go_sem, Φa, hP, h8_4, h8_6, h8_16, h8_20, condVC]
          refine hY38 ?_
          clear hX38 hY38 X38 Y38
          refine SX.seq_k fun K39 hK39 => ?_
          refine SX.region_d [some 2, some 3] rfl (fun ops hops => ?_)
          unfold Dsts at hops
          simp (maxSteps:=1000000)(dsimp:=false)(disch:=omega) only [go_sem, Φa, hP, h8_4, h8_6, h8_16, h8_20, hops]
          refine hK39 _ _ ?_
          try clear hK39 K39
          refine SX.ret ?_
          simp only [andThen_normal, andThen_ret, andThen_exit, inBlk_normal, inBlk_ret, inBlk_exit, Nat.reduceEqDiff, if_true, if_false, ↓reduceIte, retQ_ret]
          try simp only [res0, res1, res2, res3, stK_e, go_sem, Φa, hP, h8_4, h8_6, h8_16, h8_20]
          have hn0 : numS s = none := by
            unfold numS; rw [if_pos hs8, he, drop_byte hg, numF, show hexV (s[pos]'hg).toNat = none by unfold hexV; rw [if_neg (by omega), if_neg (by omega)]]
          exact ⟨_, L, (by first | exact Less.refl _ | exact Less.drop _ _ | exact Less.drops (Less.drop _ _) | exact Less.drops (Less.drops (Less.drop _ _)) | exact Less.drops (Less.drops (Less.drops (Less.drop _ _))) | exact Less.drops (Less.drops (Less.drops (Less.drops (Less.drop _ _))))), rfl, by unfold numR; rw [hn0]; exact ⟨rfl, rfl⟩⟩
        · skip
          try with_reducible refine stI ?_
          rw [decode_ascii s pos hg (by omega)]
          try with_reducible refine stI ?_
          try simp (maxSteps:=1000000)(dsimp:=false)(disch:=omega) only [go_sem, Φa, hP, h4_4, h4_16, hops]
          have hn4 : n < 4294967296 := Nat.lt_of_lt_of_le hn (Nat.le_trans (Nat.pow_le_pow_right (by decide) (show pos ≤ 7 by omega)) (by decide))
          refine hK11 _ _ ?_
          try clear hK11 K11
          refine SX.seq_k fun K40 hK40 => ?_
          refine SX.cond_k fun X41 Y41 hX41 hY41 => ?_
          simp (maxSteps:=1000000)(dsimp:=false)(disch:=omega) only [go_sem, Φa, hP, h4_4, h4_16, condVC]
          refine hX41 ?_
          clear hX41 hY41 X41 Y41
          refine SX.skip ?_
          try simp only [andThen_normal, andThen_ret, andThen_exit, inBlk_normal, inBlk_ret, inBlk_exit, Nat.reduceEqDiff, if_true, if_false, ↓reduceIte]
          refine hK40 _ _ ?_
          try clear hK40 K40
          refine SX.block ?_
          refine SX.seq_k fun K42 hK42 => ?_
          refine SX.region_d [some 19, some 6] rfl (fun ops hops => ?_)
          unfold Dsts at hops
          simp (maxSteps:=1000000)(dsimp:=false)(disch:=omega) only [go_sem, Φa, hP, h4_4, h4_16, hops]
          refine hK42 _ _ ?_
          try clear hK42 K42
          refine SX.block ?_
          refine SX.seq_k fun K43 hK43 => ?_
          refine SX.region_d [some 21, some 22, some 23, some 24, some 25, some 26, some 20] rfl (fun ops hops => ?_)
          unfold Dsts at hops
          simp (maxSteps:=1000000)(dsimp:=false)(disch:=omega) only [go_sem, Φa, hP, h4_4, h4_16, hops]
          repeat' ((first | refine And.intro (by omega) ?_ | fail); try (with_reducible refine stI ?_); try simp (maxSteps:=1000000)(dsimp:=false)(disch:=omega) only [go_sem, Φa, hP, h4_4, h4_16, hops])
          refine hK43 _ _ ?_
          try clear hK43 K43
          refine SX.live [4, 6, 16, 20] (fun T9 hT9 => ?_)
          simp only [forall_mem_cons', forall_mem_nil', go_sem, Φa, hP, h4_4, h4_16] at hT9
          obtain ⟨h9_4, h9_6, h9_16, h9_20⟩ := hT9
          clear h4_4 h4_16 T4
          refine SX.cond_k fun X44 Y44 hX44 hY44 => ?_
          simp (maxSteps:=1000000)(dsimp:=false)(disch:=omega) only [go_sem, Φa, hP, h9_4, h9_6, h9_16, h9_20, condVC]
          refine hY44 ?_
          clear hX44 hY44 X44 Y44
          refine SX.seq_k fun K45 hK45 => ?_
          refine SX.region_d [some 34, some 35, some 36, some 37, some 38, some 39, some 33] rfl (fun ops hops => ?_)
          unfold Dsts at hops
          simp (maxSteps:=1000000)(dsimp:=false)(disch:=omega) only [go_sem, Φa, hP, h9_4, h9_6, h9_16, h9_20, hops]
          repeat' ((first | refine And.intro (by omega) ?_ | fail); try (with_reducible refine stI ?_); try simp (maxSteps:=1000000)(dsimp:=false)(disch:=omega) only [go_sem, Φa, hP, h9_4, h9_6, h9_16, h9_20, hops])
          refine hK45 _ _ ?_
          try clear hK45 K45
          refine SX.cond_k fun X46 Y46 hX46 hY46 => ?_
          simp (maxSteps:=1000000)(dsimp:=false)(disch:=omega) only [go_sem, Φa, hP, h9_4, h9_6, h9_16, h9_20, condVC]
          refine hY46 ?_
          clear hX46 hY46 X46 Y46
          refine SX.seq_k fun K47 hK47 => ?_
          refine SX.region_d [some 2, some 3] rfl (fun ops hops => ?_)
          unfold Dsts at hops
          simp (maxSteps:=1000000)(dsimp:=false)(disch:=omega) only [go_sem, Φa, hP, h9_4, h9_6, h9_16, h9_20, hops]
          refine hK47 _ _ ?_
          try clear hK47 K47
          refine SX.ret ?_
          simp only [andThen_normal, andThen_ret, andThen_exit, inBlk_normal, inBlk_ret, inBlk_exit, Nat.reduceEqDiff, if_true, if_false, ↓reduceIte, retQ_ret]
          try simp only [res0, res1, res2, res3, stK_e, go_sem, Φa, hP, h9_4, h9_6, h9_16, h9_20]
          have hn0 : numS s = none := by
            unfold numS; rw [if_pos hs8, he, drop_byte hg, numF, show hexV (s[pos]'hg).toNat = none by unfold hexV; rw [if_neg (by omega), if_neg (by omega)]]
          exact ⟨_, L, (by first | exact Less.refl _ | exact Less.drop _ _ | exact Less.drops (Less.drop _ _) | exact Less.drops (Less.drops (Less.drop _ _)) | exact Less.drops (Less.drops (Less.drops (Less.drop _ _))) | exact Less.drops (Less.drops (Less.drops (Less.drops (Less.drop _ _))))), rfl, by unfold numR; rw [hn0]; exact ⟨rfl, rfl⟩⟩
        · skip
          try with_reducible refine stI ?_
          have hdh := (decode_high s pos hg ha).1
          have hdl := decode_le s pos
          generalize Utf8.decode s pos = q at hdh hdl
          obtain ⟨c, wd⟩ := q
          dsimp only at hdh hdl
          try with_reducible refine stI ?_
          try simp (maxSteps:=1000000)(dsimp:=false)(disch:=omega) only [go_sem, Φa, hP, h4_4, h4_16, hops]
          refine hK11 _ _ ?_
          try clear hK11 K11
          refine SX.seq_k fun K48 hK48 => ?_
          refine SX.cond_k fun X49 Y49 hX49 hY49 => ?_
          simp (maxSteps:=1000000)(dsimp:=false)(disch:=omega) only [go_sem, Φa, hP, h4_4, h4_16, condVC]
          refine hX49 ?_
          clear hX49 hY49 X49 Y49
          refine SX.skip ?_
          try simp only [andThen_normal, andThen_ret, andThen_exit, inBlk_normal, inBlk_ret, inBlk_exit, Nat.reduceEqDiff, if_true, if_false, ↓reduceIte]
          refine hK48 _ _ ?_
          try clear hK48 K48
          refine SX.block ?_
          refine SX.seq_k fun K50 hK50 => ?_
          refine SX.region_d [some 19, some 6] rfl (fun ops hops => ?_)
          unfold Dsts at hops
          simp (maxSteps:=1000000)(dsimp:=false)(disch:=omega) only [go_sem, Φa, hP, h4_4, h4_16, hops]
          refine hK50 _ _ ?_
          try clear hK50 K50
          refine SX.block ?_
          refine SX.seq_k fun K51 hK51 => ?_
          refine SX.region_d [some 21, some 22, some 23, some 24, some 25, some 26, some 20] rfl (fun ops hops => ?_)
          unfold Dsts at hops
          simp (maxSteps:=1000000)(dsimp:=false)(disch:=omega) only [go_sem, Φa, hP, h4_4, h4_16, hops]
          repeat' ((first | refine And.intro (by omega) ?_ | fail); try (with_reducible refine stI ?_); try simp (maxSteps:=1000000)(dsimp:=false)(disch:=omega) only [go_sem, Φa, hP, h4_4, h4_16, hops])
          refine hK51 _ _ ?_
          try clear hK51 K51
          refine SX.live [4, 6, 16, 20] (fun T10 hT10 => ?_)
          simp only [forall_mem_cons', forall_mem_nil', go_sem, Φa, hP, h4_4, h4_16] at hT10
          obtain ⟨h10_4, h10_6, h10_16, h10_20⟩ := hT10
          clear h4_4 h4_16 T4
          refine SX.cond_k fun X52 Y52 hX52 hY52 => ?_
          simp (maxSteps:=1000000)(dsimp:=false)(disch:=omega) only [go_sem, Φa, hP, h10_4, h10_6, h10_16, h10_20, condVC]
          refine hY52 ?_
          clear hX52 hY52 X52 Y52
          refine SX.seq_k fun K53 hK53 => ?_
          refine SX.region_d [some 34, some 35, some 36, some 37, some 38, some 39, some 33] rfl (fun ops hops => ?_)
          unfold Dsts at hops
          simp (maxSteps:=1000000)(dsimp:=false)(disch:=omega) only [go_sem, Φa, hP, h10_4, h10_6, h10_16, h10_20, hops]
          repeat' ((first | refine And.intro (by omega) ?_ | fail); try (with_reducible refine stI ?_); try simp (maxSteps:=1000000)(dsimp:=false)(disch:=omega) only [go_sem, Φa, hP, h10_4, h10_6, h10_16, h10_20, hops])
          refine hK53 _ _ ?_
          try clear hK53 K53
          refine SX.cond_k fun X54 Y54 hX54 hY54 => ?_
          simp (maxSteps:=1000000)(dsimp:=false)(disch:=omega) only [go_sem, Φa, hP, h10_4, h10_6, h10_16, h10_20, condVC]
          refine hY54 ?_
          clear hX54 hY54 X54 Y54
          refine SX.seq_k fun K55 hK55 => ?_
          refine SX.region_d [some 2, some 3] rfl (fun ops hops => ?_)
          unfold Dsts at hops
          simp (maxSteps:=1000000)(dsimp:=false)(disch:=omega) only [go_sem, Φa, hP, h10_4, h10_6, h10_16, h10_20, hops]
          refine hK55 _ _ ?_
          try clear hK55 K55
          refine SX.ret ?_
          simp only [andThen_normal, andThen_ret, andThen_exit, inBlk_normal, inBlk_ret, inBlk_exit, Nat.reduceEqDiff, if_true, if_false, ↓reduceIte, retQ_ret]
          try simp only [res0, res1, res2, res3, stK_e, go_sem, Φa, hP, h10_4, h10_6, h10_16, h10_20]
          have hn0 : numS s = none := by
            unfold numS; rw [if_pos hs8, he, drop_byte hg, numF, show hexV (s[pos]'hg).toNat = none by unfold hexV; rw [if_neg (by omega), if_neg (by omega)]]
          exact ⟨_, L, (by first | exact Less.refl _ | exact Less.drop _ _ | exact Less.drops (Less.drop _ _) | exact Less.drops (Less.drops (Less.drop _ _)) | exact Less.drops (Less.drops (Less.drops (Less.drop _ _))) | exact Less.drops (Less.drops (Less.drops (Less.drops (Less.drop _ _))))), rfl, by unfold numR; rw [hn0]; exact ⟨rfl, rfl⟩⟩
        · skip
          try with_reducible refine stI ?_
          try with_reducible refine stI ?_
          try simp (maxSteps:=1000000)(dsimp:=false)(disch:=omega) only [go_sem, Φa, hP, h4_4, h4_16, hops]
          refine hK11 _ _ ?_
          try clear hK11 K11
          refine SX.seq_k fun K56 hK56 => ?_
          refine SX.cond_k fun X57 Y57 hX57 hY57 => ?_
          simp (maxSteps:=1000000)(dsimp:=false)(disch:=omega) only [go_sem, Φa, hP, h4_4, h4_16, condVC]
          refine hY57 ?_
          clear hX57 hY57 X57 Y57
          refine SX.exit ?_
          try simp only [andThen_normal, andThen_ret, andThen_exit, inBlk_normal, inBlk_ret, inBlk_exit, Nat.reduceEqDiff, if_true, if_false, ↓reduceIte]
          refine hK8 _ _ ?_
          try clear hK8 K8
          refine SX.seq_k fun K58 hK58 => ?_
          refine SX.region_d [some 47, some 2, some 3] rfl (fun ops hops => ?_)
          unfold Dsts at hops
          simp (maxSteps:=1000000)(dsimp:=false)(disch:=omega) only [go_sem, Φa, hP, h4_4, h4_16, hops]
          refine hK58 _ _ ?_
          try clear hK58 K58
          refine SX.ret ?_
          simp only [andThen_normal, andThen_ret, andThen_exit, inBlk_normal, inBlk_ret, inBlk_exit, Nat.reduceEqDiff, if_true, if_false, ↓reduceIte, retQ_ret]
          try simp only [res0, res1, res2, res3, stK_e, go_sem, Φa, hP, h4_4, h4_16]
          have hn0 : numS s = some n := by
            unfold numS; rw [if_pos hs8, he, List.drop_eq_nil_of_le (by rw [Array.length_toList]; exact Nat.le_of_not_lt hg), numF]
          exact ⟨_, L, (by first | exact Less.refl _ | exact Less.drop _ _ | exact Less.drops (Less.drop _ _) | exact Less.drops (Less.drops (Less.drop _ _)) | exact Less.drops (Less.drops (Less.drops (Less.drop _ _))) | exact Less.drops (Less.drops (Less.drops (Less.drops (Less.drop _ _))))), rfl, by unfold numR; rw [hn0]; exact ⟨rfl, rfl⟩⟩
set_option maxHeartbeats 1000000 in
set_option maxRecDepth 100000 in
theorem digits_spec {Γ : Ctx} (hP : Γ.P = Tryd.prog) {L : Hp} (s : ByteArray) :
    SCall Γ 54 #[(.string s)] L (fun v L' => v = .int .i64 (digW s) ∧ L' = L) := by
  refine SCall.enter (n := 13) (res1 2) (hP ▸ Tryd.func54) rfl rfl (by simp) (res1_ok rfl) ?_
  refine SX.seq_k fun K1 hK1 => ?_
  refine SX.region_d [some 2] rfl (fun ops hops => ?_)
  unfold Dsts at hops
  simp (maxSteps:=1000000)(dsimp:=false)(disch:=omega) only [go_sem, Φa, hP, hops]
  refine hK1 _ _ ?_
  try clear hK1 K1
  refine SX.seq_k fun K2 hK2 => ?_
  refine SX.region_d [some 6, some 7, some 5, some 8, some 9, some 3, some 4] rfl (fun ops hops => ?_)
  unfold Dsts at hops
  simp (maxSteps:=1000000)(dsimp:=false)(disch:=omega) only [go_sem, Φa, hP, hops]
  refine SCall.mono (Number_spec hP s) ?_
  rintro v_ L_ ⟨rfl, rfl⟩
  unfold numR
  try with_reducible refine stI ?_
  try simp (maxSteps:=1000000)(dsimp:=false)(disch:=omega) only [go_sem, Φa, hP, hops]
  refine hK2 _ _ ?_
  try clear hK2 K2
  refine SX.seq_k fun K3 hK3 => ?_
  refine SX.seq_k fun K4 hK4 => ?_
  refine SX.region_d [some 10, some 11] rfl (fun ops hops => ?_)
  unfold Dsts at hops
  simp (maxSteps:=1000000)(dsimp:=false)(disch:=omega) only [go_sem, Φa, hP, hops]
  repeat' ((first | refine And.intro (by omega) ?_ | fail); try (with_reducible refine stI ?_); try simp (maxSteps:=1000000)(dsimp:=false)(disch:=omega) only [go_sem, Φa, hP, hops])
  refine hK4 _ _ ?_
  try clear hK4 K4
  refine SX.live [3, 11] (fun T1 hT1 => ?_)
  simp only [forall_mem_cons', forall_mem_nil', go_sem, Φa, hP] at hT1
  obtain ⟨h1_3, h1_11⟩ := hT1
  refine SX.cond_k fun X5 Y5 hX5 hY5 => ?_
  simp (maxSteps:=1000000)(dsimp:=false)(disch:=omega) only [go_sem, Φa, hP, h1_3, h1_11, condVC]
  refine ⟨fun hc11 => hX5 ?_, fun hc11 => hY5 ?_⟩
  · clear hX5 hY5 X5 Y5
    refine SX.seq_k fun K6 hK6 => ?_
    refine SX.region_d [some 2] rfl (fun ops hops => ?_)
    unfold Dsts at hops
    simp (maxSteps:=1000000)(dsimp:=false)(disch:=omega) only [go_sem, Φa, hP, h1_3, h1_11, hops]
    refine hK6 _ _ ?_
    try clear hK6 K6
    refine SX.ret ?_
    simp only [andThen_normal, andThen_ret, andThen_exit, inBlk_normal, inBlk_ret, inBlk_exit, Nat.reduceEqDiff, if_true, if_false, ↓reduceIte, retQ_ret]
    try simp only [res0, res1, res2, res3, stK_e, go_sem, Φa, hP, h1_3, h1_11]
    have hn : numS s = none := by
      cases h : numS s with
      | none => rfl
      | some n => exact absurd hc11 (by simp [h])
    exact ⟨_, _, Less.refl _, rfl, by unfold digW; rw [hn], rfl⟩
  · clear hX5 hY5 X5 Y5
    refine SX.skip ?_
    try simp only [andThen_normal, andThen_ret, andThen_exit, inBlk_normal, inBlk_ret, inBlk_exit, Nat.reduceEqDiff, if_true, if_false, ↓reduceIte]
    refine hK3 _ _ ?_
    try clear hK3 K3
    refine SX.seq_k fun K7 hK7 => ?_
    refine SX.region_d [some 12, some 2] rfl (fun ops hops => ?_)
    unfold Dsts at hops
    simp (maxSteps:=1000000)(dsimp:=false)(disch:=omega) only [go_sem, Φa, hP, h1_3, h1_11, hops]
    refine hK7 _ _ ?_
    try clear hK7 K7
    refine SX.ret ?_
    simp only [andThen_normal, andThen_ret, andThen_exit, inBlk_normal, inBlk_ret, inBlk_exit, Nat.reduceEqDiff, if_true, if_false, ↓reduceIte, retQ_ret]
    try simp only [res0, res1, res2, res3, stK_e, go_sem, Φa, hP, h1_3, h1_11]
    obtain ⟨n, hn⟩ : ∃ n, numS s = some n := by
      cases h : numS s with
      | none => exact absurd hc11 (by simp [h])
      | some n => exact ⟨n, rfl⟩
    exact ⟨_, _, Less.refl _, rfl, by unfold digW; rw [hn]; rfl, rfl⟩

end Go.Proofs.YtcenlgofldnfcaaDoor
set_option linter.unusedVariables false
set_option linter.unusedSimpArgs false
namespace Go.Proofs.YtcenlgofldnfcaaDoor
open Go.RowKit Go.SX Go.Proofs
open Go.SX renaming ia_someH → Φa

/-! read: a record out of a line. -/
theorem cutA_lt {b m l : Nat} (h : l < m) : cutA (some ⟨b, 0, none⟩) 1 m l = some ⟨b, l, none⟩ := by
  unfold cutA
  rw [if_neg (by omega)]
  simp [Addr.add_lit]
theorem word_cell {ws : List ByteArray} {i : Nat} (h : i < ws.length) : (ws.map Value.string)[i]? = some (.string (ws.getD i eB)) := by
  rw [List.getElem?_map, List.getD_eq_getElem?_getD, List.getElem?_eq_getElem h]
  rfl
theorem pre_size {w : ByteArray} {y : UInt8} (h : preB w ⟨#[y]⟩ = true) : 1 ≤ w.size := by
  unfold preB Lib.hasPrefix at h
  exact (List.isPrefixOf_iff_prefix.1 h).length_le
def rdT (s : ByteArray) (j : Nat) : Rc := (((words s).drop 3).take j).foldl stW (rd0 (words s))
theorem rdT_succ {s : ByteArray} {j : Nat} (h : j < (words s).length - 3) : rdT s (j + 1) = stW (rdT s j) ((words s).getD (3 + j) eB) := by
  have e : ((words s).drop 3)[j]? = some ((words s).getD (3 + j) eB) := by
    rw [List.getElem?_drop, List.getD_eq_getElem?_getD, List.getElem?_eq_getElem (by omega)]
    rfl
  unfold rdT
  rw [List.take_add_one, e]
  simp only [Option.toList_some, List.foldl_append, List.foldl_cons, List.foldl_nil]
theorem rdT_all (s : ByteArray) : rdT s ((words s).length - 3) = rdP s := by
  unfold rdT rdP
  rw [List.take_of_length_le (by rw [List.length_drop]; exact Nat.le_refl _)]
theorem swW_md (r : Rc) (w : ByteArray) : (swW r w).md = r.md := by
  unfold swW
  split
  · rfl
  · split
    · rfl
    · split
      · rfl
      · split <;> rfl
theorem set_rd {r : Rc} (b : Bool) : r.cells.set 3 (.bool b) = Rc.cells { r with rd := b } := rfl
theorem set_wr {r : Rc} (b : Bool) : r.cells.set 4 (.bool b) = Rc.cells { r with wr := b } := rfl
theorem set_q {r : Rc} (b : Bool) : r.cells.set 6 (.bool b) = Rc.cells { r with q := b } := rfl
theorem set_port {r : Rc} (x : Int) : r.cells.set 5 (.int .u8 x) = Rc.cells { r with port := x } := rfl
theorem set_md {r : Rc} (x : Int) : r.cells.set 7 (.int .u8 x) = Rc.cells { r with md := x } := rfl
theorem mdIdx {k : Nat} (h : k < 4) : ([Value.string (mdL.getD 0 ⟨#[]⟩), Value.string (mdL.getD 1 ⟨#[]⟩), Value.string (mdL.getD 2 ⟨#[]⟩), Value.string (mdL.getD 3 ⟨#[]⟩)] : List Value)[k]? = some (.string (mdL.getD k eB)) := by
  match k, h with
  | 0, _ => rfl
  | 1, _ => rfl
  | 2, _ => rfl
  | 3, _ => rfl
theorem words_le (s : ByteArray) : (words s).length ≤ s.size + 1 := by
  have := Lib.countB_le sp (by decide) s.size s (Nat.le_refl _)
  rw [words_length]
  omega
theorem lessR5 {a : Slot} {R : Hp} : Less (a :: R) [a] := Less.sublist (.cons_cons _ (List.nil_sublist _))
theorem read_no {s : ByteArray} (h : ¬ (3 ≤ (words s).length ∧ preB ((words s).getD 0 eB) ⟨#[115]⟩ = true)) : readP s = (zRc, false) := if_neg h
theorem read_go {s : ByteArray} (h1 : 3 ≤ (words s).length) (h2 : preB ((words s).getD 0 eB) ⟨#[115]⟩ = true) : readP s = (rdP s, mayB (rdP s) && decide (lineS (rdP s) = s)) := if_pos ⟨h1, h2⟩
set_option maxHeartbeats 1000000 in
set_option maxRecDepth 100000 in
theorem read_spec {Γ : Ctx} (hP : Γ.P = Tryd.prog) {L : Hp} {s : ByteArray} (hMD : MD Γ) (hM : HasM Γ) (hs : s.size ≤ 65536) :
    SCall Γ 42 #[(.string s)] L (fun v L' => v = .tuple #[.agg (readP s).1.cells.toArray, .bool (readP s).2] ∧ L' = L) := by
  have hwl := words_le s
  refine SCall.enter (n := 93) (resX Γ [.cell 2 46, .tmp 3]) (hP ▸ Tryd.func42) rfl rfl (by simp) (resX_ok rfl) ?_
  refine SX.seq_k fun K1 hK1 => ?_
  refine SX.region_d [some 2, some 3] rfl (fun ops hops => ?_)
  unfold Dsts at hops
  simp (maxSteps:=1000000)(dsimp:=false)(disch:=omega) only [go_sem, Φa, hP, hops]
  intro b2
  try with_reducible refine stI ?_
  try simp (maxSteps:=1000000)(dsimp:=false)(disch:=omega) only [go_sem, Φa, hP, hops]
  refine hK1 _ _ ?_
  try clear hK1 K1
  refine SX.seq_k fun K2 hK2 => ?_
  refine SX.region_d [some 10, some 11, some 4] rfl (fun ops hops => ?_)
  unfold Dsts at hops
  simp (maxSteps:=1000000)(dsimp:=false)(disch:=omega) only [go_sem, Φa, hP, hops]
  refine SCall.mono (Split_spec hP hM (s := s) (by omega)) ?_
  rintro v_ L_ ⟨gs, rfl, rfl⟩
  try with_reducible refine stI ?_
  try simp (maxSteps:=1000000)(dsimp:=false)(disch:=omega) only [go_sem, Φa, hP, hops]
  refine hK2 _ _ ?_
  try clear hK2 K2
  refine SX.seq_k fun K3 hK3 => ?_
  refine SX.seq_k fun K4 hK4 => ?_
  refine SX.region_xd [some 12, some 13, some 14, some 15, some 16, some 17, some 18, some 19, some 20, some 21] rfl (fun ops hops => ?_)
  unfold Dsts at hops
  refine RX.live [0, 2, 4] (fun T1 hT1 => ?_)
  simp only [forall_mem_cons', forall_mem_nil', go_sem, Φa, hP] at hT1
  obtain ⟨h1_0, h1_2, h1_4⟩ := hT1
  refine RX.join 10 (fun (ss : Unit) T L' => T 21 = .bool (decide ((words s).length < 3) || !preB ((words s).getD 0 eB) ⟨#[115]⟩) ∧ T 0 = T1 0 ∧ T 2 = T1 2 ∧ T 4 = T1 4 ∧ L' = some (gs, .cells ((words s).map Value.string).toArray 9 (0, 0)) :: some (b2, .cells #[.int .u8 0, .int .u16 0, .int .u8 0, .bool false, .bool false, .int .u8 0, .bool false, .int .u8 0] 46 (0, 0)) :: L ∧ (True)) (fun K5 hK5 => ?_) ?_
  · simp only [h1_0, h1_2, h1_4] at hK5
    simp (maxSteps:=1000000)(dsimp:=false)(disch:=omega) only [go_sem, Φa, hP, h1_0, h1_2, h1_4, hops]
    repeat' (first | refine iteB (fun hg => ?_) (fun hg => ?_) | refine iteI (fun hg => ?_) (fun hg => ?_) | ((first | refine ⟨_, Cell.at 0 rfl (word_cell (by omega)), ?_⟩ | (refine SCall.mono (HasPrefix_spec hP _ _) ?_; rintro v_ L_ ⟨rfl, rfl⟩) | refine ⟨_, HasPrefix_spec hP _ _, ?_⟩ | refine ⟨_, fun L0 hl0 => HasPrefix_spec hP _ _, ?_⟩ | refine And.intro (by omega) ?_ | refine ⟨_, Cell.at 0 rfl rfl, ?_⟩ | refine ⟨_, Cell.at 1 rfl rfl, ?_⟩ | fail); try (with_reducible refine stI ?_); try simp (maxSteps:=1000000)(dsimp:=false)(disch:=omega) only [go_sem, Φa, hP, h1_0, h1_2, h1_4, hops]) | simp (maxSteps:=1000000)(dsimp:=false)(disch:=omega) only [go_sem, Φa, hP, h1_0, h1_2, h1_4, hops] | fail)
    all_goals
      refine hK5 () _ (some (gs, .cells ((words s).map Value.string).toArray 9 (0, 0)) :: some (b2, .cells #[.int .u8 0, .int .u16 0, .int .u8 0, .bool false, .bool false, .int .u8 0, .bool false, .int .u8 0] 46 (0, 0)) :: L) _ (by first | exact Less.refl _ | exact Less.drop _ _ | exact Less.drops (Less.drop _ _) | exact Less.drops (Less.drops (Less.drop _ _)) | exact Less.drops (Less.drops (Less.drops (Less.drop _ _))) | exact Less.drops (Less.drops (Less.drops (Less.drops (Less.drop _ _))))) ?_
      try dsimp only
      refine ⟨?_, ?_, ?_, ?_, ?_, ?_⟩
      · simp (maxSteps:=1000000)(dsimp:=false)(disch:=omega) only [go_sem, Φa, hP, h1_0, h1_2, h1_4]
        first | done | (refine congrArg Value.bool ?_; simp_all; done) | (refine congrArg Value.bool ?_; simp_all; omega)
      · simp (maxSteps:=1000000)(dsimp:=false)(disch:=omega) only [go_sem, Φa, hP, h1_0, h1_2, h1_4]
      · simp (maxSteps:=1000000)(dsimp:=false)(disch:=omega) only [go_sem, Φa, hP, h1_0, h1_2, h1_4]
      · simp (maxSteps:=1000000)(dsimp:=false)(disch:=omega) only [go_sem, Φa, hP, h1_0, h1_2, h1_4]
      · rfl
      · trivial
  · intro ss T2 L2 hI
    simp only [h1_0, h1_2, h1_4] at hI 
    obtain ⟨h2_21, h2_0, h2_2, h2_4, hL2, hinv⟩ := hI
    replace hL2 := hL2.symm
    subst hL2
    clear h1_0 h1_2 h1_4 T1
    refine RX.done ?_
    simp (maxSteps:=1000000)(dsimp:=false)(disch:=omega) only [go_sem, Φa, hP, h2_21, h2_0, h2_2, h2_4, hops]
    refine hK4 _ _ ?_
    try clear hK4 K4
    refine SX.cond_k fun X6 Y6 hX6 hY6 => ?_
    simp (maxSteps:=1000000)(dsimp:=false)(disch:=omega) only [go_sem, Φa, hP, h2_21, h2_0, h2_2, h2_4, condVC]
    refine ⟨fun hc21 => hX6 ?_, fun hc21 => hY6 ?_⟩
    · clear hX6 hY6 X6 Y6
      refine SX.seq_k fun K7 hK7 => ?_
      refine SX.region_d [some 22, none, some 3] rfl (fun ops hops => ?_)
      unfold Dsts at hops
      simp (maxSteps:=1000000)(dsimp:=false)(disch:=omega) only [go_sem, Φa, hP, h2_21, h2_0, h2_2, h2_4, hops]
      refine ⟨1, _, _, _, rfl, by decide, .inr (by decide), ?_⟩
      try with_reducible refine stI ?_
      try simp (maxSteps:=1000000)(dsimp:=false)(disch:=omega) only [go_sem, Φa, hP, h2_21, h2_0, h2_2, h2_4, hops]
      refine hK7 _ _ ?_
      try clear hK7 K7
      refine SX.ret ?_
      simp only [andThen_normal, andThen_ret, andThen_exit, inBlk_normal, inBlk_ret, inBlk_exit, Nat.reduceEqDiff, if_true, if_false, ↓reduceIte, retQ_ret]
      try simp only [res0,res1,res2,res3,stK_e,resX,resK,oneOr,ld_ptr,loadVC,loadN,List.nil_append,List.cons_append,Nat.reduceAdd,Nat.add_zero,Nat.zero_add,Addr.add_lit,Addr.add_zero',add_addS,T.elA_46,T.lay_46,T.szA_46,T.zr_46,Tryd.underlying46,go_sem,Φa,hP,h2_21,h2_0,h2_2,h2_4]
      have hno : readP s = (zRc, false) := read_no (fun hh => by have h1 := hh.1; have h2 := hh.2; rw [h2] at hc21; simp at hc21; omega)
      rw [hno]
      exact ⟨_, _, (Less.drops (Less.drop _ _)), ⟨_, Cell.at 1 rfl rfl, _, Cell.at 1 rfl rfl, _, Cell.at 1 rfl rfl, _, Cell.at 1 rfl rfl, _, Cell.at 1 rfl rfl, _, Cell.at 1 rfl rfl, _, Cell.at 1 rfl rfl, _, Cell.at 1 rfl rfl, rfl⟩, rfl, rfl⟩
    · clear hX6 hY6 X6 Y6
      refine SX.skip ?_
      try simp only [andThen_normal, andThen_ret, andThen_exit, inBlk_normal, inBlk_ret, inBlk_exit, Nat.reduceEqDiff, if_true, if_false, ↓reduceIte]
      refine hK3 _ _ ?_
      try clear hK3 K3
      refine SX.seq_k fun K8 hK8 => ?_
      have hpre : preB ((words s).getD 0 eB) ⟨#[115]⟩ = true := by
        rcases hpb : preB ((words s).getD 0 eB) ⟨#[115]⟩ with _ | _
        · rw [hpb] at hc21; simp at hc21
        · rfl
      have hlen : 3 ≤ (words s).length := by rw [hpre] at hc21; simp at hc21; omega
      have hsz0 := pre_size hpre
      refine SX.drawn_d [(0, .q), (1, .q), (2, .q), (3, .q), (6, .q), (7, .q), (8, .q), (11, .q), (12, .q), (13, .q), (4, .c), (5, .q), (9, .c), (10, .q), (14, .c), (15, .q), (16, .q), (17, .e), (18, .t)] (fun L => L) (hP ▸ T.mixed) (by kernel_rfl) (by exact Less.refl _) [some 23, some 24, some 25, some 26, some 27, some 28, some 29, some 30, some 31, some 32, some 33, some 34, some 35, some 36, some 37, some 38, some 39, some 5, none] rfl (fun ops hops hopl => ?_)
      unfold Dsts at hops
      simp (maxSteps:=1000000)(dsimp:=false)(disch:=omega) only [go_sem, Φa, hP, h2_21, h2_0, h2_2, h2_4, hops, hopl]
      refine ⟨_, Cell.at 0 rfl (word_cell (by omega)), ?_⟩
      try with_reducible refine stI ?_
      try simp (maxSteps:=1000000)(dsimp:=false)(disch:=omega) only [go_sem, Φa, hP, h2_21, h2_0, h2_2, h2_4, hops, hopl]
      refine ⟨_, Cell.at 0 rfl (word_cell (by omega)), ?_⟩
      try with_reducible refine stI ?_
      try simp (maxSteps:=1000000)(dsimp:=false)(disch:=omega) only [go_sem, Φa, hP, h2_21, h2_0, h2_2, h2_4, hops, hopl]
      refine ⟨_, Cell.at 0 rfl (word_cell (by omega)), ?_⟩
      try with_reducible refine stI ?_
      try simp (maxSteps:=1000000)(dsimp:=false)(disch:=omega) only [go_sem, Φa, hP, h2_21, h2_0, h2_2, h2_4, hops, hopl]
      first | (refine SCall.mono (digits_spec hP _) ?_; rintro v_ L_ ⟨rfl, rfl⟩) | refine ⟨_, digits_spec hP _, ?_⟩ | refine ⟨_, fun L0 hl0 => digits_spec hP _, ?_⟩
      try with_reducible refine stI ?_
      try simp (maxSteps:=1000000)(dsimp:=false)(disch:=omega) only [go_sem, Φa, hP, h2_21, h2_0, h2_2, h2_4, hops, hopl]
      first | (refine SCall.mono (digits_spec hP _) ?_; rintro v_ L_ ⟨rfl, rfl⟩) | refine ⟨_, digits_spec hP _, ?_⟩ | refine ⟨_, fun L0 hl0 => digits_spec hP _, ?_⟩
      try with_reducible refine stI ?_
      try simp (maxSteps:=1000000)(dsimp:=false)(disch:=omega) only [go_sem, Φa, hP, h2_21, h2_0, h2_2, h2_4, hops, hopl]
      first | (refine SCall.mono (digits_spec hP _) ?_; rintro v_ L_ ⟨rfl, rfl⟩) | refine ⟨_, digits_spec hP _, ?_⟩ | refine ⟨_, fun L0 hl0 => digits_spec hP _, ?_⟩
      try with_reducible refine stI ?_
      try simp (maxSteps:=1000000)(dsimp:=false)(disch:=omega) only [go_sem, Φa, hP, h2_21, h2_0, h2_2, h2_4, hops, hopl]
      intro b5
      try with_reducible refine stI ?_
      try simp (maxSteps:=1000000)(dsimp:=false)(disch:=omega) only [go_sem, Φa, hP, h2_21, h2_0, h2_2, h2_4, hops, hopl]
      refine ⟨0, _, _, _, rfl, by decide, .inr (by decide), ?_⟩
      try with_reducible refine stI ?_
      try simp (maxSteps:=1000000)(dsimp:=false)(disch:=omega) only [go_sem, Φa, hP, h2_21, h2_0, h2_2, h2_4, hops, hopl]
      refine hK8 _ _ ?_
      try clear hK8 K8
      refine SX.live [0, 2, 4, 5] (fun T3 hT3 => ?_)
      simp only [forall_mem_cons', forall_mem_nil', go_sem, Φa, hP, h2_21, h2_0, h2_2, h2_4] at hT3
      obtain ⟨h3_0, h3_2, h3_4, h3_5⟩ := hT3
      clear h2_21 h2_0 h2_2 h2_4 T2
      refine SX.seq_k fun K9 hK9 => ?_
      refine SX.seq_k fun K10 hK10 => ?_
      refine SX.region_d [some 40, some 41, some 42, some 43] rfl (fun ops hops => ?_)
      unfold Dsts at hops
      simp (maxSteps:=1000000)(dsimp:=false)(disch:=omega) only [go_sem, Φa, hP, h3_0, h3_2, h3_4, h3_5, hops]
      repeat' ((first | refine And.intro (by omega) ?_ | fail); try (with_reducible refine stI ?_); try simp (maxSteps:=1000000)(dsimp:=false)(disch:=omega) only [go_sem, Φa, hP, h3_0, h3_2, h3_4, h3_5, hops])
      refine hK10 _ _ ?_
      try clear hK10 K10
      refine SX.block ?_
      refine SX.live [0, 2, 5, 41, 42, 43] (fun T4 hT4 => ?_)
      simp only [forall_mem_cons', forall_mem_nil', go_sem, Φa, hP, h3_0, h3_2, h3_4, h3_5] at hT4
      obtain ⟨h4_0, h4_2, h4_5, h4_41, h4_42, h4_43⟩ := hT4
      clear h3_0 h3_2 h3_4 h3_5 T3
      refine SX.loop_k (fun (ss : (Nat)) T L' => (fun (j : Nat) => T 43 = .int .i64 (j : Int) ∧ T 0 = T4 0 ∧ T 2 = T4 2 ∧ T 5 = T4 5 ∧ T 41 = T4 41 ∧ T 42 = T4 42 ∧ L' = some (b5, .cells (Rc.cells (rdT s j)).toArray 46 (0, 0)) :: some (gs, .cells ((words s).map Value.string).toArray 9 (0, 0)) :: some (b2, .cells #[.int .u8 0, .int .u16 0, .int .u8 0, .bool false, .bool false, .int .u8 0, .bool false, .int .u8 0] 46 (0, 0)) :: L ∧ (j ≤ (words s).length - 3)) (ss)) (fun (ss : (Nat)) => (fun (j : Nat) => (words s).length - 3 - j) (ss)) 0 ?_ ?_
      · try dsimp only
        refine ⟨?_, ?_, ?_, ?_, ?_, ?_, ?_, ?_⟩
        · first | exact h4_43 | (rw [h4_43]; rfl) | (rw [h4_43]; simp; done)
        · rfl
        · rfl
        · rfl
        · rfl
        · rfl
        · rfl
        · exact Nat.zero_le _
      · intro j T5 L5 hI K11 hK11
        try dsimp only at hI hK11
        simp only [h4_0, h4_2, h4_5, h4_41, h4_42] at hI hK11
        obtain ⟨h5_43, h5_0, h5_2, h5_5, h5_41, h5_42, hL5, hj⟩ := hI
        replace hL5 := hL5.symm
        subst hL5
        clear h4_0 h4_2 h4_5 h4_41 h4_42 h4_43 T4
        refine SX.seq_k fun K12 hK12 => ?_
        refine SX.region_d [some 44] rfl (fun ops hops => ?_)
        unfold Dsts at hops
        simp (maxSteps:=1000000)(dsimp:=false)(disch:=omega) only [go_sem, Φa, hP, h5_43, h5_0, h5_2, h5_5, h5_41, h5_42, hops]
        repeat' ((first | refine And.intro (by omega) ?_ | fail); try (with_reducible refine stI ?_); try simp (maxSteps:=1000000)(dsimp:=false)(disch:=omega) only [go_sem, Φa, hP, h5_43, h5_0, h5_2, h5_5, h5_41, h5_42, hops])
        refine hK12 _ _ ?_
        try clear hK12 K12
        refine SX.seq_k fun K13 hK13 => ?_
        refine SX.cond_k fun X14 Y14 hX14 hY14 => ?_
        simp (maxSteps:=1000000)(dsimp:=false)(disch:=omega) only [go_sem, Φa, hP, h5_43, h5_0, h5_2, h5_5, h5_41, h5_42, condVC]
        refine ⟨fun hc44 => hX14 ?_, fun hc44 => hY14 ?_⟩
        · clear hX14 hY14 X14 Y14
          refine SX.skip ?_
          try simp only [andThen_normal, andThen_ret, andThen_exit, inBlk_normal, inBlk_ret, inBlk_exit, Nat.reduceEqDiff, if_true, if_false, ↓reduceIte]
          refine hK13 _ _ ?_
          try clear hK13 K13
          refine SX.seq_k fun K15 hK15 => ?_
          refine SX.block ?_
          refine SX.seq_k fun K16 hK16 => ?_
          have hcut : cutA (some ⟨gs, 0, none⟩) 1 (words s).length 3 = some ⟨gs, 3, none⟩ := cutA_lt (by omega)
          have hj3 : 3 + j < (words s).length := by omega
          refine SX.region_d [some 45, some 46, some 7] rfl (fun ops hops => ?_)
          unfold Dsts at hops
          simp (maxSteps:=1000000)(dsimp:=false)(disch:=omega) only [go_sem, Φa, hP, h5_43, h5_0, h5_2, h5_5, h5_41, h5_42, hops, hcut]
          refine ⟨_, Cell.at 1 rfl (word_cell hj3), ?_⟩
          try with_reducible refine stI ?_
          try simp (maxSteps:=1000000)(dsimp:=false)(disch:=omega) only [go_sem, Φa, hP, h5_43, h5_0, h5_2, h5_5, h5_41, h5_42, hops, hcut]
          refine hK16 _ _ ?_
          try clear hK16 K16
          refine SX.live [0, 2, 5, 7, 41, 42, 43] (fun T6 hT6 => ?_)
          simp only [forall_mem_cons', forall_mem_nil', go_sem, Φa, hP, h5_43, h5_0, h5_2, h5_5, h5_41, h5_42] at hT6
          obtain ⟨h6_0, h6_2, h6_5, h6_7, h6_41, h6_42, h6_43⟩ := hT6
          clear h5_43 h5_0 h5_2 h5_5 h5_41 h5_42 T5
          refine SX.join (fun (ss : Unit) T L' => T 0 = T6 0 ∧ T 2 = T6 2 ∧ T 5 = T6 5 ∧ T 7 = T6 7 ∧ T 41 = T6 41 ∧ T 42 = T6 42 ∧ T 43 = T6 43 ∧ L' = some (b5, .cells (Rc.cells (swW (rdT s j) ((words s).getD (3 + j) eB))).toArray 46 (0, 0)) :: some (gs, .cells ((words s).map Value.string).toArray 9 (0, 0)) :: some (b2, .cells #[.int .u8 0, .int .u16 0, .int .u8 0, .bool false, .bool false, .int .u8 0, .bool false, .int .u8 0] 46 (0, 0)) :: L ∧ (True)) (fun K17 hK17 => ?_) ?_
          · simp only [h6_0, h6_2, h6_5, h6_7, h6_41, h6_42, h6_43] at hK17
            refine SX.block ?_
            refine SX.seq_k fun K18 hK18 => ?_
            refine SX.region_d [some 48, some 49, some 47] rfl (fun ops hops => ?_)
            unfold Dsts at hops
            simp (maxSteps:=1000000)(dsimp:=false)(disch:=omega) only [go_sem, Φa, hP, h6_0, h6_2, h6_5, h6_7, h6_41, h6_42, h6_43, hops]
            repeat' ((first | refine And.intro (by omega) ?_ | fail); try (with_reducible refine stI ?_); try simp (maxSteps:=1000000)(dsimp:=false)(disch:=omega) only [go_sem, Φa, hP, h6_0, h6_2, h6_5, h6_7, h6_41, h6_42, h6_43, hops])
            refine hK18 _ _ ?_
            try clear hK18 K18
            refine SX.cond_k fun X19 Y19 hX19 hY19 => ?_
            simp (maxSteps:=1000000)(dsimp:=false)(disch:=omega) only [go_sem, Φa, hP, h6_0, h6_2, h6_5, h6_7, h6_41, h6_42, h6_43, condVC]
            refine ⟨fun hc47 => hX19 ?_, fun hc47 => hY19 ?_⟩
            · clear hX19 hY19 X19 Y19
              refine SX.region_d [some 50, none] rfl (fun ops hops => ?_)
              unfold Dsts at hops
              simp (maxSteps:=1000000)(dsimp:=false)(disch:=omega) only [go_sem, Φa, hP, h6_0, h6_2, h6_5, h6_7, h6_41, h6_42, h6_43, hops]
              refine ⟨0, _, _, _, rfl, (by simp [Rc.len]), .inr (Nat.zero_le _), ?_⟩
              try with_reducible refine stI ?_
              try simp (maxSteps:=1000000)(dsimp:=false)(disch:=omega) only [go_sem, Φa, hP, h6_0, h6_2, h6_5, h6_7, h6_41, h6_42, h6_43, hops]
              rw [set_rd]
              refine hK17 () _ (_) _ (by exact Less.refl _) ?_
              try dsimp only
              refine ⟨?_, ?_, ?_, ?_, ?_, ?_, ?_, ?_, ?_⟩
              · simp (maxSteps:=1000000)(dsimp:=false)(disch:=omega) only [go_sem, Φa, hP, h6_0, h6_2, h6_5, h6_7, h6_41, h6_42, h6_43]
              · simp (maxSteps:=1000000)(dsimp:=false)(disch:=omega) only [go_sem, Φa, hP, h6_0, h6_2, h6_5, h6_7, h6_41, h6_42, h6_43]
              · simp (maxSteps:=1000000)(dsimp:=false)(disch:=omega) only [go_sem, Φa, hP, h6_0, h6_2, h6_5, h6_7, h6_41, h6_42, h6_43]
              · simp (maxSteps:=1000000)(dsimp:=false)(disch:=omega) only [go_sem, Φa, hP, h6_0, h6_2, h6_5, h6_7, h6_41, h6_42, h6_43]
              · simp (maxSteps:=1000000)(dsimp:=false)(disch:=omega) only [go_sem, Φa, hP, h6_0, h6_2, h6_5, h6_7, h6_41, h6_42, h6_43]
              · simp (maxSteps:=1000000)(dsimp:=false)(disch:=omega) only [go_sem, Φa, hP, h6_0, h6_2, h6_5, h6_7, h6_41, h6_42, h6_43]
              · simp (maxSteps:=1000000)(dsimp:=false)(disch:=omega) only [go_sem, Φa, hP, h6_0, h6_2, h6_5, h6_7, h6_41, h6_42, h6_43]
              · (unfold swW; rw [if_pos (show ((words s).getD (3 + j) eB) = ⟨#[114]⟩ by first | exact hc47 | simpa using hc47)]; try rfl)
              · trivial
            · clear hX19 hY19 X19 Y19
              refine SX.seq_k fun K20 hK20 => ?_
              refine SX.region_d [some 52, some 53, some 51] rfl (fun ops hops => ?_)
              unfold Dsts at hops
              simp (maxSteps:=1000000)(dsimp:=false)(disch:=omega) only [go_sem, Φa, hP, h6_0, h6_2, h6_5, h6_7, h6_41, h6_42, h6_43, hops]
              repeat' ((first | refine And.intro (by omega) ?_ | fail); try (with_reducible refine stI ?_); try simp (maxSteps:=1000000)(dsimp:=false)(disch:=omega) only [go_sem, Φa, hP, h6_0, h6_2, h6_5, h6_7, h6_41, h6_42, h6_43, hops])
              refine hK20 _ _ ?_
              try clear hK20 K20
              refine SX.cond_k fun X21 Y21 hX21 hY21 => ?_
              simp (maxSteps:=1000000)(dsimp:=false)(disch:=omega) only [go_sem, Φa, hP, h6_0, h6_2, h6_5, h6_7, h6_41, h6_42, h6_43, condVC]
              refine ⟨fun hc51 => hX21 ?_, fun hc51 => hY21 ?_⟩
              · clear hX21 hY21 X21 Y21
                refine SX.region_d [some 54, none] rfl (fun ops hops => ?_)
                unfold Dsts at hops
                simp (maxSteps:=1000000)(dsimp:=false)(disch:=omega) only [go_sem, Φa, hP, h6_0, h6_2, h6_5, h6_7, h6_41, h6_42, h6_43, hops]
                refine ⟨0, _, _, _, rfl, (by simp [Rc.len]), .inr (Nat.zero_le _), ?_⟩
                try with_reducible refine stI ?_
                try simp (maxSteps:=1000000)(dsimp:=false)(disch:=omega) only [go_sem, Φa, hP, h6_0, h6_2, h6_5, h6_7, h6_41, h6_42, h6_43, hops]
                rw [set_wr]
                refine hK17 () _ (_) _ (by exact Less.refl _) ?_
                try dsimp only
                refine ⟨?_, ?_, ?_, ?_, ?_, ?_, ?_, ?_, ?_⟩
                · simp (maxSteps:=1000000)(dsimp:=false)(disch:=omega) only [go_sem, Φa, hP, h6_0, h6_2, h6_5, h6_7, h6_41, h6_42, h6_43]
                · simp (maxSteps:=1000000)(dsimp:=false)(disch:=omega) only [go_sem, Φa, hP, h6_0, h6_2, h6_5, h6_7, h6_41, h6_42, h6_43]
                · simp (maxSteps:=1000000)(dsimp:=false)(disch:=omega) only [go_sem, Φa, hP, h6_0, h6_2, h6_5, h6_7, h6_41, h6_42, h6_43]
                · simp (maxSteps:=1000000)(dsimp:=false)(disch:=omega) only [go_sem, Φa, hP, h6_0, h6_2, h6_5, h6_7, h6_41, h6_42, h6_43]
                · simp (maxSteps:=1000000)(dsimp:=false)(disch:=omega) only [go_sem, Φa, hP, h6_0, h6_2, h6_5, h6_7, h6_41, h6_42, h6_43]
                · simp (maxSteps:=1000000)(dsimp:=false)(disch:=omega) only [go_sem, Φa, hP, h6_0, h6_2, h6_5, h6_7, h6_41, h6_42, h6_43]
                · simp (maxSteps:=1000000)(dsimp:=false)(disch:=omega) only [go_sem, Φa, hP, h6_0, h6_2, h6_5, h6_7, h6_41, h6_42, h6_43]
                · (unfold swW; rw [if_neg (show ¬ ((words s).getD (3 + j) eB) = ⟨#[114]⟩ by first | exact hc47 | simpa using hc47), if_pos (show ((words s).getD (3 + j) eB) = ⟨#[119]⟩ by first | exact hc51 | simpa using hc51)]; try rfl)
                · trivial
              · clear hX21 hY21 X21 Y21
                refine SX.seq_k fun K22 hK22 => ?_
                refine SX.region_d [some 56, some 57, some 55] rfl (fun ops hops => ?_)
                unfold Dsts at hops
                simp (maxSteps:=1000000)(dsimp:=false)(disch:=omega) only [go_sem, Φa, hP, h6_0, h6_2, h6_5, h6_7, h6_41, h6_42, h6_43, hops]
                repeat' ((first | refine And.intro (by omega) ?_ | fail); try (with_reducible refine stI ?_); try simp (maxSteps:=1000000)(dsimp:=false)(disch:=omega) only [go_sem, Φa, hP, h6_0, h6_2, h6_5, h6_7, h6_41, h6_42, h6_43, hops])
                refine hK22 _ _ ?_
                try clear hK22 K22
                refine SX.live [0, 2, 5, 7, 41, 42, 43, 55] (fun T7 hT7 => ?_)
                simp only [forall_mem_cons', forall_mem_nil', go_sem, Φa, hP, h6_0, h6_2, h6_5, h6_7, h6_41, h6_42, h6_43] at hT7
                obtain ⟨h7_0, h7_2, h7_5, h7_7, h7_41, h7_42, h7_43, h7_55⟩ := hT7
                clear h6_0 h6_2 h6_5 h6_7 h6_41 h6_42 h6_43 T6
                refine SX.cond_k fun X23 Y23 hX23 hY23 => ?_
                simp (maxSteps:=1000000)(dsimp:=false)(disch:=omega) only [go_sem, Φa, hP, h7_0, h7_2, h7_5, h7_7, h7_41, h7_42, h7_43, h7_55, condVC]
                refine ⟨fun hc55 => hX23 ?_, fun hc55 => hY23 ?_⟩
                · clear hX23 hY23 X23 Y23
                  refine SX.region_d [some 58, none] rfl (fun ops hops => ?_)
                  unfold Dsts at hops
                  simp (maxSteps:=1000000)(dsimp:=false)(disch:=omega) only [go_sem, Φa, hP, h7_0, h7_2, h7_5, h7_7, h7_41, h7_42, h7_43, h7_55, hops]
                  refine ⟨0, _, _, _, rfl, (by simp [Rc.len]), .inr (Nat.zero_le _), ?_⟩
                  try with_reducible refine stI ?_
                  try simp (maxSteps:=1000000)(dsimp:=false)(disch:=omega) only [go_sem, Φa, hP, h7_0, h7_2, h7_5, h7_7, h7_41, h7_42, h7_43, h7_55, hops]
                  rw [set_q]
                  refine hK17 () _ (_) _ (by exact Less.refl _) ?_
                  try dsimp only
                  refine ⟨?_, ?_, ?_, ?_, ?_, ?_, ?_, ?_, ?_⟩
                  · simp (maxSteps:=1000000)(dsimp:=false)(disch:=omega) only [go_sem, Φa, hP, h7_0, h7_2, h7_5, h7_7, h7_41, h7_42, h7_43, h7_55]
                  · simp (maxSteps:=1000000)(dsimp:=false)(disch:=omega) only [go_sem, Φa, hP, h7_0, h7_2, h7_5, h7_7, h7_41, h7_42, h7_43, h7_55]
                  · simp (maxSteps:=1000000)(dsimp:=false)(disch:=omega) only [go_sem, Φa, hP, h7_0, h7_2, h7_5, h7_7, h7_41, h7_42, h7_43, h7_55]
                  · simp (maxSteps:=1000000)(dsimp:=false)(disch:=omega) only [go_sem, Φa, hP, h7_0, h7_2, h7_5, h7_7, h7_41, h7_42, h7_43, h7_55]
                  · simp (maxSteps:=1000000)(dsimp:=false)(disch:=omega) only [go_sem, Φa, hP, h7_0, h7_2, h7_5, h7_7, h7_41, h7_42, h7_43, h7_55]
                  · simp (maxSteps:=1000000)(dsimp:=false)(disch:=omega) only [go_sem, Φa, hP, h7_0, h7_2, h7_5, h7_7, h7_41, h7_42, h7_43, h7_55]
                  · simp (maxSteps:=1000000)(dsimp:=false)(disch:=omega) only [go_sem, Φa, hP, h7_0, h7_2, h7_5, h7_7, h7_41, h7_42, h7_43, h7_55]
                  · (unfold swW; rw [if_neg (show ¬ ((words s).getD (3 + j) eB) = ⟨#[114]⟩ by first | exact hc47 | simpa using hc47), if_neg (show ¬ ((words s).getD (3 + j) eB) = ⟨#[119]⟩ by first | exact hc51 | simpa using hc51), if_pos (show ((words s).getD (3 + j) eB) = ⟨#[113]⟩ by first | exact hc55 | simpa using hc55)]; try rfl)
                  · trivial
                · clear hX23 hY23 X23 Y23
                  refine SX.seq_k fun K24 hK24 => ?_
                  refine SX.region_d [some 60, some 61, some 59] rfl (fun ops hops => ?_)
                  unfold Dsts at hops
                  simp (maxSteps:=1000000)(dsimp:=false)(disch:=omega) only [go_sem, Φa, hP, h7_0, h7_2, h7_5, h7_7, h7_41, h7_42, h7_43, h7_55, hops]
                  refine SCall.mono (HasPrefix_spec hP _ _) ?_
                  rintro v_ L_ ⟨rfl, rfl⟩
                  try with_reducible refine stI ?_
                  try simp (maxSteps:=1000000)(dsimp:=false)(disch:=omega) only [go_sem, Φa, hP, h7_0, h7_2, h7_5, h7_7, h7_41, h7_42, h7_43, h7_55, hops]
                  refine hK24 _ _ ?_
                  try clear hK24 K24
                  refine SX.cond_k fun X25 Y25 hX25 hY25 => ?_
                  simp (maxSteps:=1000000)(dsimp:=false)(disch:=omega) only [go_sem, Φa, hP, h7_0, h7_2, h7_5, h7_7, h7_41, h7_42, h7_43, h7_55, condVC]
                  refine ⟨fun hc59 => hX25 ?_, fun hc59 => hY25 ?_⟩
                  · clear hX25 hY25 X25 Y25
                    have hpn : preB ((words s).getD (3 + j) eB) ⟨#[110]⟩ = true := by first | exact hc59 | simpa using hc59
                    have hszn := pre_size hpn
                    refine SX.region_d [some 62, some 63, some 64, some 65, some 66, none] rfl (fun ops hops => ?_)
                    unfold Dsts at hops
                    simp (maxSteps:=1000000)(dsimp:=false)(disch:=omega) only [go_sem, Φa, hP, h7_0, h7_2, h7_5, h7_7, h7_41, h7_42, h7_43, h7_55, hops]
                    first | (refine SCall.mono (digits_spec hP _) ?_; rintro v_ L_ ⟨rfl, rfl⟩) | refine ⟨_, digits_spec hP _, ?_⟩ | refine ⟨_, fun L0 hl0 => digits_spec hP _, ?_⟩
                    try with_reducible refine stI ?_
                    try simp (maxSteps:=1000000)(dsimp:=false)(disch:=omega) only [go_sem, Φa, hP, h7_0, h7_2, h7_5, h7_7, h7_41, h7_42, h7_43, h7_55, hops]
                    refine ⟨0, _, _, _, rfl, (by simp [Rc.len]), .inr (Nat.zero_le _), ?_⟩
                    try with_reducible refine stI ?_
                    try simp (maxSteps:=1000000)(dsimp:=false)(disch:=omega) only [go_sem, Φa, hP, h7_0, h7_2, h7_5, h7_7, h7_41, h7_42, h7_43, h7_55, hops]
                    rw [set_port]
                    refine hK17 () _ (_) _ (by exact Less.refl _) ?_
                    try dsimp only
                    refine ⟨?_, ?_, ?_, ?_, ?_, ?_, ?_, ?_, ?_⟩
                    · simp (maxSteps:=1000000)(dsimp:=false)(disch:=omega) only [go_sem, Φa, hP, h7_0, h7_2, h7_5, h7_7, h7_41, h7_42, h7_43, h7_55]
                    · simp (maxSteps:=1000000)(dsimp:=false)(disch:=omega) only [go_sem, Φa, hP, h7_0, h7_2, h7_5, h7_7, h7_41, h7_42, h7_43, h7_55]
                    · simp (maxSteps:=1000000)(dsimp:=false)(disch:=omega) only [go_sem, Φa, hP, h7_0, h7_2, h7_5, h7_7, h7_41, h7_42, h7_43, h7_55]
                    · simp (maxSteps:=1000000)(dsimp:=false)(disch:=omega) only [go_sem, Φa, hP, h7_0, h7_2, h7_5, h7_7, h7_41, h7_42, h7_43, h7_55]
                    · simp (maxSteps:=1000000)(dsimp:=false)(disch:=omega) only [go_sem, Φa, hP, h7_0, h7_2, h7_5, h7_7, h7_41, h7_42, h7_43, h7_55]
                    · simp (maxSteps:=1000000)(dsimp:=false)(disch:=omega) only [go_sem, Φa, hP, h7_0, h7_2, h7_5, h7_7, h7_41, h7_42, h7_43, h7_55]
                    · simp (maxSteps:=1000000)(dsimp:=false)(disch:=omega) only [go_sem, Φa, hP, h7_0, h7_2, h7_5, h7_7, h7_41, h7_42, h7_43, h7_55]
                    · (unfold swW; rw [if_neg (show ¬ ((words s).getD (3 + j) eB) = ⟨#[114]⟩ by first | exact hc47 | simpa using hc47), if_neg (show ¬ ((words s).getD (3 + j) eB) = ⟨#[119]⟩ by first | exact hc51 | simpa using hc51), if_neg (show ¬ ((words s).getD (3 + j) eB) = ⟨#[113]⟩ by first | exact hc55 | simpa using hc55), if_pos hpn]; try rfl)
                    · trivial
                  · clear hX25 hY25 X25 Y25
                    refine SX.skip ?_
                    try simp only [andThen_normal, andThen_ret, andThen_exit, inBlk_normal, inBlk_ret, inBlk_exit, Nat.reduceEqDiff, if_true, if_false, ↓reduceIte]
                    refine hK17 () _ (_) _ (by exact Less.refl _) ?_
                    try dsimp only
                    refine ⟨?_, ?_, ?_, ?_, ?_, ?_, ?_, ?_, ?_⟩
                    · simp (maxSteps:=1000000)(dsimp:=false)(disch:=omega) only [go_sem, Φa, hP, h7_0, h7_2, h7_5, h7_7, h7_41, h7_42, h7_43, h7_55]
                    · simp (maxSteps:=1000000)(dsimp:=false)(disch:=omega) only [go_sem, Φa, hP, h7_0, h7_2, h7_5, h7_7, h7_41, h7_42, h7_43, h7_55]
                    · simp (maxSteps:=1000000)(dsimp:=false)(disch:=omega) only [go_sem, Φa, hP, h7_0, h7_2, h7_5, h7_7, h7_41, h7_42, h7_43, h7_55]
                    · simp (maxSteps:=1000000)(dsimp:=false)(disch:=omega) only [go_sem, Φa, hP, h7_0, h7_2, h7_5, h7_7, h7_41, h7_42, h7_43, h7_55]
                    · simp (maxSteps:=1000000)(dsimp:=false)(disch:=omega) only [go_sem, Φa, hP, h7_0, h7_2, h7_5, h7_7, h7_41, h7_42, h7_43, h7_55]
                    · simp (maxSteps:=1000000)(dsimp:=false)(disch:=omega) only [go_sem, Φa, hP, h7_0, h7_2, h7_5, h7_7, h7_41, h7_42, h7_43, h7_55]
                    · simp (maxSteps:=1000000)(dsimp:=false)(disch:=omega) only [go_sem, Φa, hP, h7_0, h7_2, h7_5, h7_7, h7_41, h7_42, h7_43, h7_55]
                    · (unfold swW; rw [if_neg (show ¬ ((words s).getD (3 + j) eB) = ⟨#[114]⟩ by first | exact hc47 | simpa using hc47), if_neg (show ¬ ((words s).getD (3 + j) eB) = ⟨#[119]⟩ by first | exact hc51 | simpa using hc51), if_neg (show ¬ ((words s).getD (3 + j) eB) = ⟨#[113]⟩ by first | exact hc55 | simpa using hc55), if_neg (show ¬ preB ((words s).getD (3 + j) eB) ⟨#[110]⟩ = true by first | exact hc59 | simpa using hc59)]; try rfl)
                    · trivial
          · intro ss T8 L8 hI
            simp only [h6_0, h6_2, h6_5, h6_7, h6_41, h6_42, h6_43] at hI 
            obtain ⟨h8_0, h8_2, h8_5, h8_7, h8_41, h8_42, h8_43, hL8, hinv⟩ := hI
            replace hL8 := hL8.symm
            subst hL8
            clear h6_0 h6_2 h6_5 h6_7 h6_41 h6_42 h6_43 T6
            refine SX.seq_k fun K26 hK26 => ?_
            refine SX.region_d [some 67, some 68] rfl (fun ops hops => ?_)
            unfold Dsts at hops
            simp (maxSteps:=1000000)(dsimp:=false)(disch:=omega) only [go_sem, Φa, hP, h8_0, h8_2, h8_5, h8_7, h8_41, h8_42, h8_43, hops]
            refine ⟨_, hMD _ 0 (by decide), _, hMD _ 1 (by decide), _, hMD _ 2 (by decide), _, hMD _ 3 (by decide), ?_⟩
            try with_reducible refine stI ?_
            try simp (maxSteps:=1000000)(dsimp:=false)(disch:=omega) only [go_sem, Φa, hP, h8_0, h8_2, h8_5, h8_7, h8_41, h8_42, h8_43, hops]
            refine hK26 _ _ ?_
            try clear hK26 K26
            refine SX.block ?_
            refine SX.live [0, 2, 5, 7, 41, 42, 43, 67, 68] (fun T9 hT9 => ?_)
            simp only [forall_mem_cons', forall_mem_nil', go_sem, Φa, hP, h8_0, h8_2, h8_5, h8_7, h8_41, h8_42, h8_43] at hT9
            obtain ⟨h9_0, h9_2, h9_5, h9_7, h9_41, h9_42, h9_43, h9_67, h9_68⟩ := hT9
            clear h8_0 h8_2 h8_5 h8_7 h8_41 h8_42 h8_43 T8
            refine SX.loop_k (fun (ss : (Nat)) T L' => (fun (k : Nat) => T 68 = .int .i64 (k : Int) ∧ T 0 = T9 0 ∧ T 2 = T9 2 ∧ T 5 = T9 5 ∧ T 7 = T9 7 ∧ T 41 = T9 41 ∧ T 42 = T9 42 ∧ T 43 = T9 43 ∧ T 67 = T9 67 ∧ L' = some (b5, .cells (Rc.cells ({ swW (rdT s j) ((words s).getD (3 + j) eB) with md := mdK ((words s).getD (3 + j) eB) k (rdT s j).md } : Rc)).toArray 46 (0, 0)) :: some (gs, .cells ((words s).map Value.string).toArray 9 (0, 0)) :: some (b2, .cells #[.int .u8 0, .int .u16 0, .int .u8 0, .bool false, .bool false, .int .u8 0, .bool false, .int .u8 0] 46 (0, 0)) :: L ∧ (k ≤ 4)) (ss)) (fun (ss : (Nat)) => (fun (k : Nat) => 4 - k) (ss)) 0 ?_ ?_
            · try dsimp only
              refine ⟨?_, ?_, ?_, ?_, ?_, ?_, ?_, ?_, ?_, ?_, ?_⟩
              · first | exact h9_68 | (rw [h9_68]; rfl) | (rw [h9_68]; simp; done)
              · rfl
              · rfl
              · rfl
              · rfl
              · rfl
              · rfl
              · rfl
              · rfl
              · (rw [show mdK ((words s).getD (3 + j) eB) 0 (rdT s j).md = (swW (rdT s j) ((words s).getD (3 + j) eB)).md from (swW_md _ _).symm])
              · exact Nat.zero_le _
            · intro k T10 L10 hI K27 hK27
              try dsimp only at hI hK27
              simp only [h9_0, h9_2, h9_5, h9_7, h9_41, h9_42, h9_43, h9_67] at hI hK27
              obtain ⟨h10_68, h10_0, h10_2, h10_5, h10_7, h10_41, h10_42, h10_43, h10_67, hL10, hk⟩ := hI
              replace hL10 := hL10.symm
              subst hL10
              clear h9_0 h9_2 h9_5 h9_7 h9_41 h9_42 h9_43 h9_67 h9_68 T9
              refine SX.seq_k fun K28 hK28 => ?_
              refine SX.region_d [some 69] rfl (fun ops hops => ?_)
              unfold Dsts at hops
              simp (maxSteps:=1000000)(dsimp:=false)(disch:=omega) only [go_sem, Φa, hP, h10_68, h10_0, h10_2, h10_5, h10_7, h10_41, h10_42, h10_43, h10_67, hops]
              repeat' ((first | refine And.intro (by omega) ?_ | fail); try (with_reducible refine stI ?_); try simp (maxSteps:=1000000)(dsimp:=false)(disch:=omega) only [go_sem, Φa, hP, h10_68, h10_0, h10_2, h10_5, h10_7, h10_41, h10_42, h10_43, h10_67, hops])
              refine hK28 _ _ ?_
              try clear hK28 K28
              refine SX.seq_k fun K29 hK29 => ?_
              refine SX.cond_k fun X30 Y30 hX30 hY30 => ?_
              simp (maxSteps:=1000000)(dsimp:=false)(disch:=omega) only [go_sem, Φa, hP, h10_68, h10_0, h10_2, h10_5, h10_7, h10_41, h10_42, h10_43, h10_67, condVC]
              refine ⟨fun hc69 => hX30 ?_, fun hc69 => hY30 ?_⟩
              · clear hX30 hY30 X30 Y30
                refine SX.skip ?_
                try simp only [andThen_normal, andThen_ret, andThen_exit, inBlk_normal, inBlk_ret, inBlk_exit, Nat.reduceEqDiff, if_true, if_false, ↓reduceIte]
                refine hK29 _ _ ?_
                try clear hK29 K29
                refine SX.seq_k fun K31 hK31 => ?_
                refine SX.block ?_
                refine SX.seq_k fun K32 hK32 => ?_
                obtain ⟨nm, hnm⟩ : ∃ nm, mdL.getD k eB = nm := ⟨_, rfl⟩
                refine SX.region_d [some 70, some 71, some 8, some 9] rfl (fun ops hops => ?_)
                unfold Dsts at hops
                simp (maxSteps:=1000000)(dsimp:=false)(disch:=omega) only [go_sem, Φa, hP, h10_68, h10_0, h10_2, h10_5, h10_7, h10_41, h10_42, h10_43, h10_67, hops]
                rw [mdIdx (k := k) (by omega), hnm]
                try with_reducible refine stI ?_
                try simp (maxSteps:=1000000)(dsimp:=false)(disch:=omega) only [go_sem, Φa, hP, h10_68, h10_0, h10_2, h10_5, h10_7, h10_41, h10_42, h10_43, h10_67, hops]
                refine hK32 _ _ ?_
                try clear hK32 K32
                refine SX.seq_k fun K33 hK33 => ?_
                refine SX.region_xd [some 72, some 73, some 74, some 75, some 76, some 77, some 78] rfl (fun ops hops => ?_)
                unfold Dsts at hops
                refine RX.live [0, 2, 5, 7, 8, 9, 41, 42, 43, 67, 68] (fun T11 hT11 => ?_)
                simp only [forall_mem_cons', forall_mem_nil', go_sem, Φa, hP, h10_68, h10_0, h10_2, h10_5, h10_7, h10_41, h10_42, h10_43, h10_67] at hT11
                obtain ⟨h11_0, h11_2, h11_5, h11_7, h11_8, h11_9, h11_41, h11_42, h11_43, h11_67, h11_68⟩ := hT11
                clear h10_68 h10_0 h10_2 h10_5 h10_7 h10_41 h10_42 h10_43 h10_67 T10
                refine RX.join 7 (fun (ss : Unit) T L' => T 78 = .bool ((!decide (nm = eB)) && decide (nm = ((words s).getD (3 + j) eB))) ∧ T 0 = T11 0 ∧ T 2 = T11 2 ∧ T 5 = T11 5 ∧ T 7 = T11 7 ∧ T 8 = T11 8 ∧ T 41 = T11 41 ∧ T 42 = T11 42 ∧ T 43 = T11 43 ∧ T 67 = T11 67 ∧ T 68 = T11 68 ∧ L' = some (b5, .cells (Rc.cells ({ swW (rdT s j) ((words s).getD (3 + j) eB) with md := mdK ((words s).getD (3 + j) eB) k (rdT s j).md } : Rc)).toArray 46 (0, 0)) :: some (gs, .cells ((words s).map Value.string).toArray 9 (0, 0)) :: some (b2, .cells #[.int .u8 0, .int .u16 0, .int .u8 0, .bool false, .bool false, .int .u8 0, .bool false, .int .u8 0] 46 (0, 0)) :: L ∧ (True)) (fun K34 hK34 => ?_) ?_
                · simp only [h11_0, h11_2, h11_5, h11_7, h11_8, h11_41, h11_42, h11_43, h11_67, h11_68] at hK34
                  simp (maxSteps:=1000000)(dsimp:=false)(disch:=omega) only [go_sem, Φa, hP, h11_0, h11_2, h11_5, h11_7, h11_8, h11_9, h11_41, h11_42, h11_43, h11_67, h11_68, hops]
                  repeat' (first | refine iteB (fun hg => ?_) (fun hg => ?_) | refine iteI (fun hg => ?_) (fun hg => ?_) | ((first | refine And.intro (by omega) ?_ | refine ⟨_, Cell.at 0 rfl rfl, ?_⟩ | refine ⟨_, Cell.at 1 rfl rfl, ?_⟩ | refine ⟨_, Cell.at 2 rfl rfl, ?_⟩ | fail); try (with_reducible refine stI ?_); try simp (maxSteps:=1000000)(dsimp:=false)(disch:=omega) only [go_sem, Φa, hP, h11_0, h11_2, h11_5, h11_7, h11_8, h11_9, h11_41, h11_42, h11_43, h11_67, h11_68, hops]) | fail)
                  all_goals
                    refine hK34 () _ (some (b5, .cells (Rc.cells ({ swW (rdT s j) ((words s).getD (3 + j) eB) with md := mdK ((words s).getD (3 + j) eB) k (rdT s j).md } : Rc)).toArray 46 (0, 0)) :: some (gs, .cells ((words s).map Value.string).toArray 9 (0, 0)) :: some (b2, .cells #[.int .u8 0, .int .u16 0, .int .u8 0, .bool false, .bool false, .int .u8 0, .bool false, .int .u8 0] 46 (0, 0)) :: L) _ (by first | exact Less.refl _ | exact Less.drop _ _ | exact Less.drops (Less.drop _ _) | exact Less.drops (Less.drops (Less.drop _ _)) | exact Less.drops (Less.drops (Less.drops (Less.drop _ _))) | exact Less.drops (Less.drops (Less.drops (Less.drops (Less.drop _ _))))) ?_
                    try dsimp only
                    refine ⟨?_, ?_, ?_, ?_, ?_, ?_, ?_, ?_, ?_, ?_, ?_, ?_, ?_⟩
                    · simp (maxSteps:=1000000)(dsimp:=false)(disch:=omega) only [go_sem, Φa, hP, h11_0, h11_2, h11_5, h11_7, h11_8, h11_9, h11_41, h11_42, h11_43, h11_67, h11_68]
                      first | done | (refine congrArg Value.bool ?_; cases hq1 : decide (nm = eB) <;> cases hq2 : decide (nm = ((words s).getD (3 + j) eB)) <;> simp_all; done) | skip
                    · simp (maxSteps:=1000000)(dsimp:=false)(disch:=omega) only [go_sem, Φa, hP, h11_0, h11_2, h11_5, h11_7, h11_8, h11_9, h11_41, h11_42, h11_43, h11_67, h11_68]
                    · simp (maxSteps:=1000000)(dsimp:=false)(disch:=omega) only [go_sem, Φa, hP, h11_0, h11_2, h11_5, h11_7, h11_8, h11_9, h11_41, h11_42, h11_43, h11_67, h11_68]
                    · simp (maxSteps:=1000000)(dsimp:=false)(disch:=omega) only [go_sem, Φa, hP, h11_0, h11_2, h11_5, h11_7, h11_8, h11_9, h11_41, h11_42, h11_43, h11_67, h11_68]
                    · simp (maxSteps:=1000000)(dsimp:=false)(disch:=omega) only [go_sem, Φa, hP, h11_0, h11_2, h11_5, h11_7, h11_8, h11_9, h11_41, h11_42, h11_43, h11_67, h11_68]
                    · simp (maxSteps:=1000000)(dsimp:=false)(disch:=omega) only [go_sem, Φa, hP, h11_0, h11_2, h11_5, h11_7, h11_8, h11_9, h11_41, h11_42, h11_43, h11_67, h11_68]
                    · simp (maxSteps:=1000000)(dsimp:=false)(disch:=omega) only [go_sem, Φa, hP, h11_0, h11_2, h11_5, h11_7, h11_8, h11_9, h11_41, h11_42, h11_43, h11_67, h11_68]
                    · simp (maxSteps:=1000000)(dsimp:=false)(disch:=omega) only [go_sem, Φa, hP, h11_0, h11_2, h11_5, h11_7, h11_8, h11_9, h11_41, h11_42, h11_43, h11_67, h11_68]
                    · simp (maxSteps:=1000000)(dsimp:=false)(disch:=omega) only [go_sem, Φa, hP, h11_0, h11_2, h11_5, h11_7, h11_8, h11_9, h11_41, h11_42, h11_43, h11_67, h11_68]
                    · simp (maxSteps:=1000000)(dsimp:=false)(disch:=omega) only [go_sem, Φa, hP, h11_0, h11_2, h11_5, h11_7, h11_8, h11_9, h11_41, h11_42, h11_43, h11_67, h11_68]
                    · simp (maxSteps:=1000000)(dsimp:=false)(disch:=omega) only [go_sem, Φa, hP, h11_0, h11_2, h11_5, h11_7, h11_8, h11_9, h11_41, h11_42, h11_43, h11_67, h11_68]
                    · rfl
                    · trivial
                · intro ss T12 L12 hI
                  simp only [h11_0, h11_2, h11_5, h11_7, h11_8, h11_41, h11_42, h11_43, h11_67, h11_68] at hI 
                  obtain ⟨h12_78, h12_0, h12_2, h12_5, h12_7, h12_8, h12_41, h12_42, h12_43, h12_67, h12_68, hL12, hinv⟩ := hI
                  replace hL12 := hL12.symm
                  subst hL12
                  clear h11_0 h11_2 h11_5 h11_7 h11_8 h11_9 h11_41 h11_42 h11_43 h11_67 h11_68 T11
                  refine RX.done ?_
                  simp (maxSteps:=1000000)(dsimp:=false)(disch:=omega) only [go_sem, Φa, hP, h12_78, h12_0, h12_2, h12_5, h12_7, h12_8, h12_41, h12_42, h12_43, h12_67, h12_68, hops]
                  refine hK33 _ _ ?_
                  try clear hK33 K33
                  refine SX.cond_k fun X35 Y35 hX35 hY35 => ?_
                  simp (maxSteps:=1000000)(dsimp:=false)(disch:=omega) only [go_sem, Φa, hP, h12_78, h12_0, h12_2, h12_5, h12_7, h12_8, h12_41, h12_42, h12_43, h12_67, h12_68, condVC]
                  refine ⟨fun hc78 => hX35 ?_, fun hc78 => hY35 ?_⟩
                  · clear hX35 hY35 X35 Y35
                    have hyes : ¬ nm = eB ∧ nm = ((words s).getD (3 + j) eB) := by
                      rw [Bool.and_eq_true, Bool.not_eq_true', decide_eq_false_iff_not, decide_eq_true_eq] at hc78
                      exact hc78
                    refine SX.region_d [some 79, some 80, some 81, none] rfl (fun ops hops => ?_)
                    unfold Dsts at hops
                    simp (maxSteps:=1000000)(dsimp:=false)(disch:=omega) only [go_sem, Φa, hP, h12_78, h12_0, h12_2, h12_5, h12_7, h12_8, h12_41, h12_42, h12_43, h12_67, h12_68, hops]
                    refine ⟨0, _, _, _, rfl, (by simp [Rc.len]), .inr (Nat.zero_le _), ?_⟩
                    try with_reducible refine stI ?_
                    try simp (maxSteps:=1000000)(dsimp:=false)(disch:=omega) only [go_sem, Φa, hP, h12_78, h12_0, h12_2, h12_5, h12_7, h12_8, h12_41, h12_42, h12_43, h12_67, h12_68, hops]
                    rw [set_md]
                    refine hK31 _ _ ?_
                    try clear hK31 K31
                    refine SX.region_d [some 82, some 68] rfl (fun ops hops => ?_)
                    unfold Dsts at hops
                    simp (maxSteps:=1000000)(dsimp:=false)(disch:=omega) only [go_sem, Φa, hP, h12_78, h12_0, h12_2, h12_5, h12_7, h12_8, h12_41, h12_42, h12_43, h12_67, h12_68, hops]
                    repeat' ((first | refine And.intro (by omega) ?_ | fail); try (with_reducible refine stI ?_); try simp (maxSteps:=1000000)(dsimp:=false)(disch:=omega) only [go_sem, Φa, hP, h12_78, h12_0, h12_2, h12_5, h12_7, h12_8, h12_41, h12_42, h12_43, h12_67, h12_68, hops])
                    refine hK27 (k + 1) _ (_) _ (by exact Less.refl _) ?_ ?_
                    · try dsimp only
                      refine ⟨?_, ?_, ?_, ?_, ?_, ?_, ?_, ?_, ?_, ?_, ?_⟩
                      · simp (maxSteps:=1000000)(dsimp:=false)(disch:=omega) only [go_sem, Φa, hP, h12_78, h12_0, h12_2, h12_5, h12_7, h12_8, h12_41, h12_42, h12_43, h12_67, h12_68]
                        first | done | rfl | skip
                      · simp (maxSteps:=1000000)(dsimp:=false)(disch:=omega) only [go_sem, Φa, hP, h12_78, h12_0, h12_2, h12_5, h12_7, h12_8, h12_41, h12_42, h12_43, h12_67, h12_68]
                      · simp (maxSteps:=1000000)(dsimp:=false)(disch:=omega) only [go_sem, Φa, hP, h12_78, h12_0, h12_2, h12_5, h12_7, h12_8, h12_41, h12_42, h12_43, h12_67, h12_68]
                      · simp (maxSteps:=1000000)(dsimp:=false)(disch:=omega) only [go_sem, Φa, hP, h12_78, h12_0, h12_2, h12_5, h12_7, h12_8, h12_41, h12_42, h12_43, h12_67, h12_68]
                      · simp (maxSteps:=1000000)(dsimp:=false)(disch:=omega) only [go_sem, Φa, hP, h12_78, h12_0, h12_2, h12_5, h12_7, h12_8, h12_41, h12_42, h12_43, h12_67, h12_68]
                      · simp (maxSteps:=1000000)(dsimp:=false)(disch:=omega) only [go_sem, Φa, hP, h12_78, h12_0, h12_2, h12_5, h12_7, h12_8, h12_41, h12_42, h12_43, h12_67, h12_68]
                      · simp (maxSteps:=1000000)(dsimp:=false)(disch:=omega) only [go_sem, Φa, hP, h12_78, h12_0, h12_2, h12_5, h12_7, h12_8, h12_41, h12_42, h12_43, h12_67, h12_68]
                      · simp (maxSteps:=1000000)(dsimp:=false)(disch:=omega) only [go_sem, Φa, hP, h12_78, h12_0, h12_2, h12_5, h12_7, h12_8, h12_41, h12_42, h12_43, h12_67, h12_68]
                      · simp (maxSteps:=1000000)(dsimp:=false)(disch:=omega) only [go_sem, Φa, hP, h12_78, h12_0, h12_2, h12_5, h12_7, h12_8, h12_41, h12_42, h12_43, h12_67, h12_68]
                      · (rw [show mdK ((words s).getD (3 + j) eB) (k + 1) (rdT s j).md = (k : Int) from if_pos (by rw [hnm]; exact hyes)]; try rfl)
                      · omega
                    · (try dsimp only); omega
                  · clear hX35 hY35 X35 Y35
                    have hno : ¬ (¬ nm = eB ∧ nm = ((words s).getD (3 + j) eB)) := fun hh => by
                      rw [decide_eq_false hh.1, decide_eq_true hh.2] at hc78
                      first | cases hc78 | exact absurd rfl hc78
                    refine SX.skip ?_
                    try simp only [andThen_normal, andThen_ret, andThen_exit, inBlk_normal, inBlk_ret, inBlk_exit, Nat.reduceEqDiff, if_true, if_false, ↓reduceIte]
                    refine hK31 _ _ ?_
                    try clear hK31 K31
                    refine SX.region_d [some 82, some 68] rfl (fun ops hops => ?_)
                    unfold Dsts at hops
                    simp (maxSteps:=1000000)(dsimp:=false)(disch:=omega) only [go_sem, Φa, hP, h12_78, h12_0, h12_2, h12_5, h12_7, h12_8, h12_41, h12_42, h12_43, h12_67, h12_68, hops]
                    repeat' ((first | refine And.intro (by omega) ?_ | fail); try (with_reducible refine stI ?_); try simp (maxSteps:=1000000)(dsimp:=false)(disch:=omega) only [go_sem, Φa, hP, h12_78, h12_0, h12_2, h12_5, h12_7, h12_8, h12_41, h12_42, h12_43, h12_67, h12_68, hops])
                    refine hK27 (k + 1) _ (_) _ (by exact Less.refl _) ?_ ?_
                    · try dsimp only
                      refine ⟨?_, ?_, ?_, ?_, ?_, ?_, ?_, ?_, ?_, ?_, ?_⟩
                      · simp (maxSteps:=1000000)(dsimp:=false)(disch:=omega) only [go_sem, Φa, hP, h12_78, h12_0, h12_2, h12_5, h12_7, h12_8, h12_41, h12_42, h12_43, h12_67, h12_68]
                        first | done | rfl | skip
                      · simp (maxSteps:=1000000)(dsimp:=false)(disch:=omega) only [go_sem, Φa, hP, h12_78, h12_0, h12_2, h12_5, h12_7, h12_8, h12_41, h12_42, h12_43, h12_67, h12_68]
                      · simp (maxSteps:=1000000)(dsimp:=false)(disch:=omega) only [go_sem, Φa, hP, h12_78, h12_0, h12_2, h12_5, h12_7, h12_8, h12_41, h12_42, h12_43, h12_67, h12_68]
                      · simp (maxSteps:=1000000)(dsimp:=false)(disch:=omega) only [go_sem, Φa, hP, h12_78, h12_0, h12_2, h12_5, h12_7, h12_8, h12_41, h12_42, h12_43, h12_67, h12_68]
                      · simp (maxSteps:=1000000)(dsimp:=false)(disch:=omega) only [go_sem, Φa, hP, h12_78, h12_0, h12_2, h12_5, h12_7, h12_8, h12_41, h12_42, h12_43, h12_67, h12_68]
                      · simp (maxSteps:=1000000)(dsimp:=false)(disch:=omega) only [go_sem, Φa, hP, h12_78, h12_0, h12_2, h12_5, h12_7, h12_8, h12_41, h12_42, h12_43, h12_67, h12_68]
                      · simp (maxSteps:=1000000)(dsimp:=false)(disch:=omega) only [go_sem, Φa, hP, h12_78, h12_0, h12_2, h12_5, h12_7, h12_8, h12_41, h12_42, h12_43, h12_67, h12_68]
                      · simp (maxSteps:=1000000)(dsimp:=false)(disch:=omega) only [go_sem, Φa, hP, h12_78, h12_0, h12_2, h12_5, h12_7, h12_8, h12_41, h12_42, h12_43, h12_67, h12_68]
                      · simp (maxSteps:=1000000)(dsimp:=false)(disch:=omega) only [go_sem, Φa, hP, h12_78, h12_0, h12_2, h12_5, h12_7, h12_8, h12_41, h12_42, h12_43, h12_67, h12_68]
                      · (rw [show mdK ((words s).getD (3 + j) eB) (k + 1) (rdT s j).md = mdK ((words s).getD (3 + j) eB) k (rdT s j).md from if_neg (by rw [hnm]; exact hno)]; try rfl)
                      · omega
                    · (try dsimp only); omega
              · clear hX30 hY30 X30 Y30
                refine SX.exit ?_
                try simp only [andThen_normal, andThen_ret, andThen_exit, inBlk_normal, inBlk_ret, inBlk_exit, Nat.reduceEqDiff, if_true, if_false, ↓reduceIte]
                refine hK15 _ _ ?_
                try clear hK15 K15
                refine SX.region_d [some 83, some 43] rfl (fun ops hops => ?_)
                unfold Dsts at hops
                simp (maxSteps:=1000000)(dsimp:=false)(disch:=omega) only [go_sem, Φa, hP, h10_68, h10_0, h10_2, h10_5, h10_7, h10_41, h10_42, h10_43, h10_67, hops]
                repeat' ((first | refine And.intro (by omega) ?_ | fail); try (with_reducible refine stI ?_); try simp (maxSteps:=1000000)(dsimp:=false)(disch:=omega) only [go_sem, Φa, hP, h10_68, h10_0, h10_2, h10_5, h10_7, h10_41, h10_42, h10_43, h10_67, hops])
                refine hK11 (j + 1) _ (_) _ (by exact Less.refl _) ?_ ?_
                · try dsimp only
                  refine ⟨?_, ?_, ?_, ?_, ?_, ?_, ?_, ?_⟩
                  · simp (maxSteps:=1000000)(dsimp:=false)(disch:=omega) only [go_sem, Φa, hP, h10_68, h10_0, h10_2, h10_5, h10_7, h10_41, h10_42, h10_43, h10_67]
                    first | done | rfl | skip
                  · simp (maxSteps:=1000000)(dsimp:=false)(disch:=omega) only [go_sem, Φa, hP, h10_68, h10_0, h10_2, h10_5, h10_7, h10_41, h10_42, h10_43, h10_67]
                  · simp (maxSteps:=1000000)(dsimp:=false)(disch:=omega) only [go_sem, Φa, hP, h10_68, h10_0, h10_2, h10_5, h10_7, h10_41, h10_42, h10_43, h10_67]
                  · simp (maxSteps:=1000000)(dsimp:=false)(disch:=omega) only [go_sem, Φa, hP, h10_68, h10_0, h10_2, h10_5, h10_7, h10_41, h10_42, h10_43, h10_67]
                  · simp (maxSteps:=1000000)(dsimp:=false)(disch:=omega) only [go_sem, Φa, hP, h10_68, h10_0, h10_2, h10_5, h10_7, h10_41, h10_42, h10_43, h10_67]
                  · simp (maxSteps:=1000000)(dsimp:=false)(disch:=omega) only [go_sem, Φa, hP, h10_68, h10_0, h10_2, h10_5, h10_7, h10_41, h10_42, h10_43, h10_67]
                  · (obtain rfl : k = 4 := (by omega); rw [rdT_succ (by omega)]; rfl)
                  · omega
                · (try dsimp only); omega
        · clear hX14 hY14 X14 Y14
          refine SX.exit ?_
          try simp only [andThen_normal, andThen_ret, andThen_exit, inBlk_normal, inBlk_ret, inBlk_exit, Nat.reduceEqDiff, if_true, if_false, ↓reduceIte]
          refine hK9 _ _ ?_
          try clear hK9 K9
          refine SX.seq_k fun K36 hK36 => ?_
          obtain rfl : j = (words s).length - 3 := by omega
          rw [rdT_all]
          have hgo := read_go hlen hpre
          refine SX.drawn_d [(0, .q), (1, .q), (2, .e), (3, .q), (4, .q), (6, .q), (5, .e), (7, .q), (8, .q), (9, .e), (10, .q)] (fun _ => [some (b5, .cells (Rc.cells (rdP s)).toArray 46 (0, 0))]) (hP ▸ T.mixed) (by kernel_rfl) (by exact lessR5) [some 84, some 85, some 86, some 87, some 88, some 89, some 90, some 91, some 92, none, some 3] rfl (fun ops hops hopl => ?_)
          unfold Dsts at hops
          simp (maxSteps:=1000000)(dsimp:=false)(disch:=omega) only [go_sem, Φa, hP, h5_43, h5_0, h5_2, h5_5, h5_41, h5_42, hops, hopl]
          refine ⟨_, Cell.at 0 rfl (show (Rc.cells _)[0]? = _ from rfl), _, Cell.at 0 rfl (show (Rc.cells _)[1]? = _ from rfl), _, Cell.at 0 rfl (show (Rc.cells _)[2]? = _ from rfl), _, Cell.at 0 rfl (show (Rc.cells _)[3]? = _ from rfl), _, Cell.at 0 rfl (show (Rc.cells _)[4]? = _ from rfl), _, Cell.at 0 rfl (show (Rc.cells _)[5]? = _ from rfl), _, Cell.at 0 rfl (show (Rc.cells _)[6]? = _ from rfl), _, Cell.at 0 rfl (show (Rc.cells _)[7]? = _ from rfl), ?_⟩
          try with_reducible refine stI ?_
          try simp (maxSteps:=1000000)(dsimp:=false)(disch:=omega) only [go_sem, Φa, hP, h5_43, h5_0, h5_2, h5_5, h5_41, h5_42, hops, hopl]
          refine ⟨_, Cell.at 0 rfl (show (Rc.cells _)[0]? = _ from rfl), _, Cell.at 0 rfl (show (Rc.cells _)[1]? = _ from rfl), _, Cell.at 0 rfl (show (Rc.cells _)[2]? = _ from rfl), _, Cell.at 0 rfl (show (Rc.cells _)[3]? = _ from rfl), _, Cell.at 0 rfl (show (Rc.cells _)[4]? = _ from rfl), _, Cell.at 0 rfl (show (Rc.cells _)[5]? = _ from rfl), _, Cell.at 0 rfl (show (Rc.cells _)[6]? = _ from rfl), _, Cell.at 0 rfl (show (Rc.cells _)[7]? = _ from rfl), ?_⟩
          try with_reducible refine stI ?_
          try simp (maxSteps:=1000000)(dsimp:=false)(disch:=omega) only [go_sem, Φa, hP, h5_43, h5_0, h5_2, h5_5, h5_41, h5_42, hops, hopl]
          refine SCall.mono (may_spec hP (x := rdP s)) ?_
          rintro v_ L_ ⟨rfl, rfl⟩
          try with_reducible refine stI ?_
          try simp (maxSteps:=1000000)(dsimp:=false)(disch:=omega) only [go_sem, Φa, hP, h5_43, h5_0, h5_2, h5_5, h5_41, h5_42, hops, hopl]
          refine ⟨lessR5, ?_⟩
          try with_reducible refine stI ?_
          try simp (maxSteps:=1000000)(dsimp:=false)(disch:=omega) only [go_sem, Φa, hP, h5_43, h5_0, h5_2, h5_5, h5_41, h5_42, hops, hopl]
          rcases hmay : mayB (rdP s) with _ | _
          · skip
            try with_reducible refine stI ?_
            try with_reducible refine stI ?_
            try simp (maxSteps:=1000000)(dsimp:=false)(disch:=omega) only [go_sem, Φa, hP, h5_43, h5_0, h5_2, h5_5, h5_41, h5_42, hops, hopl]
            refine ⟨2, _, _, _, rfl, by decide, .inr (by decide), ?_⟩
            try with_reducible refine stI ?_
            try simp (maxSteps:=1000000)(dsimp:=false)(disch:=omega) only [go_sem, Φa, hP, h5_43, h5_0, h5_2, h5_5, h5_41, h5_42, hops, hopl]
            refine ⟨lessR5, ?_⟩
            try with_reducible refine stI ?_
            try simp (maxSteps:=1000000)(dsimp:=false)(disch:=omega) only [go_sem, Φa, hP, h5_43, h5_0, h5_2, h5_5, h5_41, h5_42, hops, hopl]
            refine hK36 _ _ ?_
            try clear hK36 K36
            refine SX.ret ?_
            simp only [andThen_normal, andThen_ret, andThen_exit, inBlk_normal, inBlk_ret, inBlk_exit, Nat.reduceEqDiff, if_true, if_false, ↓reduceIte, retQ_ret]
            try simp only [res0,res1,res2,res3,stK_e,resX,resK,oneOr,ld_ptr,loadVC,loadN,List.nil_append,List.cons_append,Nat.reduceAdd,Nat.add_zero,Nat.zero_add,Addr.add_lit,Addr.add_zero',add_addS,T.elA_46,T.lay_46,T.szA_46,T.zr_46,Tryd.underlying46,go_sem,Φa,hP,h5_43,h5_0,h5_2,h5_5,h5_41,h5_42]
            exact ⟨_, _, Less.drops (Less.drops (Less.drop _ _)), ⟨_, Cell.at 2 rfl rfl, _, Cell.at 2 rfl rfl, _, Cell.at 2 rfl rfl, _, Cell.at 2 rfl rfl, _, Cell.at 2 rfl rfl, _, Cell.at 2 rfl rfl, _, Cell.at 2 rfl rfl, _, Cell.at 2 rfl rfl, rfl⟩, by rw [hgo, hmay]; rfl, rfl⟩
          · skip
            try with_reducible refine stI ?_
            try with_reducible refine stI ?_
            try simp (maxSteps:=1000000)(dsimp:=false)(disch:=omega) only [go_sem, Φa, hP, h5_43, h5_0, h5_2, h5_5, h5_41, h5_42, hops, hopl]
            refine ⟨_, Cell.at 0 rfl (show (Rc.cells _)[0]? = _ from rfl), _, Cell.at 0 rfl (show (Rc.cells _)[1]? = _ from rfl), _, Cell.at 0 rfl (show (Rc.cells _)[2]? = _ from rfl), _, Cell.at 0 rfl (show (Rc.cells _)[3]? = _ from rfl), _, Cell.at 0 rfl (show (Rc.cells _)[4]? = _ from rfl), _, Cell.at 0 rfl (show (Rc.cells _)[5]? = _ from rfl), _, Cell.at 0 rfl (show (Rc.cells _)[6]? = _ from rfl), _, Cell.at 0 rfl (show (Rc.cells _)[7]? = _ from rfl), ?_⟩
            try with_reducible refine stI ?_
            try simp (maxSteps:=1000000)(dsimp:=false)(disch:=omega) only [go_sem, Φa, hP, h5_43, h5_0, h5_2, h5_5, h5_41, h5_42, hops, hopl]
            refine SCall.mono (line_spec hP (x := rdP s) (rdP_ok s) hmay hMD) ?_
            rintro v_ L_ ⟨rfl, rfl⟩
            try with_reducible refine stI ?_
            try simp (maxSteps:=1000000)(dsimp:=false)(disch:=omega) only [go_sem, Φa, hP, h5_43, h5_0, h5_2, h5_5, h5_41, h5_42, hops, hopl]
            refine ⟨lessR5, ?_⟩
            try with_reducible refine stI ?_
            try simp (maxSteps:=1000000)(dsimp:=false)(disch:=omega) only [go_sem, Φa, hP, h5_43, h5_0, h5_2, h5_5, h5_41, h5_42, hops, hopl]
            refine ⟨2, _, _, _, rfl, by decide, .inr (by decide), ?_⟩
            try with_reducible refine stI ?_
            try simp (maxSteps:=1000000)(dsimp:=false)(disch:=omega) only [go_sem, Φa, hP, h5_43, h5_0, h5_2, h5_5, h5_41, h5_42, hops, hopl]
            refine ⟨lessR5, ?_⟩
            try with_reducible refine stI ?_
            try simp (maxSteps:=1000000)(dsimp:=false)(disch:=omega) only [go_sem, Φa, hP, h5_43, h5_0, h5_2, h5_5, h5_41, h5_42, hops, hopl]
            refine hK36 _ _ ?_
            try clear hK36 K36
            refine SX.ret ?_
            simp only [andThen_normal, andThen_ret, andThen_exit, inBlk_normal, inBlk_ret, inBlk_exit, Nat.reduceEqDiff, if_true, if_false, ↓reduceIte, retQ_ret]
            try simp only [res0,res1,res2,res3,stK_e,resX,resK,oneOr,ld_ptr,loadVC,loadN,List.nil_append,List.cons_append,Nat.reduceAdd,Nat.add_zero,Nat.zero_add,Addr.add_lit,Addr.add_zero',add_addS,T.elA_46,T.lay_46,T.szA_46,T.zr_46,Tryd.underlying46,go_sem,Φa,hP,h5_43,h5_0,h5_2,h5_5,h5_41,h5_42]
            exact ⟨_, _, Less.drops (Less.drops (Less.drop _ _)), ⟨_, Cell.at 2 rfl rfl, _, Cell.at 2 rfl rfl, _, Cell.at 2 rfl rfl, _, Cell.at 2 rfl rfl, _, Cell.at 2 rfl rfl, _, Cell.at 2 rfl rfl, _, Cell.at 2 rfl rfl, _, Cell.at 2 rfl rfl, rfl⟩, by rw [hgo, hmay]; rfl, rfl⟩

end Go.Proofs.YtcenlgofldnfcaaDoor
set_option linter.unusedVariables false
set_option linter.unusedSimpArgs false
namespace Go.Proofs.YtcenlgofldnfcaaDoor
open Go.RowKit Go.SX Go.Proofs
/-! A text's lines, one behind the other. -/
def parseF (f : ByteArray → Rc × Bool) : List ByteArray → Nat → List Rc → ByteArray → List Rc × Int × Int
  | [], i, acc, r => if r = eB then (acc, 0, 0) else ([], 90, (i : Int) + 1)
  | x :: l, i, acc, r => if (f x).2 = true then parseF f l (i + 1) (acc ++ [(f x).1]) r else ([], 90, (i : Int) + 1)
def parseS (f : ByteArray → Rc × Bool) (s : ByteArray) : List Rc × Int × Int := if 65536 < s.size then ([], 2, 0) else parseF f (linesR 10 s) 0 [] (restR 10 s)
theorem parseF_same {f g : ByteArray → Rc × Bool} (h2 : ∀ s, (f s).2 = (g s).2) (h1 : ∀ s, (f s).2 = true → (f s).1 = (g s).1) : ∀ (l : List ByteArray) (i : Nat) (acc : List Rc) (r : ByteArray), parseF f l i acc r = parseF g l i acc r
  | [], i, acc, r => rfl
  | x :: l, i, acc, r => by
    rw [parseF, parseF, ← h2 x]
    by_cases h : (f x).2 = true
    · rw [if_pos h, if_pos h, h1 x h, parseF_same h2 h1 l]
    · rw [if_neg h, if_neg h]
theorem parse_same (s : ByteArray) : parseS readP s = parseS refP s := by
  unfold parseS
  rw [parseF_same both_ok (fun s h => both_same h)]
theorem linesR_len (c : UInt8) (s : ByteArray) : (linesR c s).length ≤ s.size := (lnAt_inv c s s.size (Nat.le_refl _)).2.1
def lsT (s : ByteArray) : List (List UInt8) := (linesR 10 s).map fun l => l.data.toList
theorem lsT_len (s : ByteArray) : (lsT s).length = (linesR 10 s).length := by unfold lsT; rw [List.length_map]
theorem lsT_drop {s : ByteArray} {i : Nat} (h : i < (linesR 10 s).length) : (lsT s).drop i = ((linesR 10 s).getD i eB).data.toList :: (lsT s).drop (i + 1) := by
  rw [List.drop_eq_getElem_cons (by rw [lsT_len]; exact h)]
  congr 1
  unfold lsT
  rw [List.getElem_map, List.getD_eq_getElem?_getD, List.getElem?_eq_getElem h]
  rfl
theorem cut_at {s : ByteArray} {i : Nat} (h : i < (linesR 10 s).length) (hr : (restAt s i).data.toList = flatC 10 ((lsT s).drop i) ++ (restR 10 s).data.toList) :
    Lib.cut (restAt s i).data.toList [10] = (((linesR 10 s).getD i eB).data.toList, flatC 10 ((lsT s).drop (i + 1)) ++ (restR 10 s).data.toList, true) := by
  rw [hr, lsT_drop h, flatN_cons]
  refine cut_nl _ ((linesR_inv 10 s).2.1 _ ?_)
  rw [List.getD_eq_getElem?_getD, List.getElem?_eq_getElem h]
  exact List.getElem_mem h
theorem restAt_data (s : ByteArray) : ∀ i, i ≤ (linesR 10 s).length → (restAt s i).data.toList = flatC 10 ((lsT s).drop i) ++ (restR 10 s).data.toList
  | 0, _ => by
    rw [List.drop_zero]
    exact (linesR_inv 10 s).1.symm
  | i + 1, h => by
    have hr := restAt_data s i (by omega)
    show (Lib.cut (restAt s i).data.toList [10]).2.1.toArray.toList = _
    rw [cut_at (by omega) hr]
theorem cL_at {s : ByteArray} {i : Nat} (h : i < (linesR 10 s).length) : cL (restAt s i) = (linesR 10 s).getD i eB := ba_ext (by
  show (Lib.cut (restAt s i).data.toList [10]).1.toArray.toList = _
  rw [cut_at h (restAt_data s i (by omega))])
theorem ends_at {s : ByteArray} {i : Nat} (h : i < (linesR 10 s).length) : (Lib.cut (restAt s i).data.toList [10]).2.2 = true := by
  rw [cut_at h (restAt_data s i (by omega))]
theorem restAt_all (s : ByteArray) : restAt s (linesR 10 s).length = restR 10 s := ba_ext (by
  rw [restAt_data s _ (Nat.le_refl _), List.drop_of_length_le (by rw [lsT_len]; exact Nat.le_refl _)]
  rfl)
theorem ends_all (s : ByteArray) : (Lib.cut (restAt s (linesR 10 s).length).data.toList [10]).2.2 = false := by
  rw [restAt_all]
  unfold Lib.cut
  rw [index_no 10 _ (linesR_inv 10 s).2.2, if_neg (by decide)]
theorem empty_at {s : ByteArray} {i : Nat} (hi : i ≤ (linesR 10 s).length) (h : restAt s i = eB) : i = (linesR 10 s).length ∧ restR 10 s = eB := by
  have hd := restAt_data s i hi
  rw [h] at hd
  have hl := congrArg List.length hd
  rcases Nat.lt_or_eq_of_le hi with hlt | rfl
  · rw [lsT_drop hlt, flatN_cons] at hl
    simp at hl
  · exact ⟨rfl, by rw [← restAt_all, h]⟩
theorem parse_end {f : ByteArray → Rc × Bool} {s : ByteArray} {i : Nat} {acc : List Rc} (hi : i ≤ (linesR 10 s).length) (h : restAt s i = eB) : parseF f ((linesR 10 s).drop i) i acc (restR 10 s) = (acc, 0, 0) := by
  obtain ⟨rfl, hr⟩ := empty_at hi h
  rw [List.drop_length, parseF, if_pos hr]
theorem lines_drop {s : ByteArray} {i : Nat} (h : i < (linesR 10 s).length) : (linesR 10 s).drop i = cL (restAt s i) :: (linesR 10 s).drop (i + 1) := by
  rw [cL_at h, List.drop_eq_getElem_cons h, List.getD_eq_getElem?_getD, List.getElem?_eq_getElem h]
  rfl
theorem parse_stop {f : ByteArray → Rc × Bool} {s : ByteArray} {i : Nat} {acc : List Rc} (hi : i ≤ (linesR 10 s).length) (h : ¬ restAt s i = eB) (hb : (!(f (cL (restAt s i))).2 || !(Lib.cut (restAt s i).data.toList [10]).2.2) = true) : parseF f ((linesR 10 s).drop i) i acc (restR 10 s) = ([], 90, (i : Int) + 1) := by
  rcases Nat.lt_or_eq_of_le hi with hlt | rfl
  · rw [ends_at hlt] at hb
    rw [lines_drop hlt, parseF, if_neg (by simpa using hb)]
  · rw [List.drop_length, parseF, if_neg (by rw [← restAt_all]; exact h)]
theorem parse_go {f : ByteArray → Rc × Bool} {s : ByteArray} {i : Nat} {acc : List Rc} (hi : i ≤ (linesR 10 s).length) (hb : (!(f (cL (restAt s i))).2 || !(Lib.cut (restAt s i).data.toList [10]).2.2) = false) : i < (linesR 10 s).length ∧ parseF f ((linesR 10 s).drop i) i acc (restR 10 s) = parseF f ((linesR 10 s).drop (i + 1)) (i + 1) (acc ++ [(f (cL (restAt s i))).1]) (restR 10 s) := by
  rw [Bool.or_eq_false_iff, Bool.not_eq_false', Bool.not_eq_false'] at hb
  rcases Nat.lt_or_eq_of_le hi with hlt | rfl
  · refine ⟨hlt, ?_⟩
    rw [lines_drop hlt, parseF, if_pos hb.1]
  · rw [ends_all] at hb
    exact absurd hb.2 (by decide)
end Go.Proofs.YtcenlgofldnfcaaDoor
set_option linter.unusedVariables false
set_option linter.unusedSimpArgs false
namespace Go.Proofs.YtcenlgofldnfcaaDoor
open Go.RowKit Go.SX Go.Proofs

/-! Parse. -/
def ParseR (r : List Rc × Int × Int) (L : Hp) (v : Value) (L' : Hp) : Prop := ∃ vo so, v = .tuple #[vo, .int .i64 r.2.1, .int .i64 r.2.2] ∧ L' = so :: L ∧ RowL Rc.cells 46 8 vo r.1 so
set_option maxHeartbeats 1000000 in
set_option maxRecDepth 100000 in
theorem Parse_spec {Γ : Ctx} (hP : Γ.P = Tryd.prog) {L : Hp} {s : ByteArray} (hMD : MD Γ) (hM : HasM Γ) :
    SCall Γ 23 #[(.string s)] L (ParseR (parseS readP s) L) := by
  refine SCall.enter (n := 43) (res3 2 3 4) (hP ▸ Tryd.func23) rfl rfl (by simp) (res3_ok rfl) ?_
  refine SX.seq_k fun K1 hK1 => ?_
  refine SX.region_d [some 2, some 3, some 4] rfl (fun ops hops => ?_)
  unfold Dsts at hops
  simp (maxSteps := 1000000) (dsimp := false) (disch := omega) only [go_sem, ia_someH, hP, hops]
  refine hK1 _ _ ?_
  try clear hK1 K1
  refine SX.seq_k fun K2 hK2 => ?_
  refine SX.seq_k fun K3 hK3 => ?_
  refine SX.region_d [some 12, some 13, some 14] rfl (fun ops hops => ?_)
  unfold Dsts at hops
  simp (maxSteps := 1000000) (dsimp := false) (disch := omega) only [go_sem, ia_someH, hP, hops]
  repeat' ((first | refine And.intro (by omega) ?_ | fail); try (with_reducible refine stI ?_); try simp (maxSteps := 1000000) (dsimp := false) (disch := omega) only [go_sem, ia_someH, hP, hops])
  refine hK3 _ _ ?_
  try clear hK3 K3
  refine SX.cond_k fun X4 Y4 hX4 hY4 => ?_
  simp (maxSteps := 1000000) (dsimp := false) (disch := omega) only [go_sem, ia_someH, hP, condVC]
  refine ⟨fun hc14 => hX4 ?_, fun hc14 => hY4 ?_⟩
  · clear hX4 hY4 X4 Y4
    refine SX.seq_k fun K5 hK5 => ?_
    refine SX.region_d [some 2, some 3, some 4] rfl (fun ops hops => ?_)
    unfold Dsts at hops
    simp (maxSteps := 1000000) (dsimp := false) (disch := omega) only [go_sem, ia_someH, hP, hops]
    refine hK5 _ _ ?_
    try clear hK5 K5
    refine SX.ret ?_
    simp only [andThen_normal, andThen_ret, andThen_exit, inBlk_normal, inBlk_ret, inBlk_exit, Nat.reduceEqDiff, if_true, if_false, ↓reduceIte, retQ_ret]
    try simp only [res0, res1, res2, res3, stK_e, go_sem, ia_someH, hP]
    refine ⟨_, _, Less.none _, rfl, ?_⟩
    unfold parseS
    rw [if_pos (by omega)]
    exact ⟨_, _, rfl, rfl, RowL.nil _ _ _⟩
  · clear hX4 hY4 X4 Y4
    refine SX.skip ?_
    try simp only [andThen_normal, andThen_ret, andThen_exit, inBlk_normal, inBlk_ret, inBlk_exit, Nat.reduceEqDiff, if_true, if_false, ↓reduceIte]
    refine hK2 _ _ ?_
    try clear hK2 K2
    refine SX.seq_k fun K6 hK6 => ?_
    refine SX.region_d [some 5] rfl (fun ops hops => ?_)
    unfold Dsts at hops
    simp (maxSteps := 1000000) (dsimp := false) (disch := omega) only [go_sem, ia_someH, hP, hops]
    refine hK6 _ _ ?_
    try clear hK6 K6
    refine SX.seq_k fun K7 hK7 => ?_
    refine SX.seq_k fun K8 hK8 => ?_
    refine SX.region_d [some 6] rfl (fun ops hops => ?_)
    unfold Dsts at hops
    simp (maxSteps := 1000000) (dsimp := false) (disch := omega) only [go_sem, ia_someH, hP, hops]
    refine hK8 _ _ ?_
    try clear hK8 K8
    refine SX.block ?_
    have hs : s.size ≤ 65536 := by omega
    have hnl := linesR_len 10 s
    refine SX.less (Less.none _) ?_
    refine SX.live [0, 5, 6] (fun T1 hT1 => ?_)
    simp only [forall_mem_cons', forall_mem_nil', go_sem, ia_someH, hP] at hT1
    obtain ⟨h1_0, h1_5, h1_6⟩ := hT1
    refine SX.loop_k (fun (ss : (Nat) × (Value) × (Slot) × (List Rc)) T L' => (fun (i : Nat) (vo : Value) (so : Slot) (acc : List Rc) => T 0 = .string (restAt s i) ∧ T 5 = vo ∧ T 6 = .int .i64 ((i + 1 : Nat) : Int) ∧ L' = so :: L ∧ (i ≤ (linesR 10 s).length ∧ acc.length = i ∧ RowL Rc.cells 46 8 vo acc so ∧ parseF readP ((linesR 10 s).drop i) i acc (restR 10 s) = parseF readP (linesR 10 s) 0 [] (restR 10 s))) (ss.1) (ss.2.1) (ss.2.2.1) (ss.2.2.2)) (fun (ss : (Nat) × (Value) × (Slot) × (List Rc)) => (fun (i : Nat) (vo : Value) (so : Slot) (acc : List Rc) => (linesR 10 s).length - i) (ss.1) (ss.2.1) (ss.2.2.1) (ss.2.2.2)) (0, .slice none 0 0, none, []) ?_ ?_
    · try dsimp only
      refine ⟨?_, ?_, ?_, ?_, ?_⟩
      · first | exact h1_0 | (rw [h1_0]; rfl) | (rw [h1_0]; simp; done)
      · first | exact h1_5 | (rw [h1_5]; rfl) | (rw [h1_5]; simp; done)
      · first | exact h1_6 | (rw [h1_6]; rfl) | (rw [h1_6]; simp; done)
      · rfl
      · exact ⟨Nat.zero_le _, rfl, RowL.nil _ _ _, rfl⟩
    · intro ss T2 L2 hI K9 hK9
      obtain ⟨i, vo, so, acc⟩ := ss
      try dsimp only at hI hK9
      obtain ⟨h2_0, h2_5, h2_6, hL2, ⟨hi, hal, hrow, hpf⟩⟩ := hI
      replace hL2 := hL2.symm
      subst hL2
      clear h1_0 h1_5 h1_6 T1
      refine SX.seq_k fun K10 hK10 => ?_
      refine SX.seq_k fun K11 hK11 => ?_
      refine SX.region_d [some 15, some 16] rfl (fun ops hops => ?_)
      unfold Dsts at hops
      simp (maxSteps := 1000000) (dsimp := false) (disch := omega) only [go_sem, ia_someH, hP, h2_0, h2_5, h2_6, hops]
      repeat' ((first | refine And.intro (by omega) ?_ | fail); try (with_reducible refine stI ?_); try simp (maxSteps := 1000000) (dsimp := false) (disch := omega) only [go_sem, ia_someH, hP, h2_0, h2_5, h2_6, hops])
      refine hK11 _ _ ?_
      try clear hK11 K11
      refine SX.cond_k fun X12 Y12 hX12 hY12 => ?_
      simp (maxSteps := 1000000) (dsimp := false) (disch := omega) only [go_sem, ia_someH, hP, h2_0, h2_5, h2_6, condVC]
      refine ⟨fun hc16 => hX12 ?_, fun hc16 => hY12 ?_⟩
      · clear hX12 hY12 X12 Y12
        refine SX.skip ?_
        try simp only [andThen_normal, andThen_ret, andThen_exit, inBlk_normal, inBlk_ret, inBlk_exit, Nat.reduceEqDiff, if_true, if_false, ↓reduceIte]
        refine hK10 _ _ ?_
        try clear hK10 K10
        refine SX.seq_k fun K13 hK13 => ?_
        refine SX.block ?_
        refine SX.seq_k fun K14 hK14 => ?_
        have hz1 := restAt_size s i
        have hz2 := cL_size (restAt s i)
        refine SX.region_d [some 20, some 21, some 19, some 22, some 23, some 24, some 7, some 8, some 9] rfl (fun ops hops => ?_)
        unfold Dsts at hops
        simp (maxSteps := 1000000) (dsimp := false) (disch := omega) only [go_sem, ia_someH, hP, h2_0, h2_5, h2_6, hops]
        refine SCall.mono (Cut_spec hP hM (by omega)) ?_
        rintro v_ L_ ⟨rfl, rfl⟩
        try with_reducible refine stI ?_
        try simp (maxSteps := 1000000) (dsimp := false) (disch := omega) only [go_sem, ia_someH, hP, h2_0, h2_5, h2_6, hops]
        refine hK14 _ _ ?_
        try clear hK14 K14
        refine SX.live [5, 6, 7, 8, 9] (fun T3 hT3 => ?_)
        simp only [forall_mem_cons', forall_mem_nil', go_sem, ia_someH, hP, h2_0, h2_5, h2_6] at hT3
        obtain ⟨h3_5, h3_6, h3_7, h3_8, h3_9⟩ := hT3
        clear h2_0 h2_5 h2_6 T2
        refine SX.seq_k fun K15 hK15 => ?_
        refine SX.region_d [some 26, some 27, some 25, some 28, some 29, some 10, none, some 11] rfl (fun ops hops => ?_)
        unfold Dsts at hops
        simp (maxSteps := 1000000) (dsimp := false) (disch := omega) only [go_sem, ia_someH, hP, h3_5, h3_6, h3_7, h3_8, h3_9, hops]
        refine SCall.mono (read_spec hP hMD hM (by omega)) ?_
        rintro v_ L_ ⟨rfl, rfl⟩
        try with_reducible refine stI ?_
        try simp (maxSteps := 1000000) (dsimp := false) (disch := omega) only [go_sem, ia_someH, hP, h3_5, h3_6, h3_7, h3_8, h3_9, hops]
        intro b10
        try with_reducible refine stI ?_
        try simp (maxSteps := 1000000) (dsimp := false) (disch := omega) only [go_sem, ia_someH, hP, h3_5, h3_6, h3_7, h3_8, h3_9, hops]
        refine ⟨rfl, rfl, 0, _, _, _, rfl, Nat.le_refl 8, .inr (Nat.zero_le 0), ?_⟩
        try with_reducible refine stI ?_
        try simp (maxSteps := 1000000) (dsimp := false) (disch := omega) only [go_sem, ia_someH, hP, h3_5, h3_6, h3_7, h3_8, h3_9, hops]
        rw [put_rc rfl]
        refine hK15 _ _ ?_
        try clear hK15 K15
        refine SX.seq_k fun K16 hK16 => ?_
        refine SX.seq_k fun K17 hK17 => ?_
        refine SX.region_xd [some 30, some 31, some 32, some 33, some 34, some 35] rfl (fun ops hops => ?_)
        unfold Dsts at hops
        refine RX.live [5, 6, 8, 9, 10, 11] (fun T4 hT4 => ?_)
        simp only [forall_mem_cons', forall_mem_nil', go_sem, ia_someH, hP, h3_5, h3_6, h3_7, h3_8, h3_9] at hT4
        obtain ⟨h4_5, h4_6, h4_8, h4_9, h4_10, h4_11⟩ := hT4
        clear h3_5 h3_6 h3_7 h3_8 h3_9 T3
        refine RX.join 6 (fun (ss : Unit) T L' => T 35 = .bool (!(readP (cL (restAt s i))).2 || !(Lib.cut (restAt s i).data.toList [10]).2.2) ∧ T 5 = T4 5 ∧ T 6 = T4 6 ∧ T 8 = T4 8 ∧ T 10 = T4 10 ∧ L' = some (b10, .cells (readP (cL (restAt s i))).1.cells.toArray 46 (0, 0)) :: so :: L ∧ (True)) (fun K18 hK18 => ?_) ?_
        · simp only [h4_5, h4_6, h4_8, h4_10] at hK18
          simp (maxSteps := 1000000) (dsimp := false) (disch := omega) only [go_sem, ia_someH, hP, h4_5, h4_6, h4_8, h4_9, h4_10, h4_11, hops]
          repeat' (first | refine iteB (fun hg => ?_) (fun hg => ?_) | refine iteI (fun hg => ?_) (fun hg => ?_) | ((first | refine And.intro (by omega) ?_ | refine ⟨_, Cell.at 0 rfl rfl, ?_⟩ | refine ⟨_, Cell.at 1 rfl rfl, ?_⟩ | fail); try (with_reducible refine stI ?_); try simp (maxSteps := 1000000) (dsimp := false) (disch := omega) only [go_sem, ia_someH, hP, h4_5, h4_6, h4_8, h4_9, h4_10, h4_11, hops]) | fail)
          all_goals
            refine hK18 () _ (some (b10, .cells (readP (cL (restAt s i))).1.cells.toArray 46 (0, 0)) :: so :: L) _ (by first | exact Less.refl _ | exact Less.drop _ _ | exact Less.drops (Less.drop _ _) | exact Less.drops (Less.drops (Less.drop _ _)) | exact Less.drops (Less.drops (Less.drops (Less.drop _ _))) | exact Less.drops (Less.drops (Less.drops (Less.drops (Less.drop _ _))))) ?_
            try dsimp only
            refine ⟨?_, ?_, ?_, ?_, ?_, ?_, ?_⟩
            · simp (maxSteps := 1000000) (dsimp := false) (disch := omega) only [go_sem, ia_someH, hP, h4_5, h4_6, h4_8, h4_9, h4_10, h4_11]
              first | done | (refine congrArg Value.bool ?_; simp_all; done)
            · simp (maxSteps := 1000000) (dsimp := false) (disch := omega) only [go_sem, ia_someH, hP, h4_5, h4_6, h4_8, h4_9, h4_10, h4_11]
            · simp (maxSteps := 1000000) (dsimp := false) (disch := omega) only [go_sem, ia_someH, hP, h4_5, h4_6, h4_8, h4_9, h4_10, h4_11]
            · simp (maxSteps := 1000000) (dsimp := false) (disch := omega) only [go_sem, ia_someH, hP, h4_5, h4_6, h4_8, h4_9, h4_10, h4_11]
            · simp (maxSteps := 1000000) (dsimp := false) (disch := omega) only [go_sem, ia_someH, hP, h4_5, h4_6, h4_8, h4_9, h4_10, h4_11]
            · rfl
            · trivial
        · intro ss T5 L5 hI
          simp only [h4_5, h4_6, h4_8, h4_10] at hI 
          obtain ⟨h5_35, h5_5, h5_6, h5_8, h5_10, hL5, hinv⟩ := hI
          replace hL5 := hL5.symm
          subst hL5
          clear h4_5 h4_6 h4_8 h4_9 h4_10 h4_11 T4
          refine RX.done ?_
          simp (maxSteps := 1000000) (dsimp := false) (disch := omega) only [go_sem, ia_someH, hP, h5_35, h5_5, h5_6, h5_8, h5_10, hops]
          refine hK17 _ _ ?_
          try clear hK17 K17
          refine SX.cond_k fun X19 Y19 hX19 hY19 => ?_
          simp (maxSteps := 1000000) (dsimp := false) (disch := omega) only [go_sem, ia_someH, hP, h5_35, h5_5, h5_6, h5_8, h5_10, condVC]
          refine ⟨fun hc35 => hX19 ?_, fun hc35 => hY19 ?_⟩
          · clear hX19 hY19 X19 Y19
            refine SX.seq_k fun K20 hK20 => ?_
            refine SX.region_d [some 36, some 2, some 3, some 4] rfl (fun ops hops => ?_)
            unfold Dsts at hops
            simp (maxSteps := 1000000) (dsimp := false) (disch := omega) only [go_sem, ia_someH, hP, h5_35, h5_5, h5_6, h5_8, h5_10, hops]
            refine hK20 _ _ ?_
            try clear hK20 K20
            refine SX.ret ?_
            simp only [andThen_normal, andThen_ret, andThen_exit, inBlk_normal, inBlk_ret, inBlk_exit, Nat.reduceEqDiff, if_true, if_false, ↓reduceIte, retQ_ret]
            try simp only [res0, res1, res2, res3, stK_e, go_sem, ia_someH, hP, h5_35, h5_5, h5_6, h5_8, h5_10]
            refine ⟨_, _, (Less.drops (Less.drop _ _)).trans (Less.none _), rfl, ?_⟩
            unfold parseS
            rw [if_neg (by omega), ← hpf, parse_stop hi hc16 (by first | exact hc35 | simpa using hc35)]
            exact ⟨_, _, rfl, rfl, RowL.nil _ _ _⟩
          · clear hX19 hY19 X19 Y19
            refine SX.skip ?_
            try simp only [andThen_normal, andThen_ret, andThen_exit, inBlk_normal, inBlk_ret, inBlk_exit, Nat.reduceEqDiff, if_true, if_false, ↓reduceIte]
            refine hK16 _ _ ?_
            try clear hK16 K16
            refine SX.seq_k fun K21 hK21 => ?_
            have hgo := parse_go (f := readP) (acc := acc) hi (by first | exact hc35 | simpa using hc35)
            obtain ⟨oA, oC, rfl, _, _⟩ := Row.form hrow
            refine SX.region_d [some 37, some 38, some 39, some 40, some 5] rfl (fun ops hops => ?_)
            unfold Dsts at hops
            simp (maxSteps := 1000000) (dsimp := false) (disch := omega) only [go_sem, ia_someH, hP, h5_35, h5_5, h5_6, h5_8, h5_10, hops]
            refine ⟨_, Cell.at 0 rfl (show (Rc.cells _)[0]? = _ from rfl), _, Cell.at 0 rfl (show (Rc.cells _)[1]? = _ from rfl), _, Cell.at 0 rfl (show (Rc.cells _)[2]? = _ from rfl), _, Cell.at 0 rfl (show (Rc.cells _)[3]? = _ from rfl), _, Cell.at 0 rfl (show (Rc.cells _)[4]? = _ from rfl), _, Cell.at 0 rfl (show (Rc.cells _)[5]? = _ from rfl), _, Cell.at 0 rfl (show (Rc.cells _)[6]? = _ from rfl), _, Cell.at 0 rfl (show (Rc.cells _)[7]? = _ from rfl), ?_⟩
            try with_reducible refine stI ?_
            try simp (maxSteps := 1000000) (dsimp := false) (disch := omega) only [go_sem, ia_someH, hP, h5_35, h5_5, h5_6, h5_8, h5_10, hops]
            intro g22
            try with_reducible refine stI ?_
            try simp (maxSteps := 1000000) (dsimp := false) (disch := omega) only [go_sem, ia_someH, hP, h5_35, h5_5, h5_6, h5_8, h5_10, hops]
            refine YAppend.rowL (f := Rc.cells) (x := (readP (cL (restAt s i))).1) (i := 1) (z := [.int .u8 0, .int .u16 0, .int .u8 0, .bool false, .bool false, .int .u8 0, .bool false, .int .u8 0]) (hP ▸ T.elS_23) (hP ▸ T.zr_46) rfl rfl rfl rfl hrow (by omega) (by decide) ?_
            intro v' s' hr'
            try with_reducible refine stI ?_
            try simp (maxSteps := 1000000) (dsimp := false) (disch := omega) only [go_sem, ia_someH, hP, h5_35, h5_5, h5_6, h5_8, h5_10, hops]
            refine hK21 _ _ ?_
            try clear hK21 K21
            refine SX.region_d [some 41, some 0] rfl (fun ops hops => ?_)
            unfold Dsts at hops
            simp (maxSteps := 1000000) (dsimp := false) (disch := omega) only [go_sem, ia_someH, hP, h5_35, h5_5, h5_6, h5_8, h5_10, hops]
            refine hK13 _ _ ?_
            try clear hK13 K13
            refine SX.region_d [some 17, some 18, some 6] rfl (fun ops hops => ?_)
            unfold Dsts at hops
            simp (maxSteps := 1000000) (dsimp := false) (disch := omega) only [go_sem, ia_someH, hP, h5_35, h5_5, h5_6, h5_8, h5_10, hops]
            repeat' ((first | refine And.intro (by omega) ?_ | fail); try (with_reducible refine stI ?_); try simp (maxSteps := 1000000) (dsimp := false) (disch := omega) only [go_sem, ia_someH, hP, h5_35, h5_5, h5_6, h5_8, h5_10, hops])
            refine hK9 (i + 1, v', s', acc ++ [(readP (cL (restAt s i))).1]) _ (s' :: L) _ (by exact Less.drops (Less.drop _ _)) ?_ ?_
            · try dsimp only
              refine ⟨?_, ?_, ?_, ?_, ?_⟩
              · simp (maxSteps := 1000000) (dsimp := false) (disch := omega) only [go_sem, ia_someH, hP, h5_35, h5_5, h5_6, h5_8, h5_10]
                first | done | rfl | skip
              · simp (maxSteps := 1000000) (dsimp := false) (disch := omega) only [go_sem, ia_someH, hP, h5_35, h5_5, h5_6, h5_8, h5_10]
                first | done | rfl | skip
              · simp (maxSteps := 1000000) (dsimp := false) (disch := omega) only [go_sem, ia_someH, hP, h5_35, h5_5, h5_6, h5_8, h5_10]
                first | done | rfl | skip
              · rfl
              · exact ⟨by omega, by rw [List.length_append, hal]; rfl, hr', by rw [← hgo.2]; exact hpf⟩
            · (try dsimp only); omega
      · clear hX12 hY12 X12 Y12
        refine SX.exit ?_
        try simp only [andThen_normal, andThen_ret, andThen_exit, inBlk_normal, inBlk_ret, inBlk_exit, Nat.reduceEqDiff, if_true, if_false, ↓reduceIte]
        refine hK7 _ _ ?_
        try clear hK7 K7
        refine SX.seq_k fun K22 hK22 => ?_
        refine SX.region_d [some 42, some 2, some 3, some 4] rfl (fun ops hops => ?_)
        unfold Dsts at hops
        simp (maxSteps := 1000000) (dsimp := false) (disch := omega) only [go_sem, ia_someH, hP, h2_0, h2_5, h2_6, hops]
        refine hK22 _ _ ?_
        try clear hK22 K22
        refine SX.ret ?_
        simp only [andThen_normal, andThen_ret, andThen_exit, inBlk_normal, inBlk_ret, inBlk_exit, Nat.reduceEqDiff, if_true, if_false, ↓reduceIte, retQ_ret]
        try simp only [res0, res1, res2, res3, stK_e, go_sem, ia_someH, hP, h2_0, h2_5, h2_6]
        refine ⟨_, _, Less.refl _, rfl, ?_⟩
        unfold parseS
        rw [if_neg (by omega), ← hpf, parse_end hi (by first | exact hc16 | exact Decidable.not_not.1 hc16 | simpa using hc16)]
        exact ⟨_, _, rfl, rfl, hrow⟩

end Go.Proofs.YtcenlgofldnfcaaDoor
set_option linter.unusedVariables false
set_option linter.unusedSimpArgs false
namespace Go.Proofs.YtcenlgofldnfcaaDoor
open Go.RowKit Go.SX Go.Proofs
open Go.SX renaming ia_someH → Φa

/-! The document's Lines, Words and Number. -/
abbrev RowS (v : Value) (l : List ByteArray) (s : Slot) : Prop := RowL stV 9 1 v l s
theorem RowS.cell {v : Value} {ws : List ByteArray} {s : Slot} (h : RowS v ws s) :
    ∃ A c b, v = .slice A ws.length c ∧ (ws.length ≤ c ∧ c ≤ 9223372036854775807) ∧ (0 < ws.length → A = some ⟨b, 0, none⟩) ∧ ∀ (Γ : Ctx) (L : Hp) (i : Nat), L[i]? = some s → ∀ j, j < ws.length → Cell Γ L ⟨b, j, none⟩ (.string (ws.getD j eB)) := by
  rcases h with ⟨hx, ⟨rfl, hn, _⟩ | ⟨r, cap, junk, rfl, rfl, hc, hj⟩⟩
  · exact ⟨none, 0, 0, by rw [hn], ⟨by omega, by decide⟩, fun h => by omega, fun Γ L i hi j hj => by omega⟩
  · refine ⟨some ⟨r, 0, none⟩, cap, r, rfl, hc, fun _ => rfl, fun Γ L i hi j hj2 => Cell.at i hi ?_⟩
    have e : ∀ l : List ByteArray, l.flatMap stV = l.map Value.string := fun l => by
      induction l with
      | nil => rfl
      | cons a l ih => rw [List.flatMap_cons, ih]; rfl
    rw [e, List.getElem?_append_left (by rw [List.length_map]; exact hj2), List.getElem?_map, List.getD_eq_getElem?_getD, List.getElem?_eq_getElem hj2]
    rfl
theorem ten8 : ((10 : UInt8).toNat : Int) = 10 := rfl
theorem sp8 : ((32 : UInt8).toNat : Int) = 32 := rfl
set_option maxHeartbeats 1000000 in
set_option maxRecDepth 100000 in
theorem Lines_spec {Γ : Ctx} (hP : Γ.P = Tryd.prog) {L : Hp} {s : ByteArray} (hs : s.size ≤ 65536) :
    SCall Γ 43 #[(.string s)] L (fun v L' => ∃ vo so, v = .tuple #[vo, .string (restR 10 s)] ∧ L' = so :: L ∧ RowS vo (linesR 10 s) so) := by
  refine SCall.enter (n := 30) (res2 2 3) (hP ▸ Tryd.func43) rfl rfl (by simp) (res2_ok rfl) ?_
  refine SX.seq_k fun K1 hK1 => ?_
  refine SX.region_d [some 2, some 3] rfl (fun ops hops => ?_)
  unfold Dsts at hops
  simp (maxSteps:=1000000)(dsimp:=false)(disch:=omega) only [go_sem, Φa, hP, hops]
  refine hK1 _ _ ?_
  try clear hK1 K1
  refine SX.seq_k fun K2 hK2 => ?_
  refine SX.region_d [some 4] rfl (fun ops hops => ?_)
  unfold Dsts at hops
  simp (maxSteps:=1000000)(dsimp:=false)(disch:=omega) only [go_sem, Φa, hP, hops]
  refine hK2 _ _ ?_
  try clear hK2 K2
  refine SX.seq_k fun K3 hK3 => ?_
  refine SX.region_d [some 5] rfl (fun ops hops => ?_)
  unfold Dsts at hops
  simp (maxSteps:=1000000)(dsimp:=false)(disch:=omega) only [go_sem, Φa, hP, hops]
  refine hK3 _ _ ?_
  try clear hK3 K3
  refine SX.seq_k fun K4 hK4 => ?_
  refine SX.seq_k fun K5 hK5 => ?_
  refine SX.less (Less.none _) ?_
  refine SX.region_d [some 6] rfl (fun ops hops => ?_)
  unfold Dsts at hops
  simp (maxSteps:=1000000)(dsimp:=false)(disch:=omega) only [go_sem, Φa, hP, hops]
  refine hK5 _ _ ?_
  try clear hK5 K5
  refine SX.block ?_
  refine SX.live [0, 4, 5, 6] (fun T1 hT1 => ?_)
  simp only [forall_mem_cons', forall_mem_nil', go_sem, Φa, hP] at hT1
  obtain ⟨h1_0, h1_4, h1_5, h1_6⟩ := hT1
  refine SX.loop_k (fun (ss : (Nat) × (Value) × (Slot)) T L' => (fun (i : Nat) (vo : Value) (so : Slot) => T 4 = vo ∧ T 5 = .int .i64 (((lnAt 10 s i).2 : Nat) : Int) ∧ T 6 = .int .i64 (i : Int) ∧ T 0 = T1 0 ∧ L' = so :: L ∧ (i ≤ s.size ∧ RowS vo (lnAt 10 s i).1 so)) (ss.1) (ss.2.1) (ss.2.2)) (fun (ss : (Nat) × (Value) × (Slot)) => (fun (i : Nat) (vo : Value) (so : Slot) => s.size - i) (ss.1) (ss.2.1) (ss.2.2)) (0, .slice none 0 0, none) ?_ ?_
  · try dsimp only
    refine ⟨?_, ?_, ?_, ?_, ?_, ?_⟩
    · first | exact h1_4 | (rw [h1_4]; rfl) | (rw [h1_4]; simp; done)
    · first | exact h1_5 | (rw [h1_5]; rfl) | (rw [h1_5]; simp; done)
    · first | exact h1_6 | (rw [h1_6]; rfl) | (rw [h1_6]; simp; done)
    · rfl
    · rfl
    · exact ⟨Nat.zero_le _, RowL.nil _ _ _⟩
  · intro ss T2 L2 hI K6 hK6
    obtain ⟨i, vo, so⟩ := ss
    try dsimp only at hI hK6
    simp only [h1_0] at hI hK6
    obtain ⟨h2_4, h2_5, h2_6, h2_0, hL2, ⟨hi, hrow⟩⟩ := hI
    replace hL2 := hL2.symm
    subst hL2
    clear h1_0 h1_4 h1_5 h1_6 T1
    refine SX.seq_k fun K7 hK7 => ?_
    refine SX.seq_k fun K8 hK8 => ?_
    refine SX.region_d [some 7, some 8, some 9, some 10] rfl (fun ops hops => ?_)
    unfold Dsts at hops
    simp (maxSteps:=1000000)(dsimp:=false)(disch:=omega) only [go_sem, Φa, hP, h2_4, h2_5, h2_6, h2_0, hops]
    repeat' ((first | refine And.intro (by omega) ?_ | fail); try (with_reducible refine stI ?_); try simp (maxSteps:=1000000)(dsimp:=false)(disch:=omega) only [go_sem, Φa, hP, h2_4, h2_5, h2_6, h2_0, hops])
    refine hK8 _ _ ?_
    try clear hK8 K8
    refine SX.cond_k fun X9 Y9 hX9 hY9 => ?_
    simp (maxSteps:=1000000)(dsimp:=false)(disch:=omega) only [go_sem, Φa, hP, h2_4, h2_5, h2_6, h2_0, condVC]
    refine ⟨fun hc10 => hX9 ?_, fun hc10 => hY9 ?_⟩
    · clear hX9 hY9 X9 Y9
      refine SX.skip ?_
      try simp only [andThen_normal, andThen_ret, andThen_exit, inBlk_normal, inBlk_ret, inBlk_exit, Nat.reduceEqDiff, if_true, if_false, ↓reduceIte]
      refine hK7 _ _ ?_
      try clear hK7 K7
      refine SX.seq_k fun K10 hK10 => ?_
      refine SX.block ?_
      refine SX.seq_k fun K11 hK11 => ?_
      have hil : i < s.size := by omega
      obtain ⟨b, hb1, hb2⟩ := nums8_getD hil
      obtain ⟨hv1, hv2, _⟩ := lnAt_inv 10 s i (by omega)
      refine SX.region_d [some 13, some 14, some 15, some 16] rfl (fun ops hops => ?_)
      unfold Dsts at hops
      simp (maxSteps:=1000000)(dsimp:=false)(disch:=omega) only [go_sem, Φa, hP, h2_4, h2_5, h2_6, h2_0, hops, hb1]
      refine ⟨_, rfl, ?_⟩
      try with_reducible refine stI ?_
      try simp (maxSteps:=1000000)(dsimp:=false)(disch:=omega) only [go_sem, Φa, hP, h2_4, h2_5, h2_6, h2_0, hops, hb1]
      refine hK11 _ _ ?_
      try clear hK11 K11
      refine SX.cond_k fun X12 Y12 hX12 hY12 => ?_
      simp (maxSteps:=1000000)(dsimp:=false)(disch:=omega) only [go_sem, Φa, hP, h2_4, h2_5, h2_6, h2_0, condVC]
      refine ⟨fun hc16 => hX12 ?_, fun hc16 => hY12 ?_⟩
      · clear hX12 hY12 X12 Y12
        have h10 : (nums8 s).getD i 0 = ((10 : UInt8).toNat : Int) := by rw [hb2, ten8]; first | exact hc16 | simpa using hc16
        refine SX.seq_k fun K13 hK13 => ?_
        refine SX.region_d [some 17, some 18, some 19, some 20, some 21, some 22, some 23, some 4] rfl (fun ops hops => ?_)
        unfold Dsts at hops
        simp (maxSteps:=1000000)(dsimp:=false)(disch:=omega) only [go_sem, Φa, hP, h2_4, h2_5, h2_6, h2_0, hops]
        intro g7
        try with_reducible refine stI ?_
        try simp (maxSteps:=1000000)(dsimp:=false)(disch:=omega) only [go_sem, Φa, hP, h2_4, h2_5, h2_6, h2_0, hops]
        refine YAppend.rowL (z := [.string ⟨#[]⟩]) (f := stV) (x := s.extract (lnAt 10 s i).2 i) (i := 0) (hP ▸ T.elS_75) (hP ▸ T.zr_9) rfl rfl rfl rfl hrow (by omega) (by decide) ?_
        intro v' s' hr'
        try with_reducible refine stI ?_
        try simp (maxSteps:=1000000)(dsimp:=false)(disch:=omega) only [go_sem, Φa, hP, h2_4, h2_5, h2_6, h2_0, hops]
        refine hK13 _ _ ?_
        try clear hK13 K13
        refine SX.live [0, 4, 6] (fun T3 hT3 => ?_)
        simp only [forall_mem_cons', forall_mem_nil', go_sem, Φa, hP, h2_4, h2_5, h2_6, h2_0] at hT3
        obtain ⟨h3_0, h3_4, h3_6⟩ := hT3
        clear h2_4 h2_5 h2_6 h2_0 T2
        refine SX.region_d [some 24, some 25, some 5] rfl (fun ops hops => ?_)
        unfold Dsts at hops
        simp (maxSteps:=1000000)(dsimp:=false)(disch:=omega) only [go_sem, Φa, hP, h3_0, h3_4, h3_6, hops]
        repeat' ((first | refine And.intro (by omega) ?_ | fail); try (with_reducible refine stI ?_); try simp (maxSteps:=1000000)(dsimp:=false)(disch:=omega) only [go_sem, Φa, hP, h3_0, h3_4, h3_6, hops])
        refine hK10 _ _ ?_
        try clear hK10 K10
        refine SX.region_d [some 11, some 12, some 6] rfl (fun ops hops => ?_)
        unfold Dsts at hops
        simp (maxSteps:=1000000)(dsimp:=false)(disch:=omega) only [go_sem, Φa, hP, h3_0, h3_4, h3_6, hops]
        repeat' ((first | refine And.intro (by omega) ?_ | fail); try (with_reducible refine stI ?_); try simp (maxSteps:=1000000)(dsimp:=false)(disch:=omega) only [go_sem, Φa, hP, h3_0, h3_4, h3_6, hops])
        refine hK6 (i + 1, v', s') _ (s' :: L) _ (by exact Less.drop _ _) ?_ ?_
        · try dsimp only
          refine ⟨?_, ?_, ?_, ?_, ?_, ?_⟩
          · simp (maxSteps:=1000000)(dsimp:=false)(disch:=omega) only [go_sem, Φa, hP, h3_0, h3_4, h3_6]
            first | done | rfl | skip
          · simp (maxSteps:=1000000)(dsimp:=false)(disch:=omega) only [go_sem, Φa, hP, h3_0, h3_4, h3_6]
            rw [lnAt, if_pos h10]; try rfl
          · simp (maxSteps:=1000000)(dsimp:=false)(disch:=omega) only [go_sem, Φa, hP, h3_0, h3_4, h3_6]
            first | done | rfl | skip
          · simp (maxSteps:=1000000)(dsimp:=false)(disch:=omega) only [go_sem, Φa, hP, h3_0, h3_4, h3_6]
          · rfl
          · refine ⟨by omega, ?_⟩
            rw [lnAt, if_pos h10]
            exact hr'
        · (try dsimp only); omega
      · clear hX12 hY12 X12 Y12
        have hn10 : ¬ (nums8 s).getD i 0 = ((10 : UInt8).toNat : Int) := by rw [hb2, ten8]; first | exact hc16 | simpa using hc16
        refine SX.skip ?_
        try simp only [andThen_normal, andThen_ret, andThen_exit, inBlk_normal, inBlk_ret, inBlk_exit, Nat.reduceEqDiff, if_true, if_false, ↓reduceIte]
        refine hK10 _ _ ?_
        try clear hK10 K10
        refine SX.region_d [some 11, some 12, some 6] rfl (fun ops hops => ?_)
        unfold Dsts at hops
        simp (maxSteps:=1000000)(dsimp:=false)(disch:=omega) only [go_sem, Φa, hP, h2_4, h2_5, h2_6, h2_0, hops]
        repeat' ((first | refine And.intro (by omega) ?_ | fail); try (with_reducible refine stI ?_); try simp (maxSteps:=1000000)(dsimp:=false)(disch:=omega) only [go_sem, Φa, hP, h2_4, h2_5, h2_6, h2_0, hops])
        refine hK6 (i + 1, vo, so) _ (so :: L) _ (by exact Less.refl _) ?_ ?_
        · try dsimp only
          refine ⟨?_, ?_, ?_, ?_, ?_, ?_⟩
          · simp (maxSteps:=1000000)(dsimp:=false)(disch:=omega) only [go_sem, Φa, hP, h2_4, h2_5, h2_6, h2_0]
            first | done | rfl | skip
          · simp (maxSteps:=1000000)(dsimp:=false)(disch:=omega) only [go_sem, Φa, hP, h2_4, h2_5, h2_6, h2_0]
            rw [lnAt, if_neg hn10]; try assumption
          · simp (maxSteps:=1000000)(dsimp:=false)(disch:=omega) only [go_sem, Φa, hP, h2_4, h2_5, h2_6, h2_0]
            first | done | rfl | skip
          · simp (maxSteps:=1000000)(dsimp:=false)(disch:=omega) only [go_sem, Φa, hP, h2_4, h2_5, h2_6, h2_0]
          · rfl
          · refine ⟨by omega, ?_⟩
            rw [lnAt, if_neg hn10]
            exact hrow
        · (try dsimp only); omega
    · clear hX9 hY9 X9 Y9
      refine SX.exit ?_
      try simp only [andThen_normal, andThen_ret, andThen_exit, inBlk_normal, inBlk_ret, inBlk_exit, Nat.reduceEqDiff, if_true, if_false, ↓reduceIte]
      refine hK4 _ _ ?_
      try clear hK4 K4
      refine SX.seq_k fun K14 hK14 => ?_
      obtain rfl : i = s.size := by omega
      obtain ⟨hle, hl2, _⟩ := lnAt_inv 10 s s.size (Nat.le_refl _)
      refine SX.quiet_d (hP ▸ T.mixed) (by kernel_rfl) [some 26, some 27, some 28, some 29, some 2, some 3] rfl (fun ops hops => ?_)
      unfold Dsts at hops
      simp (maxSteps:=1000000)(dsimp:=false)(disch:=omega) only [go_sem, Φa, hP, h2_4, h2_5, h2_6, h2_0, hops]
      repeat' ((first | refine And.intro (by omega) ?_ | fail); try (with_reducible refine stI ?_); try simp (maxSteps:=1000000)(dsimp:=false)(disch:=omega) only [go_sem, Φa, hP, h2_4, h2_5, h2_6, h2_0, hops])
      refine hK14 _ _ ?_
      try clear hK14 K14
      refine SX.ret ?_
      simp only [andThen_normal, andThen_ret, andThen_exit, inBlk_normal, inBlk_ret, inBlk_exit, Nat.reduceEqDiff, if_true, if_false, ↓reduceIte, retQ_ret]
      try simp only [res0, res1, res2, res3, stK_e, go_sem, Φa, hP, h2_4, h2_5, h2_6, h2_0]
      exact ⟨_, _, Less.refl _, rfl, vo, so, rfl, rfl, hrow⟩
set_option maxHeartbeats 1000000 in
set_option maxRecDepth 100000 in
theorem Words_spec {Γ : Ctx} (hP : Γ.P = Tryd.prog) {L : Hp} {s : ByteArray} (hs : s.size ≤ 65536) :
    SCall Γ 55 #[(.string s)] L (fun v L' => ∃ vo so, v = vo ∧ L' = so :: L ∧ RowS vo (wordsR s) so) := by
  refine SCall.enter (n := 31) (res1 2) (hP ▸ Tryd.func55) rfl rfl (by simp) (res1_ok rfl) ?_
  refine SX.seq_k fun K1 hK1 => ?_
  refine SX.region_d [some 2] rfl (fun ops hops => ?_)
  unfold Dsts at hops
  simp (maxSteps:=1000000)(dsimp:=false)(disch:=omega) only [go_sem, Φa, hP, hops]
  refine hK1 _ _ ?_
  try clear hK1 K1
  refine SX.seq_k fun K2 hK2 => ?_
  refine SX.region_d [some 3] rfl (fun ops hops => ?_)
  unfold Dsts at hops
  simp (maxSteps:=1000000)(dsimp:=false)(disch:=omega) only [go_sem, Φa, hP, hops]
  refine hK2 _ _ ?_
  try clear hK2 K2
  refine SX.seq_k fun K3 hK3 => ?_
  refine SX.region_d [some 4] rfl (fun ops hops => ?_)
  unfold Dsts at hops
  simp (maxSteps:=1000000)(dsimp:=false)(disch:=omega) only [go_sem, Φa, hP, hops]
  refine hK3 _ _ ?_
  try clear hK3 K3
  refine SX.seq_k fun K4 hK4 => ?_
  refine SX.seq_k fun K5 hK5 => ?_
  refine SX.less (Less.none _) ?_
  refine SX.region_d [some 5] rfl (fun ops hops => ?_)
  unfold Dsts at hops
  simp (maxSteps:=1000000)(dsimp:=false)(disch:=omega) only [go_sem, Φa, hP, hops]
  refine hK5 _ _ ?_
  try clear hK5 K5
  refine SX.block ?_
  refine SX.live [0, 3, 4, 5] (fun T1 hT1 => ?_)
  simp only [forall_mem_cons', forall_mem_nil', go_sem, Φa, hP] at hT1
  obtain ⟨h1_0, h1_3, h1_4, h1_5⟩ := hT1
  refine SX.loop_k (fun (ss : (Nat) × (Value) × (Slot)) T L' => (fun (i : Nat) (vo : Value) (so : Slot) => T 3 = vo ∧ T 4 = .int .i64 (((lnAt 32 s i).2 : Nat) : Int) ∧ T 5 = .int .i64 (i : Int) ∧ T 0 = T1 0 ∧ L' = so :: L ∧ (i ≤ s.size ∧ RowS vo (lnAt 32 s i).1 so)) (ss.1) (ss.2.1) (ss.2.2)) (fun (ss : (Nat) × (Value) × (Slot)) => (fun (i : Nat) (vo : Value) (so : Slot) => s.size - i) (ss.1) (ss.2.1) (ss.2.2)) (0, .slice none 0 0, none) ?_ ?_
  · try dsimp only
    refine ⟨?_, ?_, ?_, ?_, ?_, ?_⟩
    · first | exact h1_3 | (rw [h1_3]; rfl) | (rw [h1_3]; simp; done)
    · first | exact h1_4 | (rw [h1_4]; rfl) | (rw [h1_4]; simp; done)
    · first | exact h1_5 | (rw [h1_5]; rfl) | (rw [h1_5]; simp; done)
    · rfl
    · rfl
    · exact ⟨Nat.zero_le _, RowL.nil _ _ _⟩
  · intro ss T2 L2 hI K6 hK6
    obtain ⟨i, vo, so⟩ := ss
    try dsimp only at hI hK6
    simp only [h1_0] at hI hK6
    obtain ⟨h2_3, h2_4, h2_5, h2_0, hL2, ⟨hi, hrow⟩⟩ := hI
    replace hL2 := hL2.symm
    subst hL2
    clear h1_0 h1_3 h1_4 h1_5 T1
    refine SX.seq_k fun K7 hK7 => ?_
    refine SX.seq_k fun K8 hK8 => ?_
    refine SX.region_d [some 6, some 7, some 8, some 9] rfl (fun ops hops => ?_)
    unfold Dsts at hops
    simp (maxSteps:=1000000)(dsimp:=false)(disch:=omega) only [go_sem, Φa, hP, h2_3, h2_4, h2_5, h2_0, hops]
    repeat' ((first | refine And.intro (by omega) ?_ | fail); try (with_reducible refine stI ?_); try simp (maxSteps:=1000000)(dsimp:=false)(disch:=omega) only [go_sem, Φa, hP, h2_3, h2_4, h2_5, h2_0, hops])
    refine hK8 _ _ ?_
    try clear hK8 K8
    refine SX.cond_k fun X9 Y9 hX9 hY9 => ?_
    simp (maxSteps:=1000000)(dsimp:=false)(disch:=omega) only [go_sem, Φa, hP, h2_3, h2_4, h2_5, h2_0, condVC]
    refine ⟨fun hc9 => hX9 ?_, fun hc9 => hY9 ?_⟩
    · clear hX9 hY9 X9 Y9
      refine SX.skip ?_
      try simp only [andThen_normal, andThen_ret, andThen_exit, inBlk_normal, inBlk_ret, inBlk_exit, Nat.reduceEqDiff, if_true, if_false, ↓reduceIte]
      refine hK7 _ _ ?_
      try clear hK7 K7
      refine SX.seq_k fun K10 hK10 => ?_
      refine SX.block ?_
      refine SX.seq_k fun K11 hK11 => ?_
      have hil : i < s.size := by omega
      obtain ⟨b, hb1, hb2⟩ := nums8_getD hil
      obtain ⟨hv1, hv2, _⟩ := lnAt_inv 32 s i (by omega)
      refine SX.region_d [some 12, some 13, some 14, some 15] rfl (fun ops hops => ?_)
      unfold Dsts at hops
      simp (maxSteps:=1000000)(dsimp:=false)(disch:=omega) only [go_sem, Φa, hP, h2_3, h2_4, h2_5, h2_0, hops, hb1]
      refine ⟨_, rfl, ?_⟩
      try with_reducible refine stI ?_
      try simp (maxSteps:=1000000)(dsimp:=false)(disch:=omega) only [go_sem, Φa, hP, h2_3, h2_4, h2_5, h2_0, hops, hb1]
      refine hK11 _ _ ?_
      try clear hK11 K11
      refine SX.cond_k fun X12 Y12 hX12 hY12 => ?_
      simp (maxSteps:=1000000)(dsimp:=false)(disch:=omega) only [go_sem, Φa, hP, h2_3, h2_4, h2_5, h2_0, condVC]
      refine ⟨fun hc15 => hX12 ?_, fun hc15 => hY12 ?_⟩
      · clear hX12 hY12 X12 Y12
        have h10 : (nums8 s).getD i 0 = ((32 : UInt8).toNat : Int) := by rw [hb2, sp8]; first | exact hc15 | simpa using hc15
        refine SX.seq_k fun K13 hK13 => ?_
        refine SX.region_d [some 16, some 17, some 18, some 19, some 20, some 21, some 22, some 3] rfl (fun ops hops => ?_)
        unfold Dsts at hops
        simp (maxSteps:=1000000)(dsimp:=false)(disch:=omega) only [go_sem, Φa, hP, h2_3, h2_4, h2_5, h2_0, hops]
        intro g7
        try with_reducible refine stI ?_
        try simp (maxSteps:=1000000)(dsimp:=false)(disch:=omega) only [go_sem, Φa, hP, h2_3, h2_4, h2_5, h2_0, hops]
        refine YAppend.rowL (z := [.string ⟨#[]⟩]) (f := stV) (x := s.extract (lnAt 32 s i).2 i) (i := 0) (hP ▸ T.elS_75) (hP ▸ T.zr_9) rfl rfl rfl rfl hrow (by omega) (by decide) ?_
        intro v' s' hr'
        try with_reducible refine stI ?_
        try simp (maxSteps:=1000000)(dsimp:=false)(disch:=omega) only [go_sem, Φa, hP, h2_3, h2_4, h2_5, h2_0, hops]
        refine hK13 _ _ ?_
        try clear hK13 K13
        refine SX.live [0, 3, 5] (fun T3 hT3 => ?_)
        simp only [forall_mem_cons', forall_mem_nil', go_sem, Φa, hP, h2_3, h2_4, h2_5, h2_0] at hT3
        obtain ⟨h3_0, h3_3, h3_5⟩ := hT3
        clear h2_3 h2_4 h2_5 h2_0 T2
        refine SX.region_d [some 23, some 24, some 4] rfl (fun ops hops => ?_)
        unfold Dsts at hops
        simp (maxSteps:=1000000)(dsimp:=false)(disch:=omega) only [go_sem, Φa, hP, h3_0, h3_3, h3_5, hops]
        repeat' ((first | refine And.intro (by omega) ?_ | fail); try (with_reducible refine stI ?_); try simp (maxSteps:=1000000)(dsimp:=false)(disch:=omega) only [go_sem, Φa, hP, h3_0, h3_3, h3_5, hops])
        refine hK10 _ _ ?_
        try clear hK10 K10
        refine SX.region_d [some 10, some 11, some 5] rfl (fun ops hops => ?_)
        unfold Dsts at hops
        simp (maxSteps:=1000000)(dsimp:=false)(disch:=omega) only [go_sem, Φa, hP, h3_0, h3_3, h3_5, hops]
        repeat' ((first | refine And.intro (by omega) ?_ | fail); try (with_reducible refine stI ?_); try simp (maxSteps:=1000000)(dsimp:=false)(disch:=omega) only [go_sem, Φa, hP, h3_0, h3_3, h3_5, hops])
        refine hK6 (i + 1, v', s') _ (s' :: L) _ (by exact Less.drop _ _) ?_ ?_
        · try dsimp only
          refine ⟨?_, ?_, ?_, ?_, ?_, ?_⟩
          · simp (maxSteps:=1000000)(dsimp:=false)(disch:=omega) only [go_sem, Φa, hP, h3_0, h3_3, h3_5]
            first | done | rfl | skip
          · simp (maxSteps:=1000000)(dsimp:=false)(disch:=omega) only [go_sem, Φa, hP, h3_0, h3_3, h3_5]
            rw [lnAt, if_pos h10]; try rfl
          · simp (maxSteps:=1000000)(dsimp:=false)(disch:=omega) only [go_sem, Φa, hP, h3_0, h3_3, h3_5]
            first | done | rfl | skip
          · simp (maxSteps:=1000000)(dsimp:=false)(disch:=omega) only [go_sem, Φa, hP, h3_0, h3_3, h3_5]
          · rfl
          · refine ⟨by omega, ?_⟩
            rw [lnAt, if_pos h10]
            exact hr'
        · (try dsimp only); omega
      · clear hX12 hY12 X12 Y12
        have hn10 : ¬ (nums8 s).getD i 0 = ((32 : UInt8).toNat : Int) := by rw [hb2, sp8]; first | exact hc15 | simpa using hc15
        refine SX.skip ?_
        try simp only [andThen_normal, andThen_ret, andThen_exit, inBlk_normal, inBlk_ret, inBlk_exit, Nat.reduceEqDiff, if_true, if_false, ↓reduceIte]
        refine hK10 _ _ ?_
        try clear hK10 K10
        refine SX.region_d [some 10, some 11, some 5] rfl (fun ops hops => ?_)
        unfold Dsts at hops
        simp (maxSteps:=1000000)(dsimp:=false)(disch:=omega) only [go_sem, Φa, hP, h2_3, h2_4, h2_5, h2_0, hops]
        repeat' ((first | refine And.intro (by omega) ?_ | fail); try (with_reducible refine stI ?_); try simp (maxSteps:=1000000)(dsimp:=false)(disch:=omega) only [go_sem, Φa, hP, h2_3, h2_4, h2_5, h2_0, hops])
        refine hK6 (i + 1, vo, so) _ (so :: L) _ (by exact Less.refl _) ?_ ?_
        · try dsimp only
          refine ⟨?_, ?_, ?_, ?_, ?_, ?_⟩
          · simp (maxSteps:=1000000)(dsimp:=false)(disch:=omega) only [go_sem, Φa, hP, h2_3, h2_4, h2_5, h2_0]
            first | done | rfl | skip
          · simp (maxSteps:=1000000)(dsimp:=false)(disch:=omega) only [go_sem, Φa, hP, h2_3, h2_4, h2_5, h2_0]
            rw [lnAt, if_neg hn10]; try assumption
          · simp (maxSteps:=1000000)(dsimp:=false)(disch:=omega) only [go_sem, Φa, hP, h2_3, h2_4, h2_5, h2_0]
            first | done | rfl | skip
          · simp (maxSteps:=1000000)(dsimp:=false)(disch:=omega) only [go_sem, Φa, hP, h2_3, h2_4, h2_5, h2_0]
          · rfl
          · refine ⟨by omega, ?_⟩
            rw [lnAt, if_neg hn10]
            exact hrow
        · (try dsimp only); omega
    · clear hX9 hY9 X9 Y9
      refine SX.exit ?_
      try simp only [andThen_normal, andThen_ret, andThen_exit, inBlk_normal, inBlk_ret, inBlk_exit, Nat.reduceEqDiff, if_true, if_false, ↓reduceIte]
      refine hK4 _ _ ?_
      try clear hK4 K4
      refine SX.seq_k fun K14 hK14 => ?_
      obtain rfl : i = s.size := by omega
      obtain ⟨hle, hl2, _⟩ := lnAt_inv 32 s s.size (Nat.le_refl _)
      refine SX.region_d [some 25, some 26, some 27, some 28, some 29, some 30, some 2] rfl (fun ops hops => ?_)
      unfold Dsts at hops
      simp (maxSteps:=1000000)(dsimp:=false)(disch:=omega) only [go_sem, Φa, hP, h2_3, h2_4, h2_5, h2_0, hops]
      intro g9
      try with_reducible refine stI ?_
      try simp (maxSteps:=1000000)(dsimp:=false)(disch:=omega) only [go_sem, Φa, hP, h2_3, h2_4, h2_5, h2_0, hops]
      refine YAppend.rowL (z := [.string ⟨#[]⟩]) (f := stV) (x := restR 32 s) (i := 0) (hP ▸ T.elS_75) (hP ▸ T.zr_9) rfl rfl rfl rfl hrow (by omega) (by decide) ?_
      intro v' s' hr'
      try with_reducible refine stI ?_
      try simp (maxSteps:=1000000)(dsimp:=false)(disch:=omega) only [go_sem, Φa, hP, h2_3, h2_4, h2_5, h2_0, hops]
      refine hK14 _ _ ?_
      try clear hK14 K14
      refine SX.ret ?_
      simp only [andThen_normal, andThen_ret, andThen_exit, inBlk_normal, inBlk_ret, inBlk_exit, Nat.reduceEqDiff, if_true, if_false, ↓reduceIte, retQ_ret]
      try simp only [res0, res1, res2, res3, stK_e, go_sem, Φa, hP, h2_3, h2_4, h2_5, h2_0]
      exact ⟨_, _, Less.drop _ _, rfl, _, s', rfl, rfl, hr'⟩
set_option maxHeartbeats 1000000 in
set_option maxRecDepth 100000 in
theorem refNumber_spec {Γ : Ctx} (hP : Γ.P = Tryd.prog) {L : Hp} (s : ByteArray) :
    SCall Γ 56 #[(.string s)] L (fun v L' => v = numR s ∧ L' = L) := by
  refine SCall.enter (n := 52) (res2 2 3) (hP ▸ Tryd.func56) rfl rfl (by simp) (res2_ok rfl) ?_
  refine SX.seq_k fun K1 hK1 => ?_
  refine SX.region_d [some 2, some 3] rfl (fun ops hops => ?_)
  unfold Dsts at hops
  simp (maxSteps:=1000000)(dsimp:=false)(disch:=omega) only [go_sem, Φa, hP, hops]
  refine hK1 _ _ ?_
  try clear hK1 K1
  refine SX.seq_k fun K2 hK2 => ?_
  refine SX.seq_k fun K3 hK3 => ?_
  refine SX.region_xd [some 7, some 8, some 9, some 10, some 11, some 12, some 13, some 14] rfl (fun ops hops => ?_)
  unfold Dsts at hops
  refine RX.live [0] (fun T1 hT1 => ?_)
  simp only [forall_mem_cons', forall_mem_nil', go_sem, Φa, hP] at hT1
  have h1_0 := hT1; clear hT1
  refine RX.join 8 (fun (ss : Unit) T L' => T 14 = .bool (decide (¬ (1 ≤ s.size ∧ s.size ≤ 8))) ∧ T 0 = T1 0 ∧ L' = L ∧ (True)) (fun K4 hK4 => ?_) ?_
  · simp only [h1_0] at hK4
    simp (maxSteps:=1000000)(dsimp:=false)(disch:=omega) only [go_sem, Φa, hP, h1_0, hops]
    repeat' (first | refine iteB (fun hg => ?_) (fun hg => ?_) | refine iteI (fun hg => ?_) (fun hg => ?_) | ((first | refine And.intro (by omega) ?_ | fail); try (with_reducible refine stI ?_); try simp (maxSteps:=1000000)(dsimp:=false)(disch:=omega) only [go_sem, Φa, hP, h1_0, hops]) | fail)
    all_goals
      refine hK4 () _ (L) _ (by first | exact Less.refl _ | exact Less.drop _ _ | exact Less.drops (Less.drop _ _) | exact Less.drops (Less.drops (Less.drop _ _)) | exact Less.drops (Less.drops (Less.drops (Less.drop _ _))) | exact Less.drops (Less.drops (Less.drops (Less.drops (Less.drop _ _))))) ?_
      try dsimp only
      refine ⟨?_, ?_, ?_, ?_⟩
      · simp (maxSteps:=1000000)(dsimp:=false)(disch:=omega) only [go_sem, Φa, hP, h1_0]
        first | done | exact congrArg _ (decide_eq_decide.2 (by omega)) | exact congrArg _ (decide_eq_true (by omega)).symm | exact congrArg _ (decide_eq_false (by omega)).symm
      · simp (maxSteps:=1000000)(dsimp:=false)(disch:=omega) only [go_sem, Φa, hP, h1_0]
      · rfl
      · trivial
  · intro ss T2 L2 hI
    simp only [h1_0] at hI 
    obtain ⟨h2_14, h2_0, hL2, hinv⟩ := hI
    replace hL2 := hL2.symm
    subst hL2
    clear h1_0 T1
    refine RX.done ?_
    simp (maxSteps:=1000000)(dsimp:=false)(disch:=omega) only [go_sem, Φa, hP, h2_14, h2_0, hops]
    refine hK3 _ _ ?_
    try clear hK3 K3
    refine SX.cond_k fun X5 Y5 hX5 hY5 => ?_
    simp (maxSteps:=1000000)(dsimp:=false)(disch:=omega) only [go_sem, Φa, hP, h2_14, h2_0, condVC]
    refine ⟨fun hc14 => hX5 ?_, fun hc14 => hY5 ?_⟩
    · clear hX5 hY5 X5 Y5
      refine SX.seq_k fun K6 hK6 => ?_
      refine SX.region_d [some 2, some 3] rfl (fun ops hops => ?_)
      unfold Dsts at hops
      simp (maxSteps:=1000000)(dsimp:=false)(disch:=omega) only [go_sem, Φa, hP, h2_14, h2_0, hops]
      refine hK6 _ _ ?_
      try clear hK6 K6
      refine SX.ret ?_
      simp only [andThen_normal, andThen_ret, andThen_exit, inBlk_normal, inBlk_ret, inBlk_exit, Nat.reduceEqDiff, if_true, if_false, ↓reduceIte, retQ_ret]
      try simp only [res0, res1, res2, res3, stK_e, go_sem, Φa, hP, h2_14, h2_0]
      have hn : numS s = none := if_neg (hc14)
      exact ⟨_, L, Less.refl _, rfl, by unfold numR; rw [hn]; exact ⟨rfl, rfl⟩⟩
    · clear hX5 hY5 X5 Y5
      refine SX.skip ?_
      try simp only [andThen_normal, andThen_ret, andThen_exit, inBlk_normal, inBlk_ret, inBlk_exit, Nat.reduceEqDiff, if_true, if_false, ↓reduceIte]
      refine hK2 _ _ ?_
      try clear hK2 K2
      refine SX.seq_k fun K7 hK7 => ?_
      refine SX.region_d [some 4] rfl (fun ops hops => ?_)
      unfold Dsts at hops
      simp (maxSteps:=1000000)(dsimp:=false)(disch:=omega) only [go_sem, Φa, hP, h2_14, h2_0, hops]
      refine hK7 _ _ ?_
      try clear hK7 K7
      refine SX.seq_k fun K8 hK8 => ?_
      refine SX.seq_k fun K9 hK9 => ?_
      refine SX.region_d [some 5] rfl (fun ops hops => ?_)
      unfold Dsts at hops
      simp (maxSteps:=1000000)(dsimp:=false)(disch:=omega) only [go_sem, Φa, hP, h2_14, h2_0, hops]
      refine hK9 _ _ ?_
      try clear hK9 K9
      refine SX.block ?_
      have hs8 : 1 ≤ s.size ∧ s.size ≤ 8 := by first | exact hc14 | exact Decidable.not_not.1 hc14 | omega
      refine SX.live [0, 4, 5] (fun T3 hT3 => ?_)
      simp only [forall_mem_cons', forall_mem_nil', go_sem, Φa, hP, h2_14, h2_0] at hT3
      obtain ⟨h3_0, h3_4, h3_5⟩ := hT3
      clear h2_14 h2_0 T2
      refine SX.loop_k (fun (ss : (Nat) × (Nat)) T L' => (fun (pos : Nat) (n : Nat) => T 4 = .int .i64 (n : Int) ∧ T 5 = .int .i64 (pos : Int) ∧ T 0 = T3 0 ∧ L' = L ∧ (pos ≤ s.size ∧ n < 16 ^ pos ∧ numF s.data.toList 0 = numF (s.data.toList.drop pos) n)) (ss.1) (ss.2)) (fun (ss : (Nat) × (Nat)) => (fun (pos : Nat) (n : Nat) => s.size - pos) (ss.1) (ss.2)) (0, 0) ?_ ?_
      · try dsimp only
        refine ⟨?_, ?_, ?_, ?_, ?_⟩
        · first | exact h3_4 | (rw [h3_4]; rfl) | (rw [h3_4]; simp; done)
        · first | exact h3_5 | (rw [h3_5]; rfl) | (rw [h3_5]; simp; done)
        · rfl
        · rfl
        · exact ⟨Nat.zero_le _, by decide, rfl⟩
      · intro ss T4 L4 hI K10 hK10
        obtain ⟨pos, n⟩ := ss
        try dsimp only at hI hK10
        simp only [h3_0] at hI hK10
        obtain ⟨h4_4, h4_5, h4_0, hL4, ⟨hp, hn, he⟩⟩ := hI
        replace hL4 := hL4.symm
        subst hL4
        clear h3_0 h3_4 h3_5 T3
        refine SX.seq_k fun K11 hK11 => ?_
        refine SX.seq_k fun K12 hK12 => ?_
        refine SX.region_d [some 15, some 16, some 17, some 18] rfl (fun ops hops => ?_)
        unfold Dsts at hops
        simp (maxSteps:=1000000)(dsimp:=false)(disch:=omega) only [go_sem, Φa, hP, h4_4, h4_5, h4_0, hops]
        repeat' ((first | refine And.intro (by omega) ?_ | fail); try (with_reducible refine stI ?_); try simp (maxSteps:=1000000)(dsimp:=false)(disch:=omega) only [go_sem, Φa, hP, h4_4, h4_5, h4_0, hops])
        refine hK12 _ _ ?_
        try clear hK12 K12
        refine SX.cond_k fun X13 Y13 hX13 hY13 => ?_
        simp (maxSteps:=1000000)(dsimp:=false)(disch:=omega) only [go_sem, Φa, hP, h4_4, h4_5, h4_0, condVC]
        refine ⟨fun hc18 => hX13 ?_, fun hc18 => hY13 ?_⟩
        · clear hX13 hY13 X13 Y13
          refine SX.skip ?_
          try simp only [andThen_normal, andThen_ret, andThen_exit, inBlk_normal, inBlk_ret, inBlk_exit, Nat.reduceEqDiff, if_true, if_false, ↓reduceIte]
          refine hK11 _ _ ?_
          try clear hK11 K11
          refine SX.seq_k fun K14 hK14 => ?_
          refine SX.block ?_
          refine SX.seq_k fun K15 hK15 => ?_
          refine SX.region_d [some 21, some 22, some 23, some 6] rfl (fun ops hops => ?_)
          unfold Dsts at hops
          simp (maxSteps:=1000000)(dsimp:=false)(disch:=omega) only [go_sem, Φa, hP, h4_4, h4_5, h4_0, hops]
          have hg : pos < s.size := by omega
          have hb1 : s.data.toList[pos]? = some (s[pos]'hg) := by rw [List.getElem?_eq_getElem (by rw [Array.length_toList]; exact hg), Array.getElem_toList]; rfl
          have hn4 : n < 4294967296 := Nat.lt_of_lt_of_le hn (Nat.le_trans (Nat.pow_le_pow_right (by decide) (show pos ≤ 7 by omega)) (by decide))
          have hb255 : (s[pos]'hg).toNat < 256 := (s[pos]'hg).toNat_lt
          rcases (by omega : (48 ≤ (s[pos]'hg).toNat ∧ (s[pos]'hg).toNat ≤ 57) ∨ (97 ≤ (s[pos]'hg).toNat ∧ (s[pos]'hg).toNat ≤ 102) ∨ (s[pos]'hg).toNat < 48 ∨ (57 < (s[pos]'hg).toNat ∧ (s[pos]'hg).toNat < 97) ∨ (102 < (s[pos]'hg).toNat)) with ha | ha | ha | ha | ha
          · skip
            try with_reducible refine stI ?_
            refine ⟨_, hb1, ?_⟩
            try with_reducible refine stI ?_
            try simp (maxSteps:=1000000)(dsimp:=false)(disch:=omega) only [go_sem, Φa, hP, h4_4, h4_5, h4_0, hops]
            refine hK15 _ _ ?_
            try clear hK15 K15
            refine SX.block ?_
            refine SX.seq_k fun K16 hK16 => ?_
            refine SX.region_d [some 25, some 26, some 27, some 28, some 29, some 30, some 24] rfl (fun ops hops => ?_)
            unfold Dsts at hops
            simp (maxSteps:=1000000)(dsimp:=false)(disch:=omega) only [go_sem, Φa, hP, h4_4, h4_5, h4_0, hops]
            repeat' ((first | refine And.intro (by omega) ?_ | fail); try (with_reducible refine stI ?_); try simp (maxSteps:=1000000)(dsimp:=false)(disch:=omega) only [go_sem, Φa, hP, h4_4, h4_5, h4_0, hops])
            refine hK16 _ _ ?_
            try clear hK16 K16
            refine SX.live [0, 4, 5, 6, 24] (fun T5 hT5 => ?_)
            simp only [forall_mem_cons', forall_mem_nil', go_sem, Φa, hP, h4_4, h4_5, h4_0] at hT5
            obtain ⟨h5_0, h5_4, h5_5, h5_6, h5_24⟩ := hT5
            clear h4_4 h4_5 h4_0 T4
            refine SX.cond_k fun X17 Y17 hX17 hY17 => ?_
            simp (maxSteps:=1000000)(dsimp:=false)(disch:=omega) only [go_sem, Φa, hP, h5_0, h5_4, h5_5, h5_6, h5_24, condVC]
            refine hX17 ?_
            clear hX17 hY17 X17 Y17
            refine SX.region_d [some 31, some 32, some 33, some 34, some 35, some 36, some 4] rfl (fun ops hops => ?_)
            unfold Dsts at hops
            simp (maxSteps:=1000000)(dsimp:=false)(disch:=omega) only [go_sem, Φa, hP, h5_0, h5_4, h5_5, h5_6, h5_24, hops]
            repeat' ((first | refine And.intro (by omega) ?_ | fail); try (with_reducible refine stI ?_); try simp (maxSteps:=1000000)(dsimp:=false)(disch:=omega) only [go_sem, Φa, hP, h5_0, h5_4, h5_5, h5_6, h5_24, hops])
            refine hK14 _ _ ?_
            try clear hK14 K14
            refine SX.region_d [some 19, some 20, some 5] rfl (fun ops hops => ?_)
            unfold Dsts at hops
            simp (maxSteps:=1000000)(dsimp:=false)(disch:=omega) only [go_sem, Φa, hP, h5_0, h5_4, h5_5, h5_6, h5_24, hops]
            repeat' ((first | refine And.intro (by omega) ?_ | fail); try (with_reducible refine stI ?_); try simp (maxSteps:=1000000)(dsimp:=false)(disch:=omega) only [go_sem, Φa, hP, h5_0, h5_4, h5_5, h5_6, h5_24, hops])
            refine hK10 (pos + 1, n * 16 + ((s[pos]'hg).toNat - 48)) _ (L) _ (by first | exact Less.refl _ | exact Less.drop _ _ | exact Less.drops (Less.drop _ _) | exact Less.drops (Less.drops (Less.drop _ _)) | exact Less.drops (Less.drops (Less.drops (Less.drop _ _))) | exact Less.drops (Less.drops (Less.drops (Less.drops (Less.drop _ _))))) ?_ ?_
            · try dsimp only
              refine ⟨?_, ?_, ?_, ?_, ?_⟩
              · simp (maxSteps:=1000000)(dsimp:=false)(disch:=omega) only [go_sem, Φa, hP, h5_0, h5_4, h5_5, h5_6, h5_24]
                refine congrArg (Value.int _) ?_; omega
              · simp (maxSteps:=1000000)(dsimp:=false)(disch:=omega) only [go_sem, Φa, hP, h5_0, h5_4, h5_5, h5_6, h5_24]
                first | done | rfl | skip
              · simp (maxSteps:=1000000)(dsimp:=false)(disch:=omega) only [go_sem, Φa, hP, h5_0, h5_4, h5_5, h5_6, h5_24]
              · rfl
              · refine ⟨by omega, by rw [Nat.pow_succ]; omega, ?_⟩
                rw [he, drop_byte hg, numF, show hexV (s[pos]'hg).toNat = some ((s[pos]'hg).toNat - 48) from if_pos (by omega)]
            · (try dsimp only); omega
          · skip
            try with_reducible refine stI ?_
            refine ⟨_, hb1, ?_⟩
            try with_reducible refine stI ?_
            try simp (maxSteps:=1000000)(dsimp:=false)(disch:=omega) only [go_sem, Φa, hP, h4_4, h4_5, h4_0, hops]
            refine hK15 _ _ ?_
            try clear hK15 K15
            refine SX.block ?_
            refine SX.seq_k fun K18 hK18 => ?_
            refine SX.region_d [some 25, some 26, some 27, some 28, some 29, some 30, some 24] rfl (fun ops hops => ?_)
            unfold Dsts at hops
            simp (maxSteps:=1000000)(dsimp:=false)(disch:=omega) only [go_sem, Φa, hP, h4_4, h4_5, h4_0, hops]
            repeat' ((first | refine And.intro (by omega) ?_ | fail); try (with_reducible refine stI ?_); try simp (maxSteps:=1000000)(dsimp:=false)(disch:=omega) only [go_sem, Φa, hP, h4_4, h4_5, h4_0, hops])
            refine hK18 _ _ ?_
            try clear hK18 K18
            refine SX.live [0, 4, 5, 6, 24] (fun T6 hT6 => ?_)
            simp only [forall_mem_cons', forall_mem_nil', go_sem, Φa, hP, h4_4, h4_5, h4_0] at hT6
            obtain ⟨h6_0, h6_4, h6_5, h6_6, h6_24⟩ := hT6
            clear h4_4 h4_5 h4_0 T4
            refine SX.cond_k fun X19 Y19 hX19 hY19 => ?_
            simp (maxSteps:=1000000)(dsimp:=false)(disch:=omega) only [go_sem, Φa, hP, h6_0, h6_4, h6_5, h6_6, h6_24, condVC]
            refine hY19 ?_
            clear hX19 hY19 X19 Y19
            refine SX.seq_k fun K20 hK20 => ?_
            refine SX.region_d [some 38, some 39, some 40, some 41, some 42, some 43, some 37] rfl (fun ops hops => ?_)
            unfold Dsts at hops
            simp (maxSteps:=1000000)(dsimp:=false)(disch:=omega) only [go_sem, Φa, hP, h6_0, h6_4, h6_5, h6_6, h6_24, hops]
            repeat' ((first | refine And.intro (by omega) ?_ | fail); try (with_reducible refine stI ?_); try simp (maxSteps:=1000000)(dsimp:=false)(disch:=omega) only [go_sem, Φa, hP, h6_0, h6_4, h6_5, h6_6, h6_24, hops])
            refine hK20 _ _ ?_
            try clear hK20 K20
            refine SX.cond_k fun X21 Y21 hX21 hY21 => ?_
            simp (maxSteps:=1000000)(dsimp:=false)(disch:=omega) only [go_sem, Φa, hP, h6_0, h6_4, h6_5, h6_6, h6_24, condVC]
            refine hX21 ?_
            clear hX21 hY21 X21 Y21
            refine SX.region_d [some 44, some 45, some 46, some 47, some 48, some 49, some 50, some 4] rfl (fun ops hops => ?_)
            unfold Dsts at hops
            simp (maxSteps:=1000000)(dsimp:=false)(disch:=omega) only [go_sem, Φa, hP, h6_0, h6_4, h6_5, h6_6, h6_24, hops]
            repeat' ((first | refine And.intro (by omega) ?_ | fail); try (with_reducible refine stI ?_); try simp (maxSteps:=1000000)(dsimp:=false)(disch:=omega) only [go_sem, Φa, hP, h6_0, h6_4, h6_5, h6_6, h6_24, hops])
            refine hK14 _ _ ?_
            try clear hK14 K14
            refine SX.live [0, 4, 5] (fun T7 hT7 => ?_)
            simp only [forall_mem_cons', forall_mem_nil', go_sem, Φa, hP, h6_0, h6_4, h6_5, h6_6, h6_24] at hT7
            obtain ⟨h7_0, h7_4, h7_5⟩ := hT7
            clear h6_0 h6_4 h6_5 h6_6 h6_24 T6
            refine SX.region_d [some 19, some 20, some 5] rfl (fun ops hops => ?_)
            unfold Dsts at hops
            simp (maxSteps:=1000000)(dsimp:=false)(disch:=omega) only [go_sem, Φa, hP, h7_0, h7_4, h7_5, hops]
            repeat' ((first | refine And.intro (by omega) ?_ | fail); try (with_reducible refine stI ?_); try simp (maxSteps:=1000000)(dsimp:=false)(disch:=omega) only [go_sem, Φa, hP, h7_0, h7_4, h7_5, hops])
            refine hK10 (pos + 1, n * 16 + ((s[pos]'hg).toNat - 97 + 10)) _ (L) _ (by first | exact Less.refl _ | exact Less.drop _ _ | exact Less.drops (Less.drop _ _) | exact Less.drops (Less.drops (Less.drop _ _)) | exact Less.drops (Less.drops (Less.drops (Less.drop _ _))) | exact Less.drops (Less.drops (Less.drops (Less.drops (Less.drop _ _))))) ?_ ?_
            · try dsimp only
              refine ⟨?_, ?_, ?_, ?_, ?_⟩
              · simp (maxSteps:=1000000)(dsimp:=false)(disch:=omega) only [go_sem, Φa, hP, h7_0, h7_4, h7_5]
                refine congrArg (Value.int _) ?_; omega
              · simp (maxSteps:=1000000)(dsimp:=false)(disch:=omega) only [go_sem, Φa, hP, h7_0, h7_4, h7_5]
                first | done | rfl | skip
              · simp (maxSteps:=1000000)(dsimp:=false)(disch:=omega) only [go_sem, Φa, hP, h7_0, h7_4, h7_5]
              · rfl
              · refine ⟨by omega, by rw [Nat.pow_succ]; omega, ?_⟩
                rw [he, drop_byte hg, numF, show hexV (s[pos]'hg).toNat = some ((s[pos]'hg).toNat - 97 + 10) by unfold hexV; rw [if_neg (by omega), if_pos (by omega)]]
            · (try dsimp only); omega
          · skip
            try with_reducible refine stI ?_
            refine ⟨_, hb1, ?_⟩
            try with_reducible refine stI ?_
            try simp (maxSteps:=1000000)(dsimp:=false)(disch:=omega) only [go_sem, Φa, hP, h4_4, h4_5, h4_0, hops]
            refine hK15 _ _ ?_
            try clear hK15 K15
            refine SX.block ?_
            refine SX.seq_k fun K22 hK22 => ?_
            refine SX.region_d [some 25, some 26, some 27, some 28, some 29, some 30, some 24] rfl (fun ops hops => ?_)
            unfold Dsts at hops
            simp (maxSteps:=1000000)(dsimp:=false)(disch:=omega) only [go_sem, Φa, hP, h4_4, h4_5, h4_0, hops]
            repeat' ((first | refine And.intro (by omega) ?_ | fail); try (with_reducible refine stI ?_); try simp (maxSteps:=1000000)(dsimp:=false)(disch:=omega) only [go_sem, Φa, hP, h4_4, h4_5, h4_0, hops])
            refine hK22 _ _ ?_
            try clear hK22 K22
            refine SX.live [0, 4, 5, 6, 24] (fun T8 hT8 => ?_)
            simp only [forall_mem_cons', forall_mem_nil', go_sem, Φa, hP, h4_4, h4_5, h4_0] at hT8
            obtain ⟨h8_0, h8_4, h8_5, h8_6, h8_24⟩ := hT8
            clear h4_4 h4_5 h4_0 T4
            refine SX.cond_k fun X23 Y23 hX23 hY23 => ?_
            simp (maxSteps:=1000000)(dsimp:=false)(disch:=omega) only [go_sem, Φa, hP, h8_0, h8_4, h8_5, h8_6, h8_24, condVC]
            refine hY23 ?_
            clear hX23 hY23 X23 Y23
            refine SX.seq_k fun K24 hK24 => ?_
            refine SX.region_d [some 38, some 39, some 40, some 41, some 42, some 43, some 37] rfl (fun ops hops => ?_)
            unfold Dsts at hops
            simp (maxSteps:=1000000)(dsimp:=false)(disch:=omega) only [go_sem, Φa, hP, h8_0, h8_4, h8_5, h8_6, h8_24, hops]
            repeat' ((first | refine And.intro (by omega) ?_ | fail); try (with_reducible refine stI ?_); try simp (maxSteps:=1000000)(dsimp:=false)(disch:=omega) only [go_sem, Φa, hP, h8_0, h8_4, h8_5, h8_6, h8_24, hops])
            refine hK24 _ _ ?_
            try clear hK24 K24
            refine SX.cond_k fun X25 Y25 hX25 hY25 => ?_
            simp (maxSteps:=1000000)(dsimp:=false)(disch:=omega) only [go_sem, Φa, hP, h8_0, h8_4, h8_5, h8_6, h8_24, condVC]
            refine hY25 ?_
            clear hX25 hY25 X25 Y25
            refine SX.seq_k fun K26 hK26 => ?_
            refine SX.region_d [some 2, some 3] rfl (fun ops hops => ?_)
            unfold Dsts at hops
            simp (maxSteps:=1000000)(dsimp:=false)(disch:=omega) only [go_sem, Φa, hP, h8_0, h8_4, h8_5, h8_6, h8_24, hops]
            refine hK26 _ _ ?_
            try clear hK26 K26
            refine SX.ret ?_
            simp only [andThen_normal, andThen_ret, andThen_exit, inBlk_normal, inBlk_ret, inBlk_exit, Nat.reduceEqDiff, if_true, if_false, ↓reduceIte, retQ_ret]
            try simp only [res0, res1, res2, res3, stK_e, go_sem, Φa, hP, h8_0, h8_4, h8_5, h8_6, h8_24]
            have hn0 : numS s = none := by
              unfold numS; rw [if_pos hs8, he, drop_byte hg, numF, show hexV (s[pos]'hg).toNat = none by unfold hexV; rw [if_neg (by omega), if_neg (by omega)]]
            exact ⟨_, L, Less.refl _, rfl, by unfold numR; rw [hn0]; exact ⟨rfl, rfl⟩⟩
          · skip
            try with_reducible refine stI ?_
            refine ⟨_, hb1, ?_⟩
            try with_reducible refine stI ?_
            try simp (maxSteps:=1000000)(dsimp:=false)(disch:=omega) only [go_sem, Φa, hP, h4_4, h4_5, h4_0, hops]
            refine hK15 _ _ ?_
            try clear hK15 K15
            refine SX.block ?_
            refine SX.seq_k fun K27 hK27 => ?_
            refine SX.region_d [some 25, some 26, some 27, some 28, some 29, some 30, some 24] rfl (fun ops hops => ?_)
            unfold Dsts at hops
            simp (maxSteps:=1000000)(dsimp:=false)(disch:=omega) only [go_sem, Φa, hP, h4_4, h4_5, h4_0, hops]
            repeat' ((first | refine And.intro (by omega) ?_ | fail); try (with_reducible refine stI ?_); try simp (maxSteps:=1000000)(dsimp:=false)(disch:=omega) only [go_sem, Φa, hP, h4_4, h4_5, h4_0, hops])
            refine hK27 _ _ ?_
            try clear hK27 K27
            refine SX.live [0, 4, 5, 6, 24] (fun T9 hT9 => ?_)
            simp only [forall_mem_cons', forall_mem_nil', go_sem, Φa, hP, h4_4, h4_5, h4_0] at hT9
            obtain ⟨h9_0, h9_4, h9_5, h9_6, h9_24⟩ := hT9
            clear h4_4 h4_5 h4_0 T4
            refine SX.cond_k fun X28 Y28 hX28 hY28 => ?_
            simp (maxSteps:=1000000)(dsimp:=false)(disch:=omega) only [go_sem, Φa, hP, h9_0, h9_4, h9_5, h9_6, h9_24, condVC]
            refine hY28 ?_
            clear hX28 hY28 X28 Y28
            refine SX.seq_k fun K29 hK29 => ?_
            refine SX.region_d [some 38, some 39, some 40, some 41, some 42, some 43, some 37] rfl (fun ops hops => ?_)
            unfold Dsts at hops
            simp (maxSteps:=1000000)(dsimp:=false)(disch:=omega) only [go_sem, Φa, hP, h9_0, h9_4, h9_5, h9_6, h9_24, hops]
            repeat' ((first | refine And.intro (by omega) ?_ | fail); try (with_reducible refine stI ?_); try simp (maxSteps:=1000000)(dsimp:=false)(disch:=omega) only [go_sem, Φa, hP, h9_0, h9_4, h9_5, h9_6, h9_24, hops])
            refine hK29 _ _ ?_
            try clear hK29 K29
            refine SX.cond_k fun X30 Y30 hX30 hY30 => ?_
            simp (maxSteps:=1000000)(dsimp:=false)(disch:=omega) only [go_sem, Φa, hP, h9_0, h9_4, h9_5, h9_6, h9_24, condVC]
            refine hY30 ?_
            clear hX30 hY30 X30 Y30
            refine SX.seq_k fun K31 hK31 => ?_
            refine SX.region_d [some 2, some 3] rfl (fun ops hops => ?_)
            unfold Dsts at hops
            simp (maxSteps:=1000000)(dsimp:=false)(disch:=omega) only [go_sem, Φa, hP, h9_0, h9_4, h9_5, h9_6, h9_24, hops]
            refine hK31 _ _ ?_
            try clear hK31 K31
            refine SX.ret ?_
            simp only [andThen_normal, andThen_ret, andThen_exit, inBlk_normal, inBlk_ret, inBlk_exit, Nat.reduceEqDiff, if_true, if_false, ↓reduceIte, retQ_ret]
            try simp only [res0, res1, res2, res3, stK_e, go_sem, Φa, hP, h9_0, h9_4, h9_5, h9_6, h9_24]
            have hn0 : numS s = none := by
              unfold numS; rw [if_pos hs8, he, drop_byte hg, numF, show hexV (s[pos]'hg).toNat = none by unfold hexV; rw [if_neg (by omega), if_neg (by omega)]]
            exact ⟨_, L, Less.refl _, rfl, by unfold numR; rw [hn0]; exact ⟨rfl, rfl⟩⟩
          · skip
            try with_reducible refine stI ?_
            refine ⟨_, hb1, ?_⟩
            try with_reducible refine stI ?_
            try simp (maxSteps:=1000000)(dsimp:=false)(disch:=omega) only [go_sem, Φa, hP, h4_4, h4_5, h4_0, hops]
            refine hK15 _ _ ?_
            try clear hK15 K15
            refine SX.block ?_
            refine SX.seq_k fun K32 hK32 => ?_
            refine SX.region_d [some 25, some 26, some 27, some 28, some 29, some 30, some 24] rfl (fun ops hops => ?_)
            unfold Dsts at hops
            simp (maxSteps:=1000000)(dsimp:=false)(disch:=omega) only [go_sem, Φa, hP, h4_4, h4_5, h4_0, hops]
            repeat' ((first | refine And.intro (by omega) ?_ | fail); try (with_reducible refine stI ?_); try simp (maxSteps:=1000000)(dsimp:=false)(disch:=omega) only [go_sem, Φa, hP, h4_4, h4_5, h4_0, hops])
            refine hK32 _ _ ?_
            try clear hK32 K32
            refine SX.live [0, 4, 5, 6, 24] (fun T10 hT10 => ?_)
            simp only [forall_mem_cons', forall_mem_nil', go_sem, Φa, hP, h4_4, h4_5, h4_0] at hT10
            obtain ⟨h10_0, h10_4, h10_5, h10_6, h10_24⟩ := hT10
            clear h4_4 h4_5 h4_0 T4
            refine SX.cond_k fun X33 Y33 hX33 hY33 => ?_
            simp (maxSteps:=1000000)(dsimp:=false)(disch:=omega) only [go_sem, Φa, hP, h10_0, h10_4, h10_5, h10_6, h10_24, condVC]
            refine hY33 ?_
            clear hX33 hY33 X33 Y33
            refine SX.seq_k fun K34 hK34 => ?_
            refine SX.region_d [some 38, some 39, some 40, some 41, some 42, some 43, some 37] rfl (fun ops hops => ?_)
            unfold Dsts at hops
            simp (maxSteps:=1000000)(dsimp:=false)(disch:=omega) only [go_sem, Φa, hP, h10_0, h10_4, h10_5, h10_6, h10_24, hops]
            repeat' ((first | refine And.intro (by omega) ?_ | fail); try (with_reducible refine stI ?_); try simp (maxSteps:=1000000)(dsimp:=false)(disch:=omega) only [go_sem, Φa, hP, h10_0, h10_4, h10_5, h10_6, h10_24, hops])
            refine hK34 _ _ ?_
            try clear hK34 K34
            refine SX.cond_k fun X35 Y35 hX35 hY35 => ?_
            simp (maxSteps:=1000000)(dsimp:=false)(disch:=omega) only [go_sem, Φa, hP, h10_0, h10_4, h10_5, h10_6, h10_24, condVC]
            refine hY35 ?_
            clear hX35 hY35 X35 Y35
            refine SX.seq_k fun K36 hK36 => ?_
            refine SX.region_d [some 2, some 3] rfl (fun ops hops => ?_)
            unfold Dsts at hops
            simp (maxSteps:=1000000)(dsimp:=false)(disch:=omega) only [go_sem, Φa, hP, h10_0, h10_4, h10_5, h10_6, h10_24, hops]
            refine hK36 _ _ ?_
            try clear hK36 K36
            refine SX.ret ?_
            simp only [andThen_normal, andThen_ret, andThen_exit, inBlk_normal, inBlk_ret, inBlk_exit, Nat.reduceEqDiff, if_true, if_false, ↓reduceIte, retQ_ret]
            try simp only [res0, res1, res2, res3, stK_e, go_sem, Φa, hP, h10_0, h10_4, h10_5, h10_6, h10_24]
            have hn0 : numS s = none := by
              unfold numS; rw [if_pos hs8, he, drop_byte hg, numF, show hexV (s[pos]'hg).toNat = none by unfold hexV; rw [if_neg (by omega), if_neg (by omega)]]
            exact ⟨_, L, Less.refl _, rfl, by unfold numR; rw [hn0]; exact ⟨rfl, rfl⟩⟩
        · clear hX13 hY13 X13 Y13
          refine SX.exit ?_
          try simp only [andThen_normal, andThen_ret, andThen_exit, inBlk_normal, inBlk_ret, inBlk_exit, Nat.reduceEqDiff, if_true, if_false, ↓reduceIte]
          refine hK8 _ _ ?_
          try clear hK8 K8
          refine SX.seq_k fun K37 hK37 => ?_
          refine SX.region_d [some 51, some 2, some 3] rfl (fun ops hops => ?_)
          unfold Dsts at hops
          simp (maxSteps:=1000000)(dsimp:=false)(disch:=omega) only [go_sem, Φa, hP, h4_4, h4_5, h4_0, hops]
          refine hK37 _ _ ?_
          try clear hK37 K37
          refine SX.ret ?_
          simp only [andThen_normal, andThen_ret, andThen_exit, inBlk_normal, inBlk_ret, inBlk_exit, Nat.reduceEqDiff, if_true, if_false, ↓reduceIte, retQ_ret]
          try simp only [res0, res1, res2, res3, stK_e, go_sem, Φa, hP, h4_4, h4_5, h4_0]
          have hn0 : numS s = some n := by
            unfold numS; rw [if_pos hs8, he, List.drop_eq_nil_of_le (by rw [Array.length_toList]; show s.size ≤ _; omega), numF]
          exact ⟨_, L, Less.refl _, rfl, by unfold numR; rw [hn0]; exact ⟨rfl, rfl⟩⟩

end Go.Proofs.YtcenlgofldnfcaaDoor
set_option linter.unusedVariables false
set_option linter.unusedSimpArgs false
namespace Go.Proofs.YtcenlgofldnfcaaDoor
open Go.RowKit Go.SX Go.Proofs
open Go.SX renaming ia_someH → Φa

/-! The document's Record. -/
def recT (s : ByteArray) (i : Nat) : Rc := (((wordsR s).drop 3).take (i - 3)).foldl swR (rd0R (wordsR s))
theorem recT_succ {s : ByteArray} {i : Nat} (h3 : 3 ≤ i) (h : i < (wordsR s).length) : recT s (i + 1) = swR (recT s i) ((wordsR s).getD i eB) := by
  have e : ((wordsR s).drop 3)[i - 3]? = some ((wordsR s).getD i eB) := by
    rw [List.getElem?_drop, show 3 + (i - 3) = i by omega, List.getD_eq_getElem?_getD, List.getElem?_eq_getElem h]
    rfl
  unfold recT
  rw [show i + 1 - 3 = (i - 3) + 1 by omega, List.take_add_one, e]
  simp only [Option.toList_some, List.foldl_append, List.foldl_cons, List.foldl_nil]
theorem recT_all (s : ByteArray) : recT s (wordsR s).length = recR s := by
  unfold recT recR
  rw [List.take_of_length_le (by rw [List.length_drop]; exact Nat.le_refl _)]
theorem wordsR_le (s : ByteArray) : (wordsR s).length ≤ s.size + 1 := by
  have := linesR_len 32 s
  unfold wordsR
  rw [List.length_append]
  exact Nat.succ_le_succ this
theorem wordsR_pos (s : ByteArray) : 0 < (wordsR s).length := by
  unfold wordsR
  rw [List.length_append]
  exact Nat.succ_pos _
theorem ref_bad {s : ByteArray} (h : badR s) : refP s = (zRc, false) := if_pos h
theorem ref_num {s : ByteArray} (h : ¬ badR s) (h2 : badN s) : refP s = (zRc, false) := by unfold refP; rw [if_neg h, if_pos h2]
theorem ref_go {s : ByteArray} (h : ¬ badR s) (h2 : ¬ badN s) : refP s = (recR s, mayB (recR s) && decide (lineS (recR s) = s)) := by unfold refP; rw [if_neg h, if_neg h2]
set_option maxHeartbeats 1000000 in
set_option maxRecDepth 100000 in
theorem Record_spec {Γ : Ctx} (hP : Γ.P = Tryd.prog) {L : Hp} {s : ByteArray} (hs : s.size ≤ 65536) :
    SCall Γ 44 #[(.string s)] L (fun v L' => v = .tuple #[.agg (refP s).1.cells.toArray, .bool (refP s).2] ∧ L' = L) := by
  have hwl := wordsR_le s
  refine SCall.enter (n := 141) (resX Γ [.cell 2 46, .tmp 3]) (hP ▸ Tryd.func44) rfl rfl (by simp) (resX_ok rfl) ?_
  refine SX.seq_k fun K1 hK1 => ?_
  refine SX.region_d [some 2, some 3] rfl (fun ops hops => ?_)
  unfold Dsts at hops
  simp (maxSteps:=1000000)(dsimp:=false)(disch:=omega) only [go_sem, Φa, hP, hops]
  intro b2
  try with_reducible refine stI ?_
  try simp (maxSteps:=1000000)(dsimp:=false)(disch:=omega) only [go_sem, Φa, hP, hops]
  refine hK1 _ _ ?_
  try clear hK1 K1
  refine SX.seq_k fun K2 hK2 => ?_
  refine SX.region_d [some 12, some 13, some 4] rfl (fun ops hops => ?_)
  unfold Dsts at hops
  simp (maxSteps:=1000000)(dsimp:=false)(disch:=omega) only [go_sem, Φa, hP, hops]
  refine SCall.mono (Words_spec hP (s := s) hs) ?_
  rintro v_ L_ ⟨vo, so, rfl, rfl, hrow⟩
  obtain ⟨A, c, gb, hv, hcap, hA, hcl⟩ := RowS.cell hrow
  rw [hA (wordsR_pos s)] at hv
  subst hv
  try with_reducible refine stI ?_
  try simp (maxSteps:=1000000)(dsimp:=false)(disch:=omega) only [go_sem, Φa, hP, hops]
  refine hK2 _ _ ?_
  try clear hK2 K2
  refine SX.seq_k fun K3 hK3 => ?_
  refine SX.seq_k fun K4 hK4 => ?_
  refine SX.region_xd [some 14, some 15, some 16, some 17, some 18, some 19, some 20, some 21, some 22, some 23, some 24, some 25, some 26, some 27, some 28] rfl (fun ops hops => ?_)
  unfold Dsts at hops
  refine RX.live [0, 2, 4] (fun T1 hT1 => ?_)
  simp only [forall_mem_cons', forall_mem_nil', go_sem, Φa, hP] at hT1
  obtain ⟨h1_0, h1_2, h1_4⟩ := hT1
  refine RX.join 8 (fun (ss : Unit) T L' => T 21 = .bool (decide (40 < s.size ∨ (wordsR s).length < 3)) ∧ T 0 = T1 0 ∧ T 2 = T1 2 ∧ T 4 = T1 4 ∧ L' = so :: some (b2, .cells #[.int .u8 0, .int .u16 0, .int .u8 0, .bool false, .bool false, .int .u8 0, .bool false, .int .u8 0] 46 (0, 0)) :: L ∧ (True)) (fun K5 hK5 => ?_) ?_
  · simp only [h1_0, h1_2, h1_4] at hK5
    simp (maxSteps:=1000000)(dsimp:=false)(disch:=omega) only [go_sem, Φa, hP, h1_0, h1_2, h1_4, hops]
    repeat' (first | refine iteB (fun hg => ?_) (fun hg => ?_) | refine iteI (fun hg => ?_) (fun hg => ?_) | ((first | refine ⟨_, hcl _ _ 0 rfl 0 (by omega), ?_⟩ | refine And.intro (by omega) ?_ | refine ⟨_, Cell.at 0 rfl rfl, ?_⟩ | refine ⟨_, Cell.at 1 rfl rfl, ?_⟩ | fail); try (with_reducible refine stI ?_); try simp (maxSteps:=1000000)(dsimp:=false)(disch:=omega) only [go_sem, Φa, hP, h1_0, h1_2, h1_4, hops]) | simp (maxSteps:=1000000)(dsimp:=false)(disch:=omega) only [go_sem, Φa, hP, h1_0, h1_2, h1_4, hops] | fail)
    all_goals
      refine hK5 () _ (so :: some (b2, .cells #[.int .u8 0, .int .u16 0, .int .u8 0, .bool false, .bool false, .int .u8 0, .bool false, .int .u8 0] 46 (0, 0)) :: L) _ (by first | exact Less.refl _ | exact Less.drop _ _ | exact Less.drops (Less.drop _ _) | exact Less.drops (Less.drops (Less.drop _ _)) | exact Less.drops (Less.drops (Less.drops (Less.drop _ _))) | exact Less.drops (Less.drops (Less.drops (Less.drops (Less.drop _ _))))) ?_
      try dsimp only
      refine ⟨?_, ?_, ?_, ?_, ?_, ?_⟩
      · simp (maxSteps:=1000000)(dsimp:=false)(disch:=omega) only [go_sem, Φa, hP, h1_0, h1_2, h1_4]
        first | done | (refine congrArg Value.bool ?_; rw [Bool.eq_iff_iff]; simp only [decide_eq_true_eq, Bool.true_eq_false, Bool.false_eq_true, true_iff, iff_true, false_iff, iff_false]; omega) | (refine congrArg Value.bool ?_; rw [Bool.eq_iff_iff]; simp_all; done) | (refine congrArg Value.bool ?_; rw [Bool.eq_iff_iff]; simp_all; omega)
      · simp (maxSteps:=1000000)(dsimp:=false)(disch:=omega) only [go_sem, Φa, hP, h1_0, h1_2, h1_4]
      · simp (maxSteps:=1000000)(dsimp:=false)(disch:=omega) only [go_sem, Φa, hP, h1_0, h1_2, h1_4]
      · simp (maxSteps:=1000000)(dsimp:=false)(disch:=omega) only [go_sem, Φa, hP, h1_0, h1_2, h1_4]
      · rfl
      · trivial
  · intro ss T2 L2 hI
    simp only [h1_0, h1_2, h1_4] at hI 
    obtain ⟨h2_21, h2_0, h2_2, h2_4, hL2, hinv⟩ := hI
    replace hL2 := hL2.symm
    subst hL2
    clear h1_0 h1_2 h1_4 T1
    refine RX.live [0, 2, 4, 21] (fun T3 hT3 => ?_)
    simp only [forall_mem_cons', forall_mem_nil', go_sem, Φa, hP, h2_21, h2_0, h2_2, h2_4] at hT3
    obtain ⟨h3_0, h3_2, h3_4, h3_21⟩ := hT3
    clear h2_21 h2_0 h2_2 h2_4 T2
    refine RX.join 7 (fun (ss : Unit) T L' => T 28 = .bool (decide (40 < s.size ∨ (wordsR s).length < 3 ∨ ¬ ((wordsR s).getD 0 eB).size = 2)) ∧ T 0 = T3 0 ∧ T 2 = T3 2 ∧ T 4 = T3 4 ∧ L' = so :: some (b2, .cells #[.int .u8 0, .int .u16 0, .int .u8 0, .bool false, .bool false, .int .u8 0, .bool false, .int .u8 0] 46 (0, 0)) :: L ∧ (True)) (fun K6 hK6 => ?_) ?_
    · simp only [h3_0, h3_2, h3_4] at hK6
      simp (maxSteps:=1000000)(dsimp:=false)(disch:=omega) only [go_sem, Φa, hP, h3_0, h3_2, h3_4, h3_21, hops]
      repeat' (first | refine iteB (fun hg => ?_) (fun hg => ?_) | refine iteI (fun hg => ?_) (fun hg => ?_) | ((first | refine ⟨_, hcl _ _ 0 rfl 0 (by omega), ?_⟩ | refine And.intro (by omega) ?_ | refine ⟨_, Cell.at 0 rfl rfl, ?_⟩ | refine ⟨_, Cell.at 1 rfl rfl, ?_⟩ | fail); try (with_reducible refine stI ?_); try simp (maxSteps:=1000000)(dsimp:=false)(disch:=omega) only [go_sem, Φa, hP, h3_0, h3_2, h3_4, h3_21, hops]) | simp (maxSteps:=1000000)(dsimp:=false)(disch:=omega) only [go_sem, Φa, hP, h3_0, h3_2, h3_4, h3_21, hops] | fail)
      all_goals
        refine hK6 () _ (so :: some (b2, .cells #[.int .u8 0, .int .u16 0, .int .u8 0, .bool false, .bool false, .int .u8 0, .bool false, .int .u8 0] 46 (0, 0)) :: L) _ (by first | exact Less.refl _ | exact Less.drop _ _ | exact Less.drops (Less.drop _ _) | exact Less.drops (Less.drops (Less.drop _ _)) | exact Less.drops (Less.drops (Less.drops (Less.drop _ _))) | exact Less.drops (Less.drops (Less.drops (Less.drops (Less.drop _ _))))) ?_
        try dsimp only
        refine ⟨?_, ?_, ?_, ?_, ?_, ?_⟩
        · simp (maxSteps:=1000000)(dsimp:=false)(disch:=omega) only [go_sem, Φa, hP, h3_0, h3_2, h3_4, h3_21]
          first | done | (refine congrArg Value.bool ?_; rw [Bool.eq_iff_iff]; simp only [decide_eq_true_eq, Bool.true_eq_false, Bool.false_eq_true, true_iff, iff_true, false_iff, iff_false]; omega) | (refine congrArg Value.bool ?_; rw [Bool.eq_iff_iff]; simp_all; done) | (refine congrArg Value.bool ?_; rw [Bool.eq_iff_iff]; simp_all; omega)
        · simp (maxSteps:=1000000)(dsimp:=false)(disch:=omega) only [go_sem, Φa, hP, h3_0, h3_2, h3_4, h3_21]
        · simp (maxSteps:=1000000)(dsimp:=false)(disch:=omega) only [go_sem, Φa, hP, h3_0, h3_2, h3_4, h3_21]
        · simp (maxSteps:=1000000)(dsimp:=false)(disch:=omega) only [go_sem, Φa, hP, h3_0, h3_2, h3_4, h3_21]
        · rfl
        · trivial
    · intro ss T4 L4 hI
      simp only [h3_0, h3_2, h3_4] at hI 
      obtain ⟨h4_28, h4_0, h4_2, h4_4, hL4, hinv⟩ := hI
      replace hL4 := hL4.symm
      subst hL4
      clear h3_0 h3_2 h3_4 h3_21 T3
      refine RX.done ?_
      simp (maxSteps:=1000000)(dsimp:=false)(disch:=omega) only [go_sem, Φa, hP, h4_28, h4_0, h4_2, h4_4, hops]
      refine hK4 _ _ ?_
      try clear hK4 K4
      refine SX.cond_k fun X7 Y7 hX7 hY7 => ?_
      simp (maxSteps:=1000000)(dsimp:=false)(disch:=omega) only [go_sem, Φa, hP, h4_28, h4_0, h4_2, h4_4, condVC]
      refine ⟨fun hc28 => hX7 ?_, fun hc28 => hY7 ?_⟩
      · clear hX7 hY7 X7 Y7
        refine SX.seq_k fun K8 hK8 => ?_
        refine SX.region_d [some 29, none, some 3] rfl (fun ops hops => ?_)
        unfold Dsts at hops
        simp (maxSteps:=1000000)(dsimp:=false)(disch:=omega) only [go_sem, Φa, hP, h4_28, h4_0, h4_2, h4_4, hops]
        refine ⟨1, _, _, _, rfl, by decide, .inr (by decide), ?_⟩
        try with_reducible refine stI ?_
        try simp (maxSteps:=1000000)(dsimp:=false)(disch:=omega) only [go_sem, Φa, hP, h4_28, h4_0, h4_2, h4_4, hops]
        refine hK8 _ _ ?_
        try clear hK8 K8
        refine SX.ret ?_
        simp only [andThen_normal, andThen_ret, andThen_exit, inBlk_normal, inBlk_ret, inBlk_exit, Nat.reduceEqDiff, if_true, if_false, ↓reduceIte, retQ_ret]
        try simp only [res0,res1,res2,res3,stK_e,resX,resK,oneOr,ld_ptr,loadVC,loadN,List.nil_append,List.cons_append,Nat.reduceAdd,Nat.add_zero,Nat.zero_add,Addr.add_lit,Addr.add_zero',add_addS,T.elA_46,T.lay_46,T.szA_46,T.zr_46,Tryd.underlying46,go_sem,Φa,hP,h4_28,h4_0,h4_2,h4_4]
        have hbad : badR s := by
          unfold badR
          first | exact hc28 | simpa using hc28
        rw [ref_bad hbad]
        exact ⟨_, _, Less.drops (Less.drop _ _), ⟨_, Cell.at 1 rfl rfl, _, Cell.at 1 rfl rfl, _, Cell.at 1 rfl rfl, _, Cell.at 1 rfl rfl, _, Cell.at 1 rfl rfl, _, Cell.at 1 rfl rfl, _, Cell.at 1 rfl rfl, _, Cell.at 1 rfl rfl, rfl⟩, rfl, rfl⟩
      · clear hX7 hY7 X7 Y7
        refine SX.skip ?_
        try simp only [andThen_normal, andThen_ret, andThen_exit, inBlk_normal, inBlk_ret, inBlk_exit, Nat.reduceEqDiff, if_true, if_false, ↓reduceIte]
        refine hK3 _ _ ?_
        try clear hK3 K3
        refine SX.seq_k fun K9 hK9 => ?_
        have hgood : ¬ badR s := by
          unfold badR
          first | exact hc28 | simpa using hc28
        have hg3 : s.size ≤ 40 ∧ 3 ≤ (wordsR s).length ∧ ((wordsR s).getD 0 eB).size = 2 := by
          unfold badR at hgood
          omega
        refine SX.region_d [some 31, some 32, some 33, some 34, some 30, some 35, some 36, some 5, some 6] rfl (fun ops hops => ?_)
        unfold Dsts at hops
        simp (maxSteps:=1000000)(dsimp:=false)(disch:=omega) only [go_sem, Φa, hP, h4_28, h4_0, h4_2, h4_4, hops]
        refine ⟨_, hcl _ _ 0 rfl 1 (by omega), ?_⟩
        try with_reducible refine stI ?_
        try simp (maxSteps:=1000000)(dsimp:=false)(disch:=omega) only [go_sem, Φa, hP, h4_28, h4_0, h4_2, h4_4, hops]
        refine SCall.mono (refNumber_spec hP ((wordsR s).getD 1 eB)) ?_
        rintro v_ L_ ⟨rfl, rfl⟩
        unfold numR
        try with_reducible refine stI ?_
        try simp (maxSteps:=1000000)(dsimp:=false)(disch:=omega) only [go_sem, Φa, hP, h4_28, h4_0, h4_2, h4_4, hops]
        refine hK9 _ _ ?_
        try clear hK9 K9
        refine SX.live [0, 2, 4, 5, 6] (fun T5 hT5 => ?_)
        simp only [forall_mem_cons', forall_mem_nil', go_sem, Φa, hP, h4_28, h4_0, h4_2, h4_4] at hT5
        obtain ⟨h5_0, h5_2, h5_4, h5_5, h5_6⟩ := hT5
        clear h4_28 h4_0 h4_2 h4_4 T4
        refine SX.seq_k fun K10 hK10 => ?_
        refine SX.region_d [some 38, some 39, some 40, some 41, some 37, some 42, some 43, some 7, some 8] rfl (fun ops hops => ?_)
        unfold Dsts at hops
        simp (maxSteps:=1000000)(dsimp:=false)(disch:=omega) only [go_sem, Φa, hP, h5_0, h5_2, h5_4, h5_5, h5_6, hops]
        refine ⟨_, hcl _ _ 0 rfl 2 (by omega), ?_⟩
        try with_reducible refine stI ?_
        try simp (maxSteps:=1000000)(dsimp:=false)(disch:=omega) only [go_sem, Φa, hP, h5_0, h5_2, h5_4, h5_5, h5_6, hops]
        refine SCall.mono (refNumber_spec hP ((wordsR s).getD 2 eB)) ?_
        rintro v_ L_ ⟨rfl, rfl⟩
        unfold numR
        try with_reducible refine stI ?_
        try simp (maxSteps:=1000000)(dsimp:=false)(disch:=omega) only [go_sem, Φa, hP, h5_0, h5_2, h5_4, h5_5, h5_6, hops]
        refine hK10 _ _ ?_
        try clear hK10 K10
        refine SX.live [0, 2, 4, 5, 6, 7, 8] (fun T6 hT6 => ?_)
        simp only [forall_mem_cons', forall_mem_nil', go_sem, Φa, hP, h5_0, h5_2, h5_4, h5_5, h5_6] at hT6
        obtain ⟨h6_0, h6_2, h6_4, h6_5, h6_6, h6_7, h6_8⟩ := hT6
        clear h5_0 h5_2 h5_4 h5_5 h5_6 T5
        refine SX.seq_k fun K11 hK11 => ?_
        refine SX.seq_k fun K12 hK12 => ?_
        refine SX.region_xd [some 44, some 45, some 46, some 47, some 48, some 49, some 50, some 51, some 52, some 53, some 54, some 55, some 56, some 57] rfl (fun ops hops => ?_)
        unfold Dsts at hops
        refine RX.live [0, 2, 4, 5, 6, 7, 8] (fun T7 hT7 => ?_)
        simp only [forall_mem_cons', forall_mem_nil', go_sem, Φa, hP, h6_0, h6_2, h6_4, h6_5, h6_6, h6_7, h6_8] at hT7
        obtain ⟨h7_0, h7_2, h7_4, h7_5, h7_6, h7_7, h7_8⟩ := hT7
        clear h6_0 h6_2 h6_4 h6_5 h6_6 h6_7 h6_8 T6
        refine RX.join 6 (fun (ss : Unit) T L' => T 49 = .bool (!(numS ((wordsR s).getD 1 eB)).isSome || !(numS ((wordsR s).getD 2 eB)).isSome) ∧ T 0 = T7 0 ∧ T 2 = T7 2 ∧ T 4 = T7 4 ∧ T 5 = T7 5 ∧ T 7 = T7 7 ∧ L' = so :: some (b2, .cells #[.int .u8 0, .int .u16 0, .int .u8 0, .bool false, .bool false, .int .u8 0, .bool false, .int .u8 0] 46 (0, 0)) :: L ∧ (True)) (fun K13 hK13 => ?_) ?_
        · simp only [h7_0, h7_2, h7_4, h7_5, h7_7] at hK13
          simp (maxSteps:=1000000)(dsimp:=false)(disch:=omega) only [go_sem, Φa, hP, h7_0, h7_2, h7_4, h7_5, h7_6, h7_7, h7_8, hops]
          repeat' (first | refine iteB (fun hg => ?_) (fun hg => ?_) | refine iteI (fun hg => ?_) (fun hg => ?_) | ((first | refine And.intro (by omega) ?_ | refine ⟨_, Cell.at 0 rfl rfl, ?_⟩ | refine ⟨_, Cell.at 1 rfl rfl, ?_⟩ | fail); try (with_reducible refine stI ?_); try simp (maxSteps:=1000000)(dsimp:=false)(disch:=omega) only [go_sem, Φa, hP, h7_0, h7_2, h7_4, h7_5, h7_6, h7_7, h7_8, hops]) | fail)
          all_goals
            refine hK13 () _ (so :: some (b2, .cells #[.int .u8 0, .int .u16 0, .int .u8 0, .bool false, .bool false, .int .u8 0, .bool false, .int .u8 0] 46 (0, 0)) :: L) _ (by first | exact Less.refl _ | exact Less.drop _ _ | exact Less.drops (Less.drop _ _) | exact Less.drops (Less.drops (Less.drop _ _)) | exact Less.drops (Less.drops (Less.drops (Less.drop _ _))) | exact Less.drops (Less.drops (Less.drops (Less.drops (Less.drop _ _))))) ?_
            try dsimp only
            refine ⟨?_, ?_, ?_, ?_, ?_, ?_, ?_, ?_⟩
            · simp (maxSteps:=1000000)(dsimp:=false)(disch:=omega) only [go_sem, Φa, hP, h7_0, h7_2, h7_4, h7_5, h7_6, h7_7, h7_8]
              first | done | (refine congrArg Value.bool ?_; cases hq1 : (numS ((wordsR s).getD 1 eB)) <;> cases hq2 : (numS ((wordsR s).getD 2 eB)) <;> simp_all; done) | (refine congrArg Value.bool ?_; cases hq1 : (numS ((wordsR s).getD 1 eB)) <;> cases hq2 : (numS ((wordsR s).getD 2 eB)) <;> simp_all <;> first | omega | (rw [Bool.eq_iff_iff]; simp only [Bool.or_eq_true, decide_eq_true_eq]; omega))
            · simp (maxSteps:=1000000)(dsimp:=false)(disch:=omega) only [go_sem, Φa, hP, h7_0, h7_2, h7_4, h7_5, h7_6, h7_7, h7_8]
            · simp (maxSteps:=1000000)(dsimp:=false)(disch:=omega) only [go_sem, Φa, hP, h7_0, h7_2, h7_4, h7_5, h7_6, h7_7, h7_8]
            · simp (maxSteps:=1000000)(dsimp:=false)(disch:=omega) only [go_sem, Φa, hP, h7_0, h7_2, h7_4, h7_5, h7_6, h7_7, h7_8]
            · simp (maxSteps:=1000000)(dsimp:=false)(disch:=omega) only [go_sem, Φa, hP, h7_0, h7_2, h7_4, h7_5, h7_6, h7_7, h7_8]
            · simp (maxSteps:=1000000)(dsimp:=false)(disch:=omega) only [go_sem, Φa, hP, h7_0, h7_2, h7_4, h7_5, h7_6, h7_7, h7_8]
            · rfl
            · trivial
        · intro ss T8 L8 hI
          simp only [h7_0, h7_2, h7_4, h7_5, h7_7] at hI 
          obtain ⟨h8_49, h8_0, h8_2, h8_4, h8_5, h8_7, hL8, hinv⟩ := hI
          replace hL8 := hL8.symm
          subst hL8
          clear h7_0 h7_2 h7_4 h7_5 h7_6 h7_7 h7_8 T7
          refine RX.live [0, 2, 4, 5, 7, 49] (fun T9 hT9 => ?_)
          simp only [forall_mem_cons', forall_mem_nil', go_sem, Φa, hP, h8_49, h8_0, h8_2, h8_4, h8_5, h8_7] at hT9
          obtain ⟨h9_0, h9_2, h9_4, h9_5, h9_7, h9_49⟩ := hT9
          clear h8_49 h8_0 h8_2 h8_4 h8_5 h8_7 T8
          refine RX.join 4 (fun (ss : Unit) T L' => T 53 = .bool (!(numS ((wordsR s).getD 1 eB)).isSome || !(numS ((wordsR s).getD 2 eB)).isSome || decide (65535 < (numS ((wordsR s).getD 1 eB)).getD 0)) ∧ T 0 = T9 0 ∧ T 2 = T9 2 ∧ T 4 = T9 4 ∧ T 5 = T9 5 ∧ T 7 = T9 7 ∧ L' = so :: some (b2, .cells #[.int .u8 0, .int .u16 0, .int .u8 0, .bool false, .bool false, .int .u8 0, .bool false, .int .u8 0] 46 (0, 0)) :: L ∧ (True)) (fun K14 hK14 => ?_) ?_
          · simp only [h9_0, h9_2, h9_4, h9_5, h9_7] at hK14
            simp (maxSteps:=1000000)(dsimp:=false)(disch:=omega) only [go_sem, Φa, hP, h9_0, h9_2, h9_4, h9_5, h9_7, h9_49, hops]
            repeat' (first | refine iteB (fun hg => ?_) (fun hg => ?_) | refine iteI (fun hg => ?_) (fun hg => ?_) | ((first | refine And.intro (by omega) ?_ | refine ⟨_, Cell.at 0 rfl rfl, ?_⟩ | refine ⟨_, Cell.at 1 rfl rfl, ?_⟩ | fail); try (with_reducible refine stI ?_); try simp (maxSteps:=1000000)(dsimp:=false)(disch:=omega) only [go_sem, Φa, hP, h9_0, h9_2, h9_4, h9_5, h9_7, h9_49, hops]) | fail)
            all_goals
              refine hK14 () _ (so :: some (b2, .cells #[.int .u8 0, .int .u16 0, .int .u8 0, .bool false, .bool false, .int .u8 0, .bool false, .int .u8 0] 46 (0, 0)) :: L) _ (by first | exact Less.refl _ | exact Less.drop _ _ | exact Less.drops (Less.drop _ _) | exact Less.drops (Less.drops (Less.drop _ _)) | exact Less.drops (Less.drops (Less.drops (Less.drop _ _))) | exact Less.drops (Less.drops (Less.drops (Less.drops (Less.drop _ _))))) ?_
              try dsimp only
              refine ⟨?_, ?_, ?_, ?_, ?_, ?_, ?_, ?_⟩
              · simp (maxSteps:=1000000)(dsimp:=false)(disch:=omega) only [go_sem, Φa, hP, h9_0, h9_2, h9_4, h9_5, h9_7, h9_49]
                first | done | (refine congrArg Value.bool ?_; cases hq1 : (numS ((wordsR s).getD 1 eB)) <;> cases hq2 : (numS ((wordsR s).getD 2 eB)) <;> simp_all; done) | (refine congrArg Value.bool ?_; cases hq1 : (numS ((wordsR s).getD 1 eB)) <;> cases hq2 : (numS ((wordsR s).getD 2 eB)) <;> simp_all <;> first | omega | (rw [Bool.eq_iff_iff]; simp only [Bool.or_eq_true, decide_eq_true_eq]; omega))
              · simp (maxSteps:=1000000)(dsimp:=false)(disch:=omega) only [go_sem, Φa, hP, h9_0, h9_2, h9_4, h9_5, h9_7, h9_49]
              · simp (maxSteps:=1000000)(dsimp:=false)(disch:=omega) only [go_sem, Φa, hP, h9_0, h9_2, h9_4, h9_5, h9_7, h9_49]
              · simp (maxSteps:=1000000)(dsimp:=false)(disch:=omega) only [go_sem, Φa, hP, h9_0, h9_2, h9_4, h9_5, h9_7, h9_49]
              · simp (maxSteps:=1000000)(dsimp:=false)(disch:=omega) only [go_sem, Φa, hP, h9_0, h9_2, h9_4, h9_5, h9_7, h9_49]
              · simp (maxSteps:=1000000)(dsimp:=false)(disch:=omega) only [go_sem, Φa, hP, h9_0, h9_2, h9_4, h9_5, h9_7, h9_49]
              · rfl
              · trivial
          · intro ss T10 L10 hI
            simp only [h9_0, h9_2, h9_4, h9_5, h9_7] at hI 
            obtain ⟨h10_53, h10_0, h10_2, h10_4, h10_5, h10_7, hL10, hinv⟩ := hI
            replace hL10 := hL10.symm
            subst hL10
            clear h9_0 h9_2 h9_4 h9_5 h9_7 h9_49 T9
            refine RX.live [0, 2, 4, 5, 7, 53] (fun T11 hT11 => ?_)
            simp only [forall_mem_cons', forall_mem_nil', go_sem, Φa, hP, h10_53, h10_0, h10_2, h10_4, h10_5, h10_7] at hT11
            obtain ⟨h11_0, h11_2, h11_4, h11_5, h11_7, h11_53⟩ := hT11
            clear h10_53 h10_0 h10_2 h10_4 h10_5 h10_7 T10
            refine RX.join 4 (fun (ss : Unit) T L' => T 57 = .bool (!(numS ((wordsR s).getD 1 eB)).isSome || !(numS ((wordsR s).getD 2 eB)).isSome || decide (65535 < (numS ((wordsR s).getD 1 eB)).getD 0) || decide (255 < (numS ((wordsR s).getD 2 eB)).getD 0)) ∧ T 0 = T11 0 ∧ T 2 = T11 2 ∧ T 4 = T11 4 ∧ T 5 = T11 5 ∧ T 7 = T11 7 ∧ L' = so :: some (b2, .cells #[.int .u8 0, .int .u16 0, .int .u8 0, .bool false, .bool false, .int .u8 0, .bool false, .int .u8 0] 46 (0, 0)) :: L ∧ (True)) (fun K15 hK15 => ?_) ?_
            · simp only [h11_0, h11_2, h11_4, h11_5, h11_7] at hK15
              simp (maxSteps:=1000000)(dsimp:=false)(disch:=omega) only [go_sem, Φa, hP, h11_0, h11_2, h11_4, h11_5, h11_7, h11_53, hops]
              repeat' (first | refine iteB (fun hg => ?_) (fun hg => ?_) | refine iteI (fun hg => ?_) (fun hg => ?_) | ((first | refine And.intro (by omega) ?_ | refine ⟨_, Cell.at 0 rfl rfl, ?_⟩ | refine ⟨_, Cell.at 1 rfl rfl, ?_⟩ | fail); try (with_reducible refine stI ?_); try simp (maxSteps:=1000000)(dsimp:=false)(disch:=omega) only [go_sem, Φa, hP, h11_0, h11_2, h11_4, h11_5, h11_7, h11_53, hops]) | fail)
              all_goals
                refine hK15 () _ (so :: some (b2, .cells #[.int .u8 0, .int .u16 0, .int .u8 0, .bool false, .bool false, .int .u8 0, .bool false, .int .u8 0] 46 (0, 0)) :: L) _ (by first | exact Less.refl _ | exact Less.drop _ _ | exact Less.drops (Less.drop _ _) | exact Less.drops (Less.drops (Less.drop _ _)) | exact Less.drops (Less.drops (Less.drops (Less.drop _ _))) | exact Less.drops (Less.drops (Less.drops (Less.drops (Less.drop _ _))))) ?_
                try dsimp only
                refine ⟨?_, ?_, ?_, ?_, ?_, ?_, ?_, ?_⟩
                · simp (maxSteps:=1000000)(dsimp:=false)(disch:=omega) only [go_sem, Φa, hP, h11_0, h11_2, h11_4, h11_5, h11_7, h11_53]
                  first | done | (refine congrArg Value.bool ?_; cases hq1 : (numS ((wordsR s).getD 1 eB)) <;> cases hq2 : (numS ((wordsR s).getD 2 eB)) <;> simp_all; done) | (refine congrArg Value.bool ?_; cases hq1 : (numS ((wordsR s).getD 1 eB)) <;> cases hq2 : (numS ((wordsR s).getD 2 eB)) <;> simp_all <;> first | omega | (rw [Bool.eq_iff_iff]; simp only [Bool.or_eq_true, decide_eq_true_eq]; omega))
                · simp (maxSteps:=1000000)(dsimp:=false)(disch:=omega) only [go_sem, Φa, hP, h11_0, h11_2, h11_4, h11_5, h11_7, h11_53]
                · simp (maxSteps:=1000000)(dsimp:=false)(disch:=omega) only [go_sem, Φa, hP, h11_0, h11_2, h11_4, h11_5, h11_7, h11_53]
                · simp (maxSteps:=1000000)(dsimp:=false)(disch:=omega) only [go_sem, Φa, hP, h11_0, h11_2, h11_4, h11_5, h11_7, h11_53]
                · simp (maxSteps:=1000000)(dsimp:=false)(disch:=omega) only [go_sem, Φa, hP, h11_0, h11_2, h11_4, h11_5, h11_7, h11_53]
                · simp (maxSteps:=1000000)(dsimp:=false)(disch:=omega) only [go_sem, Φa, hP, h11_0, h11_2, h11_4, h11_5, h11_7, h11_53]
                · rfl
                · trivial
            · intro ss T12 L12 hI
              simp only [h11_0, h11_2, h11_4, h11_5, h11_7] at hI 
              obtain ⟨h12_57, h12_0, h12_2, h12_4, h12_5, h12_7, hL12, hinv⟩ := hI
              replace hL12 := hL12.symm
              subst hL12
              clear h11_0 h11_2 h11_4 h11_5 h11_7 h11_53 T11
              refine RX.done ?_
              simp (maxSteps:=1000000)(dsimp:=false)(disch:=omega) only [go_sem, Φa, hP, h12_57, h12_0, h12_2, h12_4, h12_5, h12_7, hops]
              refine hK12 _ _ ?_
              try clear hK12 K12
              refine SX.cond_k fun X16 Y16 hX16 hY16 => ?_
              simp (maxSteps:=1000000)(dsimp:=false)(disch:=omega) only [go_sem, Φa, hP, h12_57, h12_0, h12_2, h12_4, h12_5, h12_7, condVC]
              refine ⟨fun hc57 => hX16 ?_, fun hc57 => hY16 ?_⟩
              · clear hX16 hY16 X16 Y16
                refine SX.seq_k fun K17 hK17 => ?_
                refine SX.region_d [some 58, none, some 3] rfl (fun ops hops => ?_)
                unfold Dsts at hops
                simp (maxSteps:=1000000)(dsimp:=false)(disch:=omega) only [go_sem, Φa, hP, h12_57, h12_0, h12_2, h12_4, h12_5, h12_7, hops]
                refine ⟨1, _, _, _, rfl, by decide, .inr (by decide), ?_⟩
                try with_reducible refine stI ?_
                try simp (maxSteps:=1000000)(dsimp:=false)(disch:=omega) only [go_sem, Φa, hP, h12_57, h12_0, h12_2, h12_4, h12_5, h12_7, hops]
                refine hK17 _ _ ?_
                try clear hK17 K17
                refine SX.ret ?_
                simp only [andThen_normal, andThen_ret, andThen_exit, inBlk_normal, inBlk_ret, inBlk_exit, Nat.reduceEqDiff, if_true, if_false, ↓reduceIte, retQ_ret]
                try simp only [res0,res1,res2,res3,stK_e,resX,resK,oneOr,ld_ptr,loadVC,loadN,List.nil_append,List.cons_append,Nat.reduceAdd,Nat.add_zero,Nat.zero_add,Addr.add_lit,Addr.add_zero',add_addS,T.elA_46,T.lay_46,T.szA_46,T.zr_46,Tryd.underlying46,go_sem,Φa,hP,h12_57,h12_0,h12_2,h12_4,h12_5,h12_7]
                have hbn : badN s := by
                  unfold badN
                  simp only [Bool.or_eq_true, Bool.not_eq_true', decide_eq_true_eq] at hc57
                  rcases hc57 with ((h | h) | h) | h
                  · exact .inl h
                  · exact .inr (.inl h)
                  · exact .inr (.inr (.inl h))
                  · exact .inr (.inr (.inr h))
                rw [ref_num hgood hbn]
                exact ⟨_, _, Less.drops (Less.drop _ _), ⟨_, Cell.at 1 rfl rfl, _, Cell.at 1 rfl rfl, _, Cell.at 1 rfl rfl, _, Cell.at 1 rfl rfl, _, Cell.at 1 rfl rfl, _, Cell.at 1 rfl rfl, _, Cell.at 1 rfl rfl, _, Cell.at 1 rfl rfl, rfl⟩, rfl, rfl⟩
              · clear hX16 hY16 X16 Y16
                refine SX.skip ?_
                try simp only [andThen_normal, andThen_ret, andThen_exit, inBlk_normal, inBlk_ret, inBlk_exit, Nat.reduceEqDiff, if_true, if_false, ↓reduceIte]
                refine hK11 _ _ ?_
                try clear hK11 K11
                refine SX.seq_k fun K18 hK18 => ?_
                have hbn : ¬ badN s := by
                  unfold badN
                  intro hh
                  have ht : (!(numS ((wordsR s).getD 1 eB)).isSome || !(numS ((wordsR s).getD 2 eB)).isSome || decide (65535 < (numS ((wordsR s).getD 1 eB)).getD 0) || decide (255 < (numS ((wordsR s).getD 2 eB)).getD 0)) = true := by
                    simp only [Bool.or_eq_true, Bool.not_eq_true', decide_eq_true_eq]
                    rcases hh with h | h | h | h
                    · exact .inl (.inl (.inl h))
                    · exact .inl (.inl (.inr h))
                    · exact .inl (.inr h)
                    · exact .inr h
                  rw [ht] at hc57
                  first | cases hc57 | exact absurd rfl hc57
                have hgo := ref_go hgood hbn
                obtain ⟨b, hb1, hb2⟩ := nums8_getD (s := ((wordsR s).getD 0 eB)) (i := 1) (by omega)
                have hr0 : rd0R (wordsR s) = ⟨IntKind.u8.wrap ((b.toNat : Int) - 48), IntKind.u16.wrap (((numS ((wordsR s).getD 1 eB)).getD 0 : Nat) : Int), IntKind.u8.wrap (((numS ((wordsR s).getD 2 eB)).getD 0 : Nat) : Int), false, false, 0, false, 0⟩ := by unfold rd0R; rw [hb2]
                refine SX.region_d [some 59, some 60, some 61, some 62, some 63, some 64, some 65, some 66, some 67, some 68, some 9, none] rfl (fun ops hops => ?_)
                unfold Dsts at hops
                simp (maxSteps:=1000000)(dsimp:=false)(disch:=omega) only [go_sem, Φa, hP, h12_57, h12_0, h12_2, h12_4, h12_5, h12_7, hops]
                refine ⟨_, hcl _ _ 0 rfl 0 (by omega), ?_⟩
                try with_reducible refine stI ?_
                try simp (maxSteps:=1000000)(dsimp:=false)(disch:=omega) only [go_sem, Φa, hP, h12_57, h12_0, h12_2, h12_4, h12_5, h12_7, hops]
                refine ⟨_, hb1, ?_⟩
                try with_reducible refine stI ?_
                try simp (maxSteps:=1000000)(dsimp:=false)(disch:=omega) only [go_sem, Φa, hP, h12_57, h12_0, h12_2, h12_4, h12_5, h12_7, hops]
                intro b9
                try with_reducible refine stI ?_
                try simp (maxSteps:=1000000)(dsimp:=false)(disch:=omega) only [go_sem, Φa, hP, h12_57, h12_0, h12_2, h12_4, h12_5, h12_7, hops]
                refine ⟨0, _, _, _, rfl, by decide, .inr (by decide), ?_⟩
                try with_reducible refine stI ?_
                try simp (maxSteps:=1000000)(dsimp:=false)(disch:=omega) only [go_sem, Φa, hP, h12_57, h12_0, h12_2, h12_4, h12_5, h12_7, hops]
                refine hK18 _ _ ?_
                try clear hK18 K18
                refine SX.live [0, 2, 4, 9] (fun T13 hT13 => ?_)
                simp only [forall_mem_cons', forall_mem_nil', go_sem, Φa, hP, h12_57, h12_0, h12_2, h12_4, h12_5, h12_7] at hT13
                obtain ⟨h13_0, h13_2, h13_4, h13_9⟩ := hT13
                clear h12_57 h12_0 h12_2 h12_4 h12_5 h12_7 T12
                refine SX.seq_k fun K19 hK19 => ?_
                refine SX.seq_k fun K20 hK20 => ?_
                refine SX.region_d [some 10] rfl (fun ops hops => ?_)
                unfold Dsts at hops
                simp (maxSteps:=1000000)(dsimp:=false)(disch:=omega) only [go_sem, Φa, hP, h13_0, h13_2, h13_4, h13_9, hops]
                refine hK20 _ _ ?_
                try clear hK20 K20
                refine SX.block ?_
                refine SX.live [0, 2, 4, 9, 10] (fun T14 hT14 => ?_)
                simp only [forall_mem_cons', forall_mem_nil', go_sem, Φa, hP, h13_0, h13_2, h13_4, h13_9] at hT14
                obtain ⟨h14_0, h14_2, h14_4, h14_9, h14_10⟩ := hT14
                clear h13_0 h13_2 h13_4 h13_9 T13
                refine SX.loop_k (fun (ss : (Nat)) T L' => (fun (i : Nat) => T 10 = .int .i64 (i : Int) ∧ T 0 = T14 0 ∧ T 2 = T14 2 ∧ T 4 = T14 4 ∧ T 9 = T14 9 ∧ L' = some (b9, .cells (Rc.cells (recT s i)).toArray 46 (0, 0)) :: so :: some (b2, .cells #[.int .u8 0, .int .u16 0, .int .u8 0, .bool false, .bool false, .int .u8 0, .bool false, .int .u8 0] 46 (0, 0)) :: L ∧ (3 ≤ i ∧ i ≤ (wordsR s).length)) (ss)) (fun (ss : (Nat)) => (fun (i : Nat) => (wordsR s).length - i) (ss)) 3 ?_ ?_
                · try dsimp only
                  refine ⟨?_, ?_, ?_, ?_, ?_, ?_, ?_⟩
                  · first | exact h14_10 | (rw [h14_10]; rfl) | (rw [h14_10]; simp; done)
                  · rfl
                  · rfl
                  · rfl
                  · rfl
                  · (rw [show recT s 3 = _ from hr0]; rfl)
                  · exact ⟨Nat.le_refl _, by omega⟩
                · intro i T15 L15 hI K21 hK21
                  try dsimp only at hI hK21
                  simp only [h14_0, h14_2, h14_4, h14_9] at hI hK21
                  obtain ⟨h15_10, h15_0, h15_2, h15_4, h15_9, hL15, ⟨h3, hi⟩⟩ := hI
                  replace hL15 := hL15.symm
                  subst hL15
                  clear h14_0 h14_2 h14_4 h14_9 h14_10 T14
                  refine SX.seq_k fun K22 hK22 => ?_
                  refine SX.seq_k fun K23 hK23 => ?_
                  refine SX.region_d [some 69, some 70, some 71, some 72] rfl (fun ops hops => ?_)
                  unfold Dsts at hops
                  simp (maxSteps:=1000000)(dsimp:=false)(disch:=omega) only [go_sem, Φa, hP, h15_10, h15_0, h15_2, h15_4, h15_9, hops]
                  repeat' ((first | refine And.intro (by omega) ?_ | fail); try (with_reducible refine stI ?_); try simp (maxSteps:=1000000)(dsimp:=false)(disch:=omega) only [go_sem, Φa, hP, h15_10, h15_0, h15_2, h15_4, h15_9, hops])
                  refine hK23 _ _ ?_
                  try clear hK23 K23
                  refine SX.cond_k fun X24 Y24 hX24 hY24 => ?_
                  simp (maxSteps:=1000000)(dsimp:=false)(disch:=omega) only [go_sem, Φa, hP, h15_10, h15_0, h15_2, h15_4, h15_9, condVC]
                  refine ⟨fun hc72 => hX24 ?_, fun hc72 => hY24 ?_⟩
                  · clear hX24 hY24 X24 Y24
                    refine SX.skip ?_
                    try simp only [andThen_normal, andThen_ret, andThen_exit, inBlk_normal, inBlk_ret, inBlk_exit, Nat.reduceEqDiff, if_true, if_false, ↓reduceIte]
                    refine hK22 _ _ ?_
                    try clear hK22 K22
                    refine SX.seq_k fun K25 hK25 => ?_
                    refine SX.block ?_
                    refine SX.block ?_
                    refine SX.seq_k fun K26 hK26 => ?_
                    refine SX.region_d [some 76, some 77, some 78, some 79, some 80, some 75] rfl (fun ops hops => ?_)
                    unfold Dsts at hops
                    simp (maxSteps:=1000000)(dsimp:=false)(disch:=omega) only [go_sem, Φa, hP, h15_10, h15_0, h15_2, h15_4, h15_9, hops]
                    refine ⟨_, hcl _ _ 1 rfl i (by omega), ?_⟩
                    try with_reducible refine stI ?_
                    try simp (maxSteps:=1000000)(dsimp:=false)(disch:=omega) only [go_sem, Φa, hP, h15_10, h15_0, h15_2, h15_4, h15_9, hops]
                    refine hK26 _ _ ?_
                    try clear hK26 K26
                    refine SX.live [0, 2, 4, 9, 10, 75] (fun T16 hT16 => ?_)
                    simp only [forall_mem_cons', forall_mem_nil', go_sem, Φa, hP, h15_10, h15_0, h15_2, h15_4, h15_9] at hT16
                    obtain ⟨h16_0, h16_2, h16_4, h16_9, h16_10, h16_75⟩ := hT16
                    clear h15_10 h15_0 h15_2 h15_4 h15_9 T15
                    refine SX.cond_k fun X27 Y27 hX27 hY27 => ?_
                    simp (maxSteps:=1000000)(dsimp:=false)(disch:=omega) only [go_sem, Φa, hP, h16_0, h16_2, h16_4, h16_9, h16_10, h16_75, condVC]
                    refine ⟨fun hc75 => hX27 ?_, fun hc75 => hY27 ?_⟩
                    · clear hX27 hY27 X27 Y27
                      refine SX.region_d [some 81, none] rfl (fun ops hops => ?_)
                      unfold Dsts at hops
                      simp (maxSteps:=1000000)(dsimp:=false)(disch:=omega) only [go_sem, Φa, hP, h16_0, h16_2, h16_4, h16_9, h16_10, h16_75, hops]
                      refine ⟨0, _, _, _, rfl, (by simp [Rc.len]), .inr (Nat.zero_le _), ?_⟩
                      try with_reducible refine stI ?_
                      try simp (maxSteps:=1000000)(dsimp:=false)(disch:=omega) only [go_sem, Φa, hP, h16_0, h16_2, h16_4, h16_9, h16_10, h16_75, hops]
                      rw [set_rd]
                      refine hK25 _ _ ?_
                      try clear hK25 K25
                      refine SX.region_d [some 73, some 74, some 10] rfl (fun ops hops => ?_)
                      unfold Dsts at hops
                      simp (maxSteps:=1000000)(dsimp:=false)(disch:=omega) only [go_sem, Φa, hP, h16_0, h16_2, h16_4, h16_9, h16_10, h16_75, hops]
                      repeat' ((first | refine And.intro (by omega) ?_ | fail); try (with_reducible refine stI ?_); try simp (maxSteps:=1000000)(dsimp:=false)(disch:=omega) only [go_sem, Φa, hP, h16_0, h16_2, h16_4, h16_9, h16_10, h16_75, hops])
                      refine hK21 (i + 1) _ (_) _ (by exact Less.refl _) ?_ ?_
                      · try dsimp only
                        refine ⟨?_, ?_, ?_, ?_, ?_, ?_, ?_⟩
                        · simp (maxSteps:=1000000)(dsimp:=false)(disch:=omega) only [go_sem, Φa, hP, h16_0, h16_2, h16_4, h16_9, h16_10, h16_75]
                          first | done | rfl | skip
                        · simp (maxSteps:=1000000)(dsimp:=false)(disch:=omega) only [go_sem, Φa, hP, h16_0, h16_2, h16_4, h16_9, h16_10, h16_75]
                        · simp (maxSteps:=1000000)(dsimp:=false)(disch:=omega) only [go_sem, Φa, hP, h16_0, h16_2, h16_4, h16_9, h16_10, h16_75]
                        · simp (maxSteps:=1000000)(dsimp:=false)(disch:=omega) only [go_sem, Φa, hP, h16_0, h16_2, h16_4, h16_9, h16_10, h16_75]
                        · simp (maxSteps:=1000000)(dsimp:=false)(disch:=omega) only [go_sem, Φa, hP, h16_0, h16_2, h16_4, h16_9, h16_10, h16_75]
                        · (rw [recT_succ h3 (by omega)]; unfold swR; rw [if_pos (show ((wordsR s).getD i eB) = ⟨#[114]⟩ by first | exact hc75 | simpa using hc75)]; try rfl)
                        · omega
                      · (try dsimp only); omega
                    · clear hX27 hY27 X27 Y27
                      refine SX.seq_k fun K28 hK28 => ?_
                      refine SX.region_d [some 83, some 84, some 85, some 86, some 87, some 82] rfl (fun ops hops => ?_)
                      unfold Dsts at hops
                      simp (maxSteps:=1000000)(dsimp:=false)(disch:=omega) only [go_sem, Φa, hP, h16_0, h16_2, h16_4, h16_9, h16_10, h16_75, hops]
                      refine ⟨_, hcl _ _ 1 rfl i (by omega), ?_⟩
                      try with_reducible refine stI ?_
                      try simp (maxSteps:=1000000)(dsimp:=false)(disch:=omega) only [go_sem, Φa, hP, h16_0, h16_2, h16_4, h16_9, h16_10, h16_75, hops]
                      refine hK28 _ _ ?_
                      try clear hK28 K28
                      refine SX.cond_k fun X29 Y29 hX29 hY29 => ?_
                      simp (maxSteps:=1000000)(dsimp:=false)(disch:=omega) only [go_sem, Φa, hP, h16_0, h16_2, h16_4, h16_9, h16_10, h16_75, condVC]
                      refine ⟨fun hc82 => hX29 ?_, fun hc82 => hY29 ?_⟩
                      · clear hX29 hY29 X29 Y29
                        refine SX.region_d [some 88, none] rfl (fun ops hops => ?_)
                        unfold Dsts at hops
                        simp (maxSteps:=1000000)(dsimp:=false)(disch:=omega) only [go_sem, Φa, hP, h16_0, h16_2, h16_4, h16_9, h16_10, h16_75, hops]
                        refine ⟨0, _, _, _, rfl, (by simp [Rc.len]), .inr (Nat.zero_le _), ?_⟩
                        try with_reducible refine stI ?_
                        try simp (maxSteps:=1000000)(dsimp:=false)(disch:=omega) only [go_sem, Φa, hP, h16_0, h16_2, h16_4, h16_9, h16_10, h16_75, hops]
                        rw [set_wr]
                        refine hK25 _ _ ?_
                        try clear hK25 K25
                        refine SX.region_d [some 73, some 74, some 10] rfl (fun ops hops => ?_)
                        unfold Dsts at hops
                        simp (maxSteps:=1000000)(dsimp:=false)(disch:=omega) only [go_sem, Φa, hP, h16_0, h16_2, h16_4, h16_9, h16_10, h16_75, hops]
                        repeat' ((first | refine And.intro (by omega) ?_ | fail); try (with_reducible refine stI ?_); try simp (maxSteps:=1000000)(dsimp:=false)(disch:=omega) only [go_sem, Φa, hP, h16_0, h16_2, h16_4, h16_9, h16_10, h16_75, hops])
                        refine hK21 (i + 1) _ (_) _ (by exact Less.refl _) ?_ ?_
                        · try dsimp only
                          refine ⟨?_, ?_, ?_, ?_, ?_, ?_, ?_⟩
                          · simp (maxSteps:=1000000)(dsimp:=false)(disch:=omega) only [go_sem, Φa, hP, h16_0, h16_2, h16_4, h16_9, h16_10, h16_75]
                            first | done | rfl | skip
                          · simp (maxSteps:=1000000)(dsimp:=false)(disch:=omega) only [go_sem, Φa, hP, h16_0, h16_2, h16_4, h16_9, h16_10, h16_75]
                          · simp (maxSteps:=1000000)(dsimp:=false)(disch:=omega) only [go_sem, Φa, hP, h16_0, h16_2, h16_4, h16_9, h16_10, h16_75]
                          · simp (maxSteps:=1000000)(dsimp:=false)(disch:=omega) only [go_sem, Φa, hP, h16_0, h16_2, h16_4, h16_9, h16_10, h16_75]
                          · simp (maxSteps:=1000000)(dsimp:=false)(disch:=omega) only [go_sem, Φa, hP, h16_0, h16_2, h16_4, h16_9, h16_10, h16_75]
                          · (rw [recT_succ h3 (by omega)]; unfold swR; rw [if_neg (show ¬ ((wordsR s).getD i eB) = ⟨#[114]⟩ by first | exact hc75 | simpa using hc75), if_pos (show ((wordsR s).getD i eB) = ⟨#[119]⟩ by first | exact hc82 | simpa using hc82)]; try rfl)
                          · omega
                        · (try dsimp only); omega
                      · clear hX29 hY29 X29 Y29
                        refine SX.seq_k fun K30 hK30 => ?_
                        refine SX.region_d [some 90, some 91, some 92, some 93, some 94, some 89] rfl (fun ops hops => ?_)
                        unfold Dsts at hops
                        simp (maxSteps:=1000000)(dsimp:=false)(disch:=omega) only [go_sem, Φa, hP, h16_0, h16_2, h16_4, h16_9, h16_10, h16_75, hops]
                        refine ⟨_, hcl _ _ 1 rfl i (by omega), ?_⟩
                        try with_reducible refine stI ?_
                        try simp (maxSteps:=1000000)(dsimp:=false)(disch:=omega) only [go_sem, Φa, hP, h16_0, h16_2, h16_4, h16_9, h16_10, h16_75, hops]
                        refine hK30 _ _ ?_
                        try clear hK30 K30
                        refine SX.live [0, 2, 4, 9, 10, 89] (fun T17 hT17 => ?_)
                        simp only [forall_mem_cons', forall_mem_nil', go_sem, Φa, hP, h16_0, h16_2, h16_4, h16_9, h16_10, h16_75] at hT17
                        obtain ⟨h17_0, h17_2, h17_4, h17_9, h17_10, h17_89⟩ := hT17
                        clear h16_0 h16_2 h16_4 h16_9 h16_10 h16_75 T16
                        refine SX.cond_k fun X31 Y31 hX31 hY31 => ?_
                        simp (maxSteps:=1000000)(dsimp:=false)(disch:=omega) only [go_sem, Φa, hP, h17_0, h17_2, h17_4, h17_9, h17_10, h17_89, condVC]
                        refine ⟨fun hc89 => hX31 ?_, fun hc89 => hY31 ?_⟩
                        · clear hX31 hY31 X31 Y31
                          refine SX.region_d [some 95, none] rfl (fun ops hops => ?_)
                          unfold Dsts at hops
                          simp (maxSteps:=1000000)(dsimp:=false)(disch:=omega) only [go_sem, Φa, hP, h17_0, h17_2, h17_4, h17_9, h17_10, h17_89, hops]
                          refine ⟨0, _, _, _, rfl, (by simp [Rc.len]), .inr (Nat.zero_le _), ?_⟩
                          try with_reducible refine stI ?_
                          try simp (maxSteps:=1000000)(dsimp:=false)(disch:=omega) only [go_sem, Φa, hP, h17_0, h17_2, h17_4, h17_9, h17_10, h17_89, hops]
                          rw [set_q]
                          refine hK25 _ _ ?_
                          try clear hK25 K25
                          refine SX.region_d [some 73, some 74, some 10] rfl (fun ops hops => ?_)
                          unfold Dsts at hops
                          simp (maxSteps:=1000000)(dsimp:=false)(disch:=omega) only [go_sem, Φa, hP, h17_0, h17_2, h17_4, h17_9, h17_10, h17_89, hops]
                          repeat' ((first | refine And.intro (by omega) ?_ | fail); try (with_reducible refine stI ?_); try simp (maxSteps:=1000000)(dsimp:=false)(disch:=omega) only [go_sem, Φa, hP, h17_0, h17_2, h17_4, h17_9, h17_10, h17_89, hops])
                          refine hK21 (i + 1) _ (_) _ (by exact Less.refl _) ?_ ?_
                          · try dsimp only
                            refine ⟨?_, ?_, ?_, ?_, ?_, ?_, ?_⟩
                            · simp (maxSteps:=1000000)(dsimp:=false)(disch:=omega) only [go_sem, Φa, hP, h17_0, h17_2, h17_4, h17_9, h17_10, h17_89]
                              first | done | rfl | skip
                            · simp (maxSteps:=1000000)(dsimp:=false)(disch:=omega) only [go_sem, Φa, hP, h17_0, h17_2, h17_4, h17_9, h17_10, h17_89]
                            · simp (maxSteps:=1000000)(dsimp:=false)(disch:=omega) only [go_sem, Φa, hP, h17_0, h17_2, h17_4, h17_9, h17_10, h17_89]
                            · simp (maxSteps:=1000000)(dsimp:=false)(disch:=omega) only [go_sem, Φa, hP, h17_0, h17_2, h17_4, h17_9, h17_10, h17_89]
                            · simp (maxSteps:=1000000)(dsimp:=false)(disch:=omega) only [go_sem, Φa, hP, h17_0, h17_2, h17_4, h17_9, h17_10, h17_89]
                            · (rw [recT_succ h3 (by omega)]; unfold swR; rw [if_neg (show ¬ ((wordsR s).getD i eB) = ⟨#[114]⟩ by first | exact hc75 | simpa using hc75), if_neg (show ¬ ((wordsR s).getD i eB) = ⟨#[119]⟩ by first | exact hc82 | simpa using hc82), if_pos (show ((wordsR s).getD i eB) = ⟨#[113]⟩ by first | exact hc89 | simpa using hc89)]; try rfl)
                            · omega
                          · (try dsimp only); omega
                        · clear hX31 hY31 X31 Y31
                          refine SX.seq_k fun K32 hK32 => ?_
                          refine SX.region_d [some 97, some 98, some 99, some 100, some 101, some 96] rfl (fun ops hops => ?_)
                          unfold Dsts at hops
                          simp (maxSteps:=1000000)(dsimp:=false)(disch:=omega) only [go_sem, Φa, hP, h17_0, h17_2, h17_4, h17_9, h17_10, h17_89, hops]
                          refine ⟨_, hcl _ _ 1 rfl i (by omega), ?_⟩
                          try with_reducible refine stI ?_
                          try simp (maxSteps:=1000000)(dsimp:=false)(disch:=omega) only [go_sem, Φa, hP, h17_0, h17_2, h17_4, h17_9, h17_10, h17_89, hops]
                          refine hK32 _ _ ?_
                          try clear hK32 K32
                          refine SX.cond_k fun X33 Y33 hX33 hY33 => ?_
                          simp (maxSteps:=1000000)(dsimp:=false)(disch:=omega) only [go_sem, Φa, hP, h17_0, h17_2, h17_4, h17_9, h17_10, h17_89, condVC]
                          refine ⟨fun hc96 => hX33 ?_, fun hc96 => hY33 ?_⟩
                          · clear hX33 hY33 X33 Y33
                            refine SX.region_d [some 102, none] rfl (fun ops hops => ?_)
                            unfold Dsts at hops
                            simp (maxSteps:=1000000)(dsimp:=false)(disch:=omega) only [go_sem, Φa, hP, h17_0, h17_2, h17_4, h17_9, h17_10, h17_89, hops]
                            refine ⟨0, _, _, _, rfl, (by simp [Rc.len]), .inr (Nat.zero_le _), ?_⟩
                            try with_reducible refine stI ?_
                            try simp (maxSteps:=1000000)(dsimp:=false)(disch:=omega) only [go_sem, Φa, hP, h17_0, h17_2, h17_4, h17_9, h17_10, h17_89, hops]
                            rw [set_md]
                            refine hK25 _ _ ?_
                            try clear hK25 K25
                            refine SX.region_d [some 73, some 74, some 10] rfl (fun ops hops => ?_)
                            unfold Dsts at hops
                            simp (maxSteps:=1000000)(dsimp:=false)(disch:=omega) only [go_sem, Φa, hP, h17_0, h17_2, h17_4, h17_9, h17_10, h17_89, hops]
                            repeat' ((first | refine And.intro (by omega) ?_ | fail); try (with_reducible refine stI ?_); try simp (maxSteps:=1000000)(dsimp:=false)(disch:=omega) only [go_sem, Φa, hP, h17_0, h17_2, h17_4, h17_9, h17_10, h17_89, hops])
                            refine hK21 (i + 1) _ (_) _ (by exact Less.refl _) ?_ ?_
                            · try dsimp only
                              refine ⟨?_, ?_, ?_, ?_, ?_, ?_, ?_⟩
                              · simp (maxSteps:=1000000)(dsimp:=false)(disch:=omega) only [go_sem, Φa, hP, h17_0, h17_2, h17_4, h17_9, h17_10, h17_89]
                                first | done | rfl | skip
                              · simp (maxSteps:=1000000)(dsimp:=false)(disch:=omega) only [go_sem, Φa, hP, h17_0, h17_2, h17_4, h17_9, h17_10, h17_89]
                              · simp (maxSteps:=1000000)(dsimp:=false)(disch:=omega) only [go_sem, Φa, hP, h17_0, h17_2, h17_4, h17_9, h17_10, h17_89]
                              · simp (maxSteps:=1000000)(dsimp:=false)(disch:=omega) only [go_sem, Φa, hP, h17_0, h17_2, h17_4, h17_9, h17_10, h17_89]
                              · simp (maxSteps:=1000000)(dsimp:=false)(disch:=omega) only [go_sem, Φa, hP, h17_0, h17_2, h17_4, h17_9, h17_10, h17_89]
                              · (rw [recT_succ h3 (by omega)]; unfold swR; rw [if_neg (show ¬ ((wordsR s).getD i eB) = ⟨#[114]⟩ by first | exact hc75 | simpa using hc75), if_neg (show ¬ ((wordsR s).getD i eB) = ⟨#[119]⟩ by first | exact hc82 | simpa using hc82), if_neg (show ¬ ((wordsR s).getD i eB) = ⟨#[113]⟩ by first | exact hc89 | simpa using hc89), if_pos (show ((wordsR s).getD i eB) = ⟨#[112, 97, 117, 115, 101]⟩ by first | exact hc96 | simpa using hc96)]; try rfl)
                              · omega
                            · (try dsimp only); omega
                          · clear hX33 hY33 X33 Y33
                            refine SX.seq_k fun K34 hK34 => ?_
                            refine SX.region_d [some 104, some 105, some 106, some 107, some 108, some 103] rfl (fun ops hops => ?_)
                            unfold Dsts at hops
                            simp (maxSteps:=1000000)(dsimp:=false)(disch:=omega) only [go_sem, Φa, hP, h17_0, h17_2, h17_4, h17_9, h17_10, h17_89, hops]
                            refine ⟨_, hcl _ _ 1 rfl i (by omega), ?_⟩
                            try with_reducible refine stI ?_
                            try simp (maxSteps:=1000000)(dsimp:=false)(disch:=omega) only [go_sem, Φa, hP, h17_0, h17_2, h17_4, h17_9, h17_10, h17_89, hops]
                            refine hK34 _ _ ?_
                            try clear hK34 K34
                            refine SX.live [0, 2, 4, 9, 10, 103] (fun T18 hT18 => ?_)
                            simp only [forall_mem_cons', forall_mem_nil', go_sem, Φa, hP, h17_0, h17_2, h17_4, h17_9, h17_10, h17_89] at hT18
                            obtain ⟨h18_0, h18_2, h18_4, h18_9, h18_10, h18_103⟩ := hT18
                            clear h17_0 h17_2 h17_4 h17_9 h17_10 h17_89 T17
                            refine SX.cond_k fun X35 Y35 hX35 hY35 => ?_
                            simp (maxSteps:=1000000)(dsimp:=false)(disch:=omega) only [go_sem, Φa, hP, h18_0, h18_2, h18_4, h18_9, h18_10, h18_103, condVC]
                            refine ⟨fun hc103 => hX35 ?_, fun hc103 => hY35 ?_⟩
                            · clear hX35 hY35 X35 Y35
                              refine SX.region_d [some 109, none] rfl (fun ops hops => ?_)
                              unfold Dsts at hops
                              simp (maxSteps:=1000000)(dsimp:=false)(disch:=omega) only [go_sem, Φa, hP, h18_0, h18_2, h18_4, h18_9, h18_10, h18_103, hops]
                              refine ⟨0, _, _, _, rfl, (by simp [Rc.len]), .inr (Nat.zero_le _), ?_⟩
                              try with_reducible refine stI ?_
                              try simp (maxSteps:=1000000)(dsimp:=false)(disch:=omega) only [go_sem, Φa, hP, h18_0, h18_2, h18_4, h18_9, h18_10, h18_103, hops]
                              rw [set_md]
                              refine hK25 _ _ ?_
                              try clear hK25 K25
                              refine SX.region_d [some 73, some 74, some 10] rfl (fun ops hops => ?_)
                              unfold Dsts at hops
                              simp (maxSteps:=1000000)(dsimp:=false)(disch:=omega) only [go_sem, Φa, hP, h18_0, h18_2, h18_4, h18_9, h18_10, h18_103, hops]
                              repeat' ((first | refine And.intro (by omega) ?_ | fail); try (with_reducible refine stI ?_); try simp (maxSteps:=1000000)(dsimp:=false)(disch:=omega) only [go_sem, Φa, hP, h18_0, h18_2, h18_4, h18_9, h18_10, h18_103, hops])
                              refine hK21 (i + 1) _ (_) _ (by exact Less.refl _) ?_ ?_
                              · try dsimp only
                                refine ⟨?_, ?_, ?_, ?_, ?_, ?_, ?_⟩
                                · simp (maxSteps:=1000000)(dsimp:=false)(disch:=omega) only [go_sem, Φa, hP, h18_0, h18_2, h18_4, h18_9, h18_10, h18_103]
                                  first | done | rfl | skip
                                · simp (maxSteps:=1000000)(dsimp:=false)(disch:=omega) only [go_sem, Φa, hP, h18_0, h18_2, h18_4, h18_9, h18_10, h18_103]
                                · simp (maxSteps:=1000000)(dsimp:=false)(disch:=omega) only [go_sem, Φa, hP, h18_0, h18_2, h18_4, h18_9, h18_10, h18_103]
                                · simp (maxSteps:=1000000)(dsimp:=false)(disch:=omega) only [go_sem, Φa, hP, h18_0, h18_2, h18_4, h18_9, h18_10, h18_103]
                                · simp (maxSteps:=1000000)(dsimp:=false)(disch:=omega) only [go_sem, Φa, hP, h18_0, h18_2, h18_4, h18_9, h18_10, h18_103]
                                · (rw [recT_succ h3 (by omega)]; unfold swR; rw [if_neg (show ¬ ((wordsR s).getD i eB) = ⟨#[114]⟩ by first | exact hc75 | simpa using hc75), if_neg (show ¬ ((wordsR s).getD i eB) = ⟨#[119]⟩ by first | exact hc82 | simpa using hc82), if_neg (show ¬ ((wordsR s).getD i eB) = ⟨#[113]⟩ by first | exact hc89 | simpa using hc89), if_neg (show ¬ ((wordsR s).getD i eB) = ⟨#[112, 97, 117, 115, 101]⟩ by first | exact hc96 | simpa using hc96), if_pos (show ((wordsR s).getD i eB) = ⟨#[114, 101, 115, 101, 116]⟩ by first | exact hc103 | simpa using hc103)]; try rfl)
                                · omega
                              · (try dsimp only); omega
                            · clear hX35 hY35 X35 Y35
                              refine SX.seq_k fun K36 hK36 => ?_
                              refine SX.region_d [some 111, some 112, some 113, some 114, some 115, some 110] rfl (fun ops hops => ?_)
                              unfold Dsts at hops
                              simp (maxSteps:=1000000)(dsimp:=false)(disch:=omega) only [go_sem, Φa, hP, h18_0, h18_2, h18_4, h18_9, h18_10, h18_103, hops]
                              refine ⟨_, hcl _ _ 1 rfl i (by omega), ?_⟩
                              try with_reducible refine stI ?_
                              try simp (maxSteps:=1000000)(dsimp:=false)(disch:=omega) only [go_sem, Φa, hP, h18_0, h18_2, h18_4, h18_9, h18_10, h18_103, hops]
                              refine hK36 _ _ ?_
                              try clear hK36 K36
                              refine SX.cond_k fun X37 Y37 hX37 hY37 => ?_
                              simp (maxSteps:=1000000)(dsimp:=false)(disch:=omega) only [go_sem, Φa, hP, h18_0, h18_2, h18_4, h18_9, h18_10, h18_103, condVC]
                              refine ⟨fun hc110 => hX37 ?_, fun hc110 => hY37 ?_⟩
                              · clear hX37 hY37 X37 Y37
                                refine SX.region_d [some 116, none] rfl (fun ops hops => ?_)
                                unfold Dsts at hops
                                simp (maxSteps:=1000000)(dsimp:=false)(disch:=omega) only [go_sem, Φa, hP, h18_0, h18_2, h18_4, h18_9, h18_10, h18_103, hops]
                                refine ⟨0, _, _, _, rfl, (by simp [Rc.len]), .inr (Nat.zero_le _), ?_⟩
                                try with_reducible refine stI ?_
                                try simp (maxSteps:=1000000)(dsimp:=false)(disch:=omega) only [go_sem, Φa, hP, h18_0, h18_2, h18_4, h18_9, h18_10, h18_103, hops]
                                rw [set_md]
                                refine hK25 _ _ ?_
                                try clear hK25 K25
                                refine SX.region_d [some 73, some 74, some 10] rfl (fun ops hops => ?_)
                                unfold Dsts at hops
                                simp (maxSteps:=1000000)(dsimp:=false)(disch:=omega) only [go_sem, Φa, hP, h18_0, h18_2, h18_4, h18_9, h18_10, h18_103, hops]
                                repeat' ((first | refine And.intro (by omega) ?_ | fail); try (with_reducible refine stI ?_); try simp (maxSteps:=1000000)(dsimp:=false)(disch:=omega) only [go_sem, Φa, hP, h18_0, h18_2, h18_4, h18_9, h18_10, h18_103, hops])
                                refine hK21 (i + 1) _ (_) _ (by exact Less.refl _) ?_ ?_
                                · try dsimp only
                                  refine ⟨?_, ?_, ?_, ?_, ?_, ?_, ?_⟩
                                  · simp (maxSteps:=1000000)(dsimp:=false)(disch:=omega) only [go_sem, Φa, hP, h18_0, h18_2, h18_4, h18_9, h18_10, h18_103]
                                    first | done | rfl | skip
                                  · simp (maxSteps:=1000000)(dsimp:=false)(disch:=omega) only [go_sem, Φa, hP, h18_0, h18_2, h18_4, h18_9, h18_10, h18_103]
                                  · simp (maxSteps:=1000000)(dsimp:=false)(disch:=omega) only [go_sem, Φa, hP, h18_0, h18_2, h18_4, h18_9, h18_10, h18_103]
                                  · simp (maxSteps:=1000000)(dsimp:=false)(disch:=omega) only [go_sem, Φa, hP, h18_0, h18_2, h18_4, h18_9, h18_10, h18_103]
                                  · simp (maxSteps:=1000000)(dsimp:=false)(disch:=omega) only [go_sem, Φa, hP, h18_0, h18_2, h18_4, h18_9, h18_10, h18_103]
                                  · (rw [recT_succ h3 (by omega)]; unfold swR; rw [if_neg (show ¬ ((wordsR s).getD i eB) = ⟨#[114]⟩ by first | exact hc75 | simpa using hc75), if_neg (show ¬ ((wordsR s).getD i eB) = ⟨#[119]⟩ by first | exact hc82 | simpa using hc82), if_neg (show ¬ ((wordsR s).getD i eB) = ⟨#[113]⟩ by first | exact hc89 | simpa using hc89), if_neg (show ¬ ((wordsR s).getD i eB) = ⟨#[112, 97, 117, 115, 101]⟩ by first | exact hc96 | simpa using hc96), if_neg (show ¬ ((wordsR s).getD i eB) = ⟨#[114, 101, 115, 101, 116]⟩ by first | exact hc103 | simpa using hc103), if_pos (show ((wordsR s).getD i eB) = ⟨#[108, 111, 97, 100]⟩ by first | exact hc110 | simpa using hc110)]; try rfl)
                                  · omega
                                · (try dsimp only); omega
                              · clear hX37 hY37 X37 Y37
                                refine SX.seq_k fun K38 hK38 => ?_
                                refine SX.region_d [some 118, some 119, some 120, some 121, some 122, some 123, some 117] rfl (fun ops hops => ?_)
                                unfold Dsts at hops
                                simp (maxSteps:=1000000)(dsimp:=false)(disch:=omega) only [go_sem, Φa, hP, h18_0, h18_2, h18_4, h18_9, h18_10, h18_103, hops]
                                refine ⟨_, hcl _ _ 1 rfl i (by omega), ?_⟩
                                try with_reducible refine stI ?_
                                try simp (maxSteps:=1000000)(dsimp:=false)(disch:=omega) only [go_sem, Φa, hP, h18_0, h18_2, h18_4, h18_9, h18_10, h18_103, hops]
                                refine hK38 _ _ ?_
                                try clear hK38 K38
                                refine SX.live [0, 2, 4, 9, 10, 117] (fun T19 hT19 => ?_)
                                simp only [forall_mem_cons', forall_mem_nil', go_sem, Φa, hP, h18_0, h18_2, h18_4, h18_9, h18_10, h18_103] at hT19
                                obtain ⟨h19_0, h19_2, h19_4, h19_9, h19_10, h19_117⟩ := hT19
                                clear h18_0 h18_2 h18_4 h18_9 h18_10 h18_103 T18
                                refine SX.cond_k fun X39 Y39 hX39 hY39 => ?_
                                simp (maxSteps:=1000000)(dsimp:=false)(disch:=omega) only [go_sem, Φa, hP, h19_0, h19_2, h19_4, h19_9, h19_10, h19_117, condVC]
                                refine ⟨fun hc117 => hX39 ?_, fun hc117 => hY39 ?_⟩
                                · clear hX39 hY39 X39 Y39
                                  have hs2 : ((wordsR s).getD i eB).size = 2 := by first | exact hc117 | omega
                                  obtain ⟨b, hb1, hb2⟩ := nums8_getD (s := ((wordsR s).getD i eB)) (i := 1) (by omega)
                                  refine SX.region_d [some 124, some 125, some 126, some 127, some 128, some 129, some 130, none] rfl (fun ops hops => ?_)
                                  unfold Dsts at hops
                                  simp (maxSteps:=1000000)(dsimp:=false)(disch:=omega) only [go_sem, Φa, hP, h19_0, h19_2, h19_4, h19_9, h19_10, h19_117, hops]
                                  refine ⟨_, hcl _ _ 1 rfl i (by omega), ?_⟩
                                  try with_reducible refine stI ?_
                                  try simp (maxSteps:=1000000)(dsimp:=false)(disch:=omega) only [go_sem, Φa, hP, h19_0, h19_2, h19_4, h19_9, h19_10, h19_117, hops]
                                  refine ⟨_, hb1, ?_⟩
                                  try with_reducible refine stI ?_
                                  try simp (maxSteps:=1000000)(dsimp:=false)(disch:=omega) only [go_sem, Φa, hP, h19_0, h19_2, h19_4, h19_9, h19_10, h19_117, hops]
                                  refine ⟨0, _, _, _, rfl, (by simp [Rc.len]), .inr (Nat.zero_le _), ?_⟩
                                  try with_reducible refine stI ?_
                                  try simp (maxSteps:=1000000)(dsimp:=false)(disch:=omega) only [go_sem, Φa, hP, h19_0, h19_2, h19_4, h19_9, h19_10, h19_117, hops]
                                  rw [set_port]
                                  refine hK25 _ _ ?_
                                  try clear hK25 K25
                                  refine SX.region_d [some 73, some 74, some 10] rfl (fun ops hops => ?_)
                                  unfold Dsts at hops
                                  simp (maxSteps:=1000000)(dsimp:=false)(disch:=omega) only [go_sem, Φa, hP, h19_0, h19_2, h19_4, h19_9, h19_10, h19_117, hops]
                                  repeat' ((first | refine And.intro (by omega) ?_ | fail); try (with_reducible refine stI ?_); try simp (maxSteps:=1000000)(dsimp:=false)(disch:=omega) only [go_sem, Φa, hP, h19_0, h19_2, h19_4, h19_9, h19_10, h19_117, hops])
                                  refine hK21 (i + 1) _ (_) _ (by exact Less.refl _) ?_ ?_
                                  · try dsimp only
                                    refine ⟨?_, ?_, ?_, ?_, ?_, ?_, ?_⟩
                                    · simp (maxSteps:=1000000)(dsimp:=false)(disch:=omega) only [go_sem, Φa, hP, h19_0, h19_2, h19_4, h19_9, h19_10, h19_117]
                                      first | done | rfl | skip
                                    · simp (maxSteps:=1000000)(dsimp:=false)(disch:=omega) only [go_sem, Φa, hP, h19_0, h19_2, h19_4, h19_9, h19_10, h19_117]
                                    · simp (maxSteps:=1000000)(dsimp:=false)(disch:=omega) only [go_sem, Φa, hP, h19_0, h19_2, h19_4, h19_9, h19_10, h19_117]
                                    · simp (maxSteps:=1000000)(dsimp:=false)(disch:=omega) only [go_sem, Φa, hP, h19_0, h19_2, h19_4, h19_9, h19_10, h19_117]
                                    · simp (maxSteps:=1000000)(dsimp:=false)(disch:=omega) only [go_sem, Φa, hP, h19_0, h19_2, h19_4, h19_9, h19_10, h19_117]
                                    · (rw [recT_succ h3 (by omega)]; unfold swR; rw [if_neg (show ¬ ((wordsR s).getD i eB) = ⟨#[114]⟩ by first | exact hc75 | simpa using hc75), if_neg (show ¬ ((wordsR s).getD i eB) = ⟨#[119]⟩ by first | exact hc82 | simpa using hc82), if_neg (show ¬ ((wordsR s).getD i eB) = ⟨#[113]⟩ by first | exact hc89 | simpa using hc89), if_neg (show ¬ ((wordsR s).getD i eB) = ⟨#[112, 97, 117, 115, 101]⟩ by first | exact hc96 | simpa using hc96), if_neg (show ¬ ((wordsR s).getD i eB) = ⟨#[114, 101, 115, 101, 116]⟩ by first | exact hc103 | simpa using hc103), if_neg (show ¬ ((wordsR s).getD i eB) = ⟨#[108, 111, 97, 100]⟩ by first | exact hc110 | simpa using hc110), if_pos hs2, hb2]; try rfl)
                                    · omega
                                  · (try dsimp only); omega
                                · clear hX39 hY39 X39 Y39
                                  refine SX.skip ?_
                                  try simp only [andThen_normal, andThen_ret, andThen_exit, inBlk_normal, inBlk_ret, inBlk_exit, Nat.reduceEqDiff, if_true, if_false, ↓reduceIte]
                                  refine hK25 _ _ ?_
                                  try clear hK25 K25
                                  refine SX.region_d [some 73, some 74, some 10] rfl (fun ops hops => ?_)
                                  unfold Dsts at hops
                                  simp (maxSteps:=1000000)(dsimp:=false)(disch:=omega) only [go_sem, Φa, hP, h19_0, h19_2, h19_4, h19_9, h19_10, h19_117, hops]
                                  repeat' ((first | refine And.intro (by omega) ?_ | fail); try (with_reducible refine stI ?_); try simp (maxSteps:=1000000)(dsimp:=false)(disch:=omega) only [go_sem, Φa, hP, h19_0, h19_2, h19_4, h19_9, h19_10, h19_117, hops])
                                  refine hK21 (i + 1) _ (_) _ (by exact Less.refl _) ?_ ?_
                                  · try dsimp only
                                    refine ⟨?_, ?_, ?_, ?_, ?_, ?_, ?_⟩
                                    · simp (maxSteps:=1000000)(dsimp:=false)(disch:=omega) only [go_sem, Φa, hP, h19_0, h19_2, h19_4, h19_9, h19_10, h19_117]
                                      first | done | rfl | skip
                                    · simp (maxSteps:=1000000)(dsimp:=false)(disch:=omega) only [go_sem, Φa, hP, h19_0, h19_2, h19_4, h19_9, h19_10, h19_117]
                                    · simp (maxSteps:=1000000)(dsimp:=false)(disch:=omega) only [go_sem, Φa, hP, h19_0, h19_2, h19_4, h19_9, h19_10, h19_117]
                                    · simp (maxSteps:=1000000)(dsimp:=false)(disch:=omega) only [go_sem, Φa, hP, h19_0, h19_2, h19_4, h19_9, h19_10, h19_117]
                                    · simp (maxSteps:=1000000)(dsimp:=false)(disch:=omega) only [go_sem, Φa, hP, h19_0, h19_2, h19_4, h19_9, h19_10, h19_117]
                                    · (rw [recT_succ h3 (by omega)]; unfold swR; rw [if_neg (show ¬ ((wordsR s).getD i eB) = ⟨#[114]⟩ by first | exact hc75 | simpa using hc75), if_neg (show ¬ ((wordsR s).getD i eB) = ⟨#[119]⟩ by first | exact hc82 | simpa using hc82), if_neg (show ¬ ((wordsR s).getD i eB) = ⟨#[113]⟩ by first | exact hc89 | simpa using hc89), if_neg (show ¬ ((wordsR s).getD i eB) = ⟨#[112, 97, 117, 115, 101]⟩ by first | exact hc96 | simpa using hc96), if_neg (show ¬ ((wordsR s).getD i eB) = ⟨#[114, 101, 115, 101, 116]⟩ by first | exact hc103 | simpa using hc103), if_neg (show ¬ ((wordsR s).getD i eB) = ⟨#[108, 111, 97, 100]⟩ by first | exact hc110 | simpa using hc110), if_neg (show ¬ ((wordsR s).getD i eB).size = 2 by first | exact hc117 | omega)]; try rfl)
                                    · omega
                                  · (try dsimp only); omega
                  · clear hX24 hY24 X24 Y24
                    refine SX.exit ?_
                    try simp only [andThen_normal, andThen_ret, andThen_exit, inBlk_normal, inBlk_ret, inBlk_exit, Nat.reduceEqDiff, if_true, if_false, ↓reduceIte]
                    refine hK19 _ _ ?_
                    try clear hK19 K19
                    refine SX.seq_k fun K40 hK40 => ?_
                    obtain rfl : i = (wordsR s).length := by omega
                    rw [recT_all]
                    refine SX.region_d [some 131, some 132, some 11] rfl (fun ops hops => ?_)
                    unfold Dsts at hops
                    simp (maxSteps:=1000000)(dsimp:=false)(disch:=omega) only [go_sem, Φa, hP, h15_10, h15_0, h15_2, h15_4, h15_9, hops]
                    refine ⟨_, Cell.at 0 rfl (show (Rc.cells _)[0]? = _ from rfl), _, Cell.at 0 rfl (show (Rc.cells _)[1]? = _ from rfl), _, Cell.at 0 rfl (show (Rc.cells _)[2]? = _ from rfl), _, Cell.at 0 rfl (show (Rc.cells _)[3]? = _ from rfl), _, Cell.at 0 rfl (show (Rc.cells _)[4]? = _ from rfl), _, Cell.at 0 rfl (show (Rc.cells _)[5]? = _ from rfl), _, Cell.at 0 rfl (show (Rc.cells _)[6]? = _ from rfl), _, Cell.at 0 rfl (show (Rc.cells _)[7]? = _ from rfl), ?_⟩
                    try with_reducible refine stI ?_
                    try simp (maxSteps:=1000000)(dsimp:=false)(disch:=omega) only [go_sem, Φa, hP, h15_10, h15_0, h15_2, h15_4, h15_9, hops]
                    refine SCall.mono (refMay_spec hP (x := recR s)) ?_
                    rintro v_ L_ ⟨rfl, rfl⟩
                    try with_reducible refine stI ?_
                    try simp (maxSteps:=1000000)(dsimp:=false)(disch:=omega) only [go_sem, Φa, hP, h15_10, h15_0, h15_2, h15_4, h15_9, hops]
                    refine hK40 _ _ ?_
                    try clear hK40 K40
                    refine SX.seq_k fun K41 hK41 => ?_
                    skip
                    refine SX.drawn_d [(0, .q), (1, .q), (2, .q), (3, .q), (5, .q), (4, .e), (6, .q), (7, .q), (8, .e), (9, .q)] (fun _ => [some (b9, .cells (Rc.cells (recR s)).toArray 46 (0, 0))]) (hP ▸ T.mixed) (by kernel_rfl) (by exact lessR5) [some 133, some 134, some 135, some 136, some 137, some 138, some 139, some 140, none, some 3] rfl (fun ops hops hopl => ?_)
                    unfold Dsts at hops
                    simp (maxSteps:=1000000)(dsimp:=false)(disch:=omega) only [go_sem, Φa, hP, h15_10, h15_0, h15_2, h15_4, h15_9, hops, hopl]
                    refine ⟨_, Cell.at 0 rfl (show (Rc.cells _)[0]? = _ from rfl), _, Cell.at 0 rfl (show (Rc.cells _)[1]? = _ from rfl), _, Cell.at 0 rfl (show (Rc.cells _)[2]? = _ from rfl), _, Cell.at 0 rfl (show (Rc.cells _)[3]? = _ from rfl), _, Cell.at 0 rfl (show (Rc.cells _)[4]? = _ from rfl), _, Cell.at 0 rfl (show (Rc.cells _)[5]? = _ from rfl), _, Cell.at 0 rfl (show (Rc.cells _)[6]? = _ from rfl), _, Cell.at 0 rfl (show (Rc.cells _)[7]? = _ from rfl), ?_⟩
                    try with_reducible refine stI ?_
                    try simp (maxSteps:=1000000)(dsimp:=false)(disch:=omega) only [go_sem, Φa, hP, h15_10, h15_0, h15_2, h15_4, h15_9, hops, hopl]
                    rcases hmay : mayB (recR s) with _ | _
                    · skip
                      try with_reducible refine stI ?_
                      try with_reducible refine stI ?_
                      try simp (maxSteps:=1000000)(dsimp:=false)(disch:=omega) only [go_sem, Φa, hP, h15_10, h15_0, h15_2, h15_4, h15_9, hops, hopl]
                      refine ⟨2, _, _, _, rfl, by decide, .inr (by decide), ?_⟩
                      try with_reducible refine stI ?_
                      try simp (maxSteps:=1000000)(dsimp:=false)(disch:=omega) only [go_sem, Φa, hP, h15_10, h15_0, h15_2, h15_4, h15_9, hops, hopl]
                      refine ⟨lessR5, ?_⟩
                      try with_reducible refine stI ?_
                      try simp (maxSteps:=1000000)(dsimp:=false)(disch:=omega) only [go_sem, Φa, hP, h15_10, h15_0, h15_2, h15_4, h15_9, hops, hopl]
                      refine hK41 _ _ ?_
                      try clear hK41 K41
                      refine SX.ret ?_
                      simp only [andThen_normal, andThen_ret, andThen_exit, inBlk_normal, inBlk_ret, inBlk_exit, Nat.reduceEqDiff, if_true, if_false, ↓reduceIte, retQ_ret]
                      try simp only [res0,res1,res2,res3,stK_e,resX,resK,oneOr,ld_ptr,loadVC,loadN,List.nil_append,List.cons_append,Nat.reduceAdd,Nat.add_zero,Nat.zero_add,Addr.add_lit,Addr.add_zero',add_addS,T.elA_46,T.lay_46,T.szA_46,T.zr_46,Tryd.underlying46,go_sem,Φa,hP,h15_10,h15_0,h15_2,h15_4,h15_9]
                      exact ⟨_, _, Less.drops (Less.drops (Less.drop _ _)), ⟨_, Cell.at 2 rfl rfl, _, Cell.at 2 rfl rfl, _, Cell.at 2 rfl rfl, _, Cell.at 2 rfl rfl, _, Cell.at 2 rfl rfl, _, Cell.at 2 rfl rfl, _, Cell.at 2 rfl rfl, _, Cell.at 2 rfl rfl, rfl⟩, by rw [hgo, hmay]; rfl, rfl⟩
                    · skip
                      try with_reducible refine stI ?_
                      try with_reducible refine stI ?_
                      try simp (maxSteps:=1000000)(dsimp:=false)(disch:=omega) only [go_sem, Φa, hP, h15_10, h15_0, h15_2, h15_4, h15_9, hops, hopl]
                      refine ⟨_, Cell.at 0 rfl (show (Rc.cells _)[0]? = _ from rfl), _, Cell.at 0 rfl (show (Rc.cells _)[1]? = _ from rfl), _, Cell.at 0 rfl (show (Rc.cells _)[2]? = _ from rfl), _, Cell.at 0 rfl (show (Rc.cells _)[3]? = _ from rfl), _, Cell.at 0 rfl (show (Rc.cells _)[4]? = _ from rfl), _, Cell.at 0 rfl (show (Rc.cells _)[5]? = _ from rfl), _, Cell.at 0 rfl (show (Rc.cells _)[6]? = _ from rfl), _, Cell.at 0 rfl (show (Rc.cells _)[7]? = _ from rfl), ?_⟩
                      try with_reducible refine stI ?_
                      try simp (maxSteps:=1000000)(dsimp:=false)(disch:=omega) only [go_sem, Φa, hP, h15_10, h15_0, h15_2, h15_4, h15_9, hops, hopl]
                      refine SCall.mono (refLine_spec hP (x := recR s) (recR_ok s) hmay) ?_
                      rintro v_ L_ ⟨rfl, rfl⟩
                      try with_reducible refine stI ?_
                      try simp (maxSteps:=1000000)(dsimp:=false)(disch:=omega) only [go_sem, Φa, hP, h15_10, h15_0, h15_2, h15_4, h15_9, hops, hopl]
                      refine ⟨lessR5, ?_⟩
                      try with_reducible refine stI ?_
                      try simp (maxSteps:=1000000)(dsimp:=false)(disch:=omega) only [go_sem, Φa, hP, h15_10, h15_0, h15_2, h15_4, h15_9, hops, hopl]
                      refine ⟨2, _, _, _, rfl, by decide, .inr (by decide), ?_⟩
                      try with_reducible refine stI ?_
                      try simp (maxSteps:=1000000)(dsimp:=false)(disch:=omega) only [go_sem, Φa, hP, h15_10, h15_0, h15_2, h15_4, h15_9, hops, hopl]
                      refine ⟨lessR5, ?_⟩
                      try with_reducible refine stI ?_
                      try simp (maxSteps:=1000000)(dsimp:=false)(disch:=omega) only [go_sem, Φa, hP, h15_10, h15_0, h15_2, h15_4, h15_9, hops, hopl]
                      refine hK41 _ _ ?_
                      try clear hK41 K41
                      refine SX.ret ?_
                      simp only [andThen_normal, andThen_ret, andThen_exit, inBlk_normal, inBlk_ret, inBlk_exit, Nat.reduceEqDiff, if_true, if_false, ↓reduceIte, retQ_ret]
                      try simp only [res0,res1,res2,res3,stK_e,resX,resK,oneOr,ld_ptr,loadVC,loadN,List.nil_append,List.cons_append,Nat.reduceAdd,Nat.add_zero,Nat.zero_add,Addr.add_lit,Addr.add_zero',add_addS,T.elA_46,T.lay_46,T.szA_46,T.zr_46,Tryd.underlying46,go_sem,Φa,hP,h15_10,h15_0,h15_2,h15_4,h15_9]
                      exact ⟨_, _, Less.drops (Less.drops (Less.drop _ _)), ⟨_, Cell.at 2 rfl rfl, _, Cell.at 2 rfl rfl, _, Cell.at 2 rfl rfl, _, Cell.at 2 rfl rfl, _, Cell.at 2 rfl rfl, _, Cell.at 2 rfl rfl, _, Cell.at 2 rfl rfl, _, Cell.at 2 rfl rfl, rfl⟩, by rw [hgo, hmay]; rfl, rfl⟩

end Go.Proofs.YtcenlgofldnfcaaDoor
set_option linter.unusedVariables false
set_option linter.unusedSimpArgs false
namespace Go.Proofs.YtcenlgofldnfcaaDoor
open Go.RowKit Go.SX Go.Proofs

/-! The document's Parse; the law TraceParses. -/
theorem linesR_size {c : UInt8} {s x : ByteArray} (h : x ∈ linesR c s) : x.size ≤ s.size := by
  have h1 := (linesR_inv c s).1
  have hm : x.data.toList ∈ (linesR c s).map fun l => l.data.toList := List.mem_map.2 ⟨x, h, rfl⟩
  obtain ⟨a, b, e⟩ := List.append_of_mem hm
  rw [e] at h1
  have hl := congrArg List.length h1
  unfold flatC at hl
  simp only [List.flatMap_append, List.flatMap_cons, List.length_append] at hl
  show x.data.toList.length ≤ s.data.toList.length
  omega
theorem pf_stop {f : ByteArray → Rc × Bool} {ls : List ByteArray} {i : Nat} {acc : List Rc} {r : ByteArray} (hi : i < ls.length) (hb : ¬ (f (ls.getD i eB)).2 = true) : parseF f (ls.drop i) i acc r = ([], 90, (i : Int) + 1) := by
  rw [List.drop_eq_getElem_cons hi, parseF, if_neg (by rw [List.getD_eq_getElem?_getD, List.getElem?_eq_getElem hi] at hb; exact hb)]
theorem pf_go {f : ByteArray → Rc × Bool} {ls : List ByteArray} {i : Nat} {acc : List Rc} {r : ByteArray} (hi : i < ls.length) (hb : (f (ls.getD i eB)).2 = true) : parseF f (ls.drop i) i acc r = parseF f (ls.drop (i + 1)) (i + 1) (acc ++ [(f (ls.getD i eB)).1]) r := by
  have e : ls.getD i eB = ls[i] := by rw [List.getD_eq_getElem?_getD, List.getElem?_eq_getElem hi]; rfl
  rw [e] at hb ⊢
  rw [List.drop_eq_getElem_cons hi, parseF, if_pos hb]
set_option maxHeartbeats 1000000 in
set_option maxRecDepth 100000 in
theorem refParse_spec {Γ : Ctx} (hP : Γ.P = Tryd.prog) {L : Hp} {s : ByteArray} :
    SCall Γ 24 #[(.string s)] L (ParseR (parseS refP s) L) := by
  refine SCall.enter (n := 47) (res3 2 3 4) (hP ▸ Tryd.func24) rfl rfl (by simp) (res3_ok rfl) ?_
  refine SX.seq_k fun K1 hK1 => ?_
  refine SX.region_d [some 2, some 3, some 4] rfl (fun ops hops => ?_)
  unfold Dsts at hops
  simp (maxSteps := 1000000) (dsimp := false) (disch := omega) only [go_sem, ia_someH, hP, hops]
  refine hK1 _ _ ?_
  try clear hK1 K1
  refine SX.seq_k fun K2 hK2 => ?_
  refine SX.seq_k fun K3 hK3 => ?_
  refine SX.region_d [some 11, some 12, some 13] rfl (fun ops hops => ?_)
  unfold Dsts at hops
  simp (maxSteps := 1000000) (dsimp := false) (disch := omega) only [go_sem, ia_someH, hP, hops]
  repeat' ((first | refine And.intro (by omega) ?_ | fail); try (with_reducible refine stI ?_); try simp (maxSteps := 1000000) (dsimp := false) (disch := omega) only [go_sem, ia_someH, hP, hops])
  refine hK3 _ _ ?_
  try clear hK3 K3
  refine SX.cond_k fun X4 Y4 hX4 hY4 => ?_
  simp (maxSteps := 1000000) (dsimp := false) (disch := omega) only [go_sem, ia_someH, hP, condVC]
  refine ⟨fun hc13 => hX4 ?_, fun hc13 => hY4 ?_⟩
  · clear hX4 hY4 X4 Y4
    refine SX.seq_k fun K5 hK5 => ?_
    refine SX.region_d [some 2, some 3, some 4] rfl (fun ops hops => ?_)
    unfold Dsts at hops
    simp (maxSteps := 1000000) (dsimp := false) (disch := omega) only [go_sem, ia_someH, hP, hops]
    refine hK5 _ _ ?_
    try clear hK5 K5
    refine SX.ret ?_
    simp only [andThen_normal, andThen_ret, andThen_exit, inBlk_normal, inBlk_ret, inBlk_exit, Nat.reduceEqDiff, if_true, if_false, ↓reduceIte, retQ_ret]
    try simp only [res0, res1, res2, res3, stK_e, go_sem, ia_someH, hP]
    refine ⟨_, _, Less.none _, rfl, ?_⟩
    unfold parseS
    rw [if_pos (by omega)]
    exact ⟨_, _, rfl, rfl, RowL.nil _ _ _⟩
  · clear hX4 hY4 X4 Y4
    refine SX.skip ?_
    try simp only [andThen_normal, andThen_ret, andThen_exit, inBlk_normal, inBlk_ret, inBlk_exit, Nat.reduceEqDiff, if_true, if_false, ↓reduceIte]
    refine hK2 _ _ ?_
    try clear hK2 K2
    refine SX.seq_k fun K6 hK6 => ?_
    refine SX.region_d [some 15, some 16, some 14, some 17, some 18, some 5, some 6] rfl (fun ops hops => ?_)
    unfold Dsts at hops
    simp (maxSteps := 1000000) (dsimp := false) (disch := omega) only [go_sem, ia_someH, hP, hops]
    refine SCall.mono (Lines_spec hP (s := s) (by omega)) ?_
    rintro v_ L_ ⟨vl, sl, rfl, rfl, hlr⟩
    obtain ⟨A, c, gb, hv, hcap, hA, hcl⟩ := RowS.cell hlr
    subst hv
    try with_reducible refine stI ?_
    try simp (maxSteps := 1000000) (dsimp := false) (disch := omega) only [go_sem, ia_someH, hP, hops]
    refine hK6 _ _ ?_
    try clear hK6 K6
    refine SX.live [5, 6] (fun T1 hT1 => ?_)
    simp only [forall_mem_cons', forall_mem_nil', go_sem, ia_someH, hP] at hT1
    obtain ⟨h1_5, h1_6⟩ := hT1
    refine SX.seq_k fun K7 hK7 => ?_
    refine SX.region_d [some 7] rfl (fun ops hops => ?_)
    unfold Dsts at hops
    simp (maxSteps := 1000000) (dsimp := false) (disch := omega) only [go_sem, ia_someH, hP, h1_5, h1_6, hops]
    refine hK7 _ _ ?_
    try clear hK7 K7
    refine SX.seq_k fun K8 hK8 => ?_
    refine SX.seq_k fun K9 hK9 => ?_
    refine SX.region_d [some 8] rfl (fun ops hops => ?_)
    unfold Dsts at hops
    simp (maxSteps := 1000000) (dsimp := false) (disch := omega) only [go_sem, ia_someH, hP, h1_5, h1_6, hops]
    refine hK9 _ _ ?_
    try clear hK9 K9
    refine SX.block ?_
    have hs : s.size ≤ 65536 := by omega
    have hnl := linesR_len 10 s
    refine SX.less (Less.none _) ?_
    refine SX.live [5, 6, 7, 8] (fun T2 hT2 => ?_)
    simp only [forall_mem_cons', forall_mem_nil', go_sem, ia_someH, hP, h1_5, h1_6] at hT2
    obtain ⟨h2_5, h2_6, h2_7, h2_8⟩ := hT2
    clear h1_5 h1_6 T1
    refine SX.loop_k (fun (ss : (Nat) × (Value) × (Slot) × (List Rc)) T L' => (fun (i : Nat) (vo : Value) (so : Slot) (acc : List Rc) => T 7 = vo ∧ T 8 = .int .i64 (i : Int) ∧ T 5 = T2 5 ∧ T 6 = T2 6 ∧ L' = so :: sl :: L ∧ (i ≤ (linesR 10 s).length ∧ acc.length = i ∧ RowL Rc.cells 46 8 vo acc so ∧ parseF refP ((linesR 10 s).drop i) i acc (restR 10 s) = parseF refP (linesR 10 s) 0 [] (restR 10 s))) (ss.1) (ss.2.1) (ss.2.2.1) (ss.2.2.2)) (fun (ss : (Nat) × (Value) × (Slot) × (List Rc)) => (fun (i : Nat) (vo : Value) (so : Slot) (acc : List Rc) => (linesR 10 s).length - i) (ss.1) (ss.2.1) (ss.2.2.1) (ss.2.2.2)) (0, .slice none 0 0, none, []) ?_ ?_
    · try dsimp only
      refine ⟨?_, ?_, ?_, ?_, ?_, ?_⟩
      · first | exact h2_7 | (rw [h2_7]; rfl) | (rw [h2_7]; simp; done)
      · first | exact h2_8 | (rw [h2_8]; rfl) | (rw [h2_8]; simp; done)
      · rfl
      · rfl
      · rfl
      · exact ⟨Nat.zero_le _, rfl, RowL.nil _ _ _, rfl⟩
    · intro ss T3 L3 hI K10 hK10
      obtain ⟨i, vo, so, acc⟩ := ss
      try dsimp only at hI hK10
      simp only [h2_5, h2_6] at hI hK10
      obtain ⟨h3_7, h3_8, h3_5, h3_6, hL3, ⟨hi, hal, hrow, hpf⟩⟩ := hI
      replace hL3 := hL3.symm
      subst hL3
      clear h2_5 h2_6 h2_7 h2_8 T2
      refine SX.seq_k fun K11 hK11 => ?_
      refine SX.seq_k fun K12 hK12 => ?_
      refine SX.region_d [some 19, some 20, some 21, some 22] rfl (fun ops hops => ?_)
      unfold Dsts at hops
      simp (maxSteps := 1000000) (dsimp := false) (disch := omega) only [go_sem, ia_someH, hP, h3_7, h3_8, h3_5, h3_6, hops]
      repeat' ((first | refine And.intro (by omega) ?_ | fail); try (with_reducible refine stI ?_); try simp (maxSteps := 1000000) (dsimp := false) (disch := omega) only [go_sem, ia_someH, hP, h3_7, h3_8, h3_5, h3_6, hops])
      refine hK12 _ _ ?_
      try clear hK12 K12
      refine SX.cond_k fun X13 Y13 hX13 hY13 => ?_
      simp (maxSteps := 1000000) (dsimp := false) (disch := omega) only [go_sem, ia_someH, hP, h3_7, h3_8, h3_5, h3_6, condVC]
      refine ⟨fun hc22 => hX13 ?_, fun hc22 => hY13 ?_⟩
      · clear hX13 hY13 X13 Y13
        refine SX.skip ?_
        try simp only [andThen_normal, andThen_ret, andThen_exit, inBlk_normal, inBlk_ret, inBlk_exit, Nat.reduceEqDiff, if_true, if_false, ↓reduceIte]
        refine hK11 _ _ ?_
        try clear hK11 K11
        refine SX.seq_k fun K14 hK14 => ?_
        refine SX.block ?_
        refine SX.seq_k fun K15 hK15 => ?_
        have hlt : i < (linesR 10 s).length := by omega
        obtain rfl := hA (by omega)
        have hwz : ((linesR 10 s).getD i eB).size ≤ s.size := linesR_size (c := 10) (by rw [List.getD_eq_getElem?_getD, List.getElem?_eq_getElem hlt]; exact List.getElem_mem hlt)
        refine SX.region_d [some 26, some 27, some 28, some 29, some 30, some 25, some 31, some 32, some 9, none, some 10] rfl (fun ops hops => ?_)
        unfold Dsts at hops
        simp (maxSteps := 1000000) (dsimp := false) (disch := omega) only [go_sem, ia_someH, hP, h3_7, h3_8, h3_5, h3_6, hops]
        refine ⟨_, hcl _ _ 1 rfl i hlt, ?_⟩
        try with_reducible refine stI ?_
        try simp (maxSteps := 1000000) (dsimp := false) (disch := omega) only [go_sem, ia_someH, hP, h3_7, h3_8, h3_5, h3_6, hops]
        refine SCall.mono (Record_spec hP (by omega)) ?_
        rintro v_ L_ ⟨rfl, rfl⟩
        try with_reducible refine stI ?_
        try simp (maxSteps := 1000000) (dsimp := false) (disch := omega) only [go_sem, ia_someH, hP, h3_7, h3_8, h3_5, h3_6, hops]
        intro b10
        try with_reducible refine stI ?_
        try simp (maxSteps := 1000000) (dsimp := false) (disch := omega) only [go_sem, ia_someH, hP, h3_7, h3_8, h3_5, h3_6, hops]
        refine ⟨rfl, rfl, 0, _, _, _, rfl, Nat.le_refl 8, .inr (Nat.zero_le 0), ?_⟩
        try with_reducible refine stI ?_
        try simp (maxSteps := 1000000) (dsimp := false) (disch := omega) only [go_sem, ia_someH, hP, h3_7, h3_8, h3_5, h3_6, hops]
        rw [put_rc rfl]
        refine hK15 _ _ ?_
        try clear hK15 K15
        refine SX.live [5, 6, 7, 8, 9, 10] (fun T4 hT4 => ?_)
        simp only [forall_mem_cons', forall_mem_nil', go_sem, ia_someH, hP, h3_7, h3_8, h3_5, h3_6] at hT4
        obtain ⟨h4_5, h4_6, h4_7, h4_8, h4_9, h4_10⟩ := hT4
        clear h3_7 h3_8 h3_5 h3_6 T3
        refine SX.seq_k fun K16 hK16 => ?_
        refine SX.seq_k fun K17 hK17 => ?_
        refine SX.region_d [some 33, some 34] rfl (fun ops hops => ?_)
        unfold Dsts at hops
        simp (maxSteps := 1000000) (dsimp := false) (disch := omega) only [go_sem, ia_someH, hP, h4_5, h4_6, h4_7, h4_8, h4_9, h4_10, hops]
        refine hK17 _ _ ?_
        try clear hK17 K17
        refine SX.cond_k fun X18 Y18 hX18 hY18 => ?_
        simp (maxSteps := 1000000) (dsimp := false) (disch := omega) only [go_sem, ia_someH, hP, h4_5, h4_6, h4_7, h4_8, h4_9, h4_10, condVC]
        refine ⟨fun hc34 => hX18 ?_, fun hc34 => hY18 ?_⟩
        · clear hX18 hY18 X18 Y18
          refine SX.seq_k fun K19 hK19 => ?_
          refine SX.region_d [some 35, some 36, some 2, some 3, some 4] rfl (fun ops hops => ?_)
          unfold Dsts at hops
          simp (maxSteps := 1000000) (dsimp := false) (disch := omega) only [go_sem, ia_someH, hP, h4_5, h4_6, h4_7, h4_8, h4_9, h4_10, hops]
          repeat' ((first | refine And.intro (by omega) ?_ | fail); try (with_reducible refine stI ?_); try simp (maxSteps := 1000000) (dsimp := false) (disch := omega) only [go_sem, ia_someH, hP, h4_5, h4_6, h4_7, h4_8, h4_9, h4_10, hops])
          refine hK19 _ _ ?_
          try clear hK19 K19
          refine SX.ret ?_
          simp only [andThen_normal, andThen_ret, andThen_exit, inBlk_normal, inBlk_ret, inBlk_exit, Nat.reduceEqDiff, if_true, if_false, ↓reduceIte, retQ_ret]
          try simp only [res0, res1, res2, res3, stK_e, go_sem, ia_someH, hP, h4_5, h4_6, h4_7, h4_8, h4_9, h4_10]
          refine ⟨_, _, (Less.drops (Less.drops (Less.drop _ _))).trans (Less.none _), rfl, ?_⟩
          unfold parseS
          rw [if_neg (by omega), ← hpf, pf_stop hlt (by first | exact hc34 | simpa using hc34)]
          exact ⟨_, _, rfl, rfl, RowL.nil _ _ _⟩
        · clear hX18 hY18 X18 Y18
          refine SX.skip ?_
          try simp only [andThen_normal, andThen_ret, andThen_exit, inBlk_normal, inBlk_ret, inBlk_exit, Nat.reduceEqDiff, if_true, if_false, ↓reduceIte]
          refine hK16 _ _ ?_
          try clear hK16 K16
          have hok : (refP ((linesR 10 s).getD i eB)).2 = true := by first | exact hc34 | simpa using hc34
          obtain ⟨oA, oC, rfl, _, _⟩ := Row.form hrow
          refine SX.region_d [some 37, some 38, some 39, some 40, some 7] rfl (fun ops hops => ?_)
          unfold Dsts at hops
          simp (maxSteps := 1000000) (dsimp := false) (disch := omega) only [go_sem, ia_someH, hP, h4_5, h4_6, h4_7, h4_8, h4_9, h4_10, hops]
          refine ⟨_, Cell.at 0 rfl (show (Rc.cells _)[0]? = _ from rfl), _, Cell.at 0 rfl (show (Rc.cells _)[1]? = _ from rfl), _, Cell.at 0 rfl (show (Rc.cells _)[2]? = _ from rfl), _, Cell.at 0 rfl (show (Rc.cells _)[3]? = _ from rfl), _, Cell.at 0 rfl (show (Rc.cells _)[4]? = _ from rfl), _, Cell.at 0 rfl (show (Rc.cells _)[5]? = _ from rfl), _, Cell.at 0 rfl (show (Rc.cells _)[6]? = _ from rfl), _, Cell.at 0 rfl (show (Rc.cells _)[7]? = _ from rfl), ?_⟩
          try with_reducible refine stI ?_
          try simp (maxSteps := 1000000) (dsimp := false) (disch := omega) only [go_sem, ia_someH, hP, h4_5, h4_6, h4_7, h4_8, h4_9, h4_10, hops]
          intro g22
          try with_reducible refine stI ?_
          try simp (maxSteps := 1000000) (dsimp := false) (disch := omega) only [go_sem, ia_someH, hP, h4_5, h4_6, h4_7, h4_8, h4_9, h4_10, hops]
          refine YAppend.rowL (f := Rc.cells) (x := (refP ((linesR 10 s).getD i eB)).1) (i := 1) (z := [.int .u8 0, .int .u16 0, .int .u8 0, .bool false, .bool false, .int .u8 0, .bool false, .int .u8 0]) (hP ▸ T.elS_23) (hP ▸ T.zr_46) rfl rfl rfl rfl hrow (by omega) (by decide) ?_
          intro v' s' hr'
          try with_reducible refine stI ?_
          try simp (maxSteps := 1000000) (dsimp := false) (disch := omega) only [go_sem, ia_someH, hP, h4_5, h4_6, h4_7, h4_8, h4_9, h4_10, hops]
          refine hK14 _ _ ?_
          try clear hK14 K14
          refine SX.region_d [some 23, some 24, some 8] rfl (fun ops hops => ?_)
          unfold Dsts at hops
          simp (maxSteps := 1000000) (dsimp := false) (disch := omega) only [go_sem, ia_someH, hP, h4_5, h4_6, h4_7, h4_8, h4_9, h4_10, hops]
          repeat' ((first | refine And.intro (by omega) ?_ | fail); try (with_reducible refine stI ?_); try simp (maxSteps := 1000000) (dsimp := false) (disch := omega) only [go_sem, ia_someH, hP, h4_5, h4_6, h4_7, h4_8, h4_9, h4_10, hops])
          refine hK10 (i + 1, v', s', acc ++ [(refP ((linesR 10 s).getD i eB)).1]) _ (s' :: sl :: L) _ (by exact Less.drops (Less.drop _ _)) ?_ ?_
          · try dsimp only
            refine ⟨?_, ?_, ?_, ?_, ?_, ?_⟩
            · simp (maxSteps := 1000000) (dsimp := false) (disch := omega) only [go_sem, ia_someH, hP, h4_5, h4_6, h4_7, h4_8, h4_9, h4_10]
              first | done | rfl | skip
            · simp (maxSteps := 1000000) (dsimp := false) (disch := omega) only [go_sem, ia_someH, hP, h4_5, h4_6, h4_7, h4_8, h4_9, h4_10]
              first | done | rfl | skip
            · simp (maxSteps := 1000000) (dsimp := false) (disch := omega) only [go_sem, ia_someH, hP, h4_5, h4_6, h4_7, h4_8, h4_9, h4_10]
            · simp (maxSteps := 1000000) (dsimp := false) (disch := omega) only [go_sem, ia_someH, hP, h4_5, h4_6, h4_7, h4_8, h4_9, h4_10]
            · rfl
            · exact ⟨by omega, by rw [List.length_append, hal]; rfl, hr', by rw [← pf_go hlt hok]; exact hpf⟩
          · (try dsimp only); omega
      · clear hX13 hY13 X13 Y13
        refine SX.exit ?_
        try simp only [andThen_normal, andThen_ret, andThen_exit, inBlk_normal, inBlk_ret, inBlk_exit, Nat.reduceEqDiff, if_true, if_false, ↓reduceIte]
        refine hK8 _ _ ?_
        try clear hK8 K8
        refine SX.seq_k fun K20 hK20 => ?_
        refine SX.seq_k fun K21 hK21 => ?_
        obtain rfl : i = (linesR 10 s).length := by omega
        rw [List.drop_length, parseF] at hpf
        refine SX.region_d [some 41, some 42] rfl (fun ops hops => ?_)
        unfold Dsts at hops
        simp (maxSteps := 1000000) (dsimp := false) (disch := omega) only [go_sem, ia_someH, hP, h3_7, h3_8, h3_5, h3_6, hops]
        repeat' ((first | refine And.intro (by omega) ?_ | fail); try (with_reducible refine stI ?_); try simp (maxSteps := 1000000) (dsimp := false) (disch := omega) only [go_sem, ia_someH, hP, h3_7, h3_8, h3_5, h3_6, hops])
        refine hK21 _ _ ?_
        try clear hK21 K21
        refine SX.cond_k fun X22 Y22 hX22 hY22 => ?_
        simp (maxSteps := 1000000) (dsimp := false) (disch := omega) only [go_sem, ia_someH, hP, h3_7, h3_8, h3_5, h3_6, condVC]
        refine ⟨fun hc42 => hX22 ?_, fun hc42 => hY22 ?_⟩
        · clear hX22 hY22 X22 Y22
          refine SX.seq_k fun K23 hK23 => ?_
          refine SX.region_d [some 43, some 44, some 45, some 2, some 3, some 4] rfl (fun ops hops => ?_)
          unfold Dsts at hops
          simp (maxSteps := 1000000) (dsimp := false) (disch := omega) only [go_sem, ia_someH, hP, h3_7, h3_8, h3_5, h3_6, hops]
          repeat' ((first | refine And.intro (by omega) ?_ | fail); try (with_reducible refine stI ?_); try simp (maxSteps := 1000000) (dsimp := false) (disch := omega) only [go_sem, ia_someH, hP, h3_7, h3_8, h3_5, h3_6, hops])
          refine hK23 _ _ ?_
          try clear hK23 K23
          refine SX.ret ?_
          simp only [andThen_normal, andThen_ret, andThen_exit, inBlk_normal, inBlk_ret, inBlk_exit, Nat.reduceEqDiff, if_true, if_false, ↓reduceIte, retQ_ret]
          try simp only [res0, res1, res2, res3, stK_e, go_sem, ia_someH, hP, h3_7, h3_8, h3_5, h3_6]
          refine ⟨_, _, (Less.drops (Less.drop _ _)).trans (Less.none _), rfl, ?_⟩
          unfold parseS
          rw [if_neg (by omega), ← hpf, if_neg (by first | exact hc42 | simpa using hc42)]
          exact ⟨_, _, rfl, rfl, RowL.nil _ _ _⟩
        · clear hX22 hY22 X22 Y22
          refine SX.skip ?_
          try simp only [andThen_normal, andThen_ret, andThen_exit, inBlk_normal, inBlk_ret, inBlk_exit, Nat.reduceEqDiff, if_true, if_false, ↓reduceIte]
          refine hK20 _ _ ?_
          try clear hK20 K20
          refine SX.seq_k fun K24 hK24 => ?_
          refine SX.region_d [some 46, some 2, some 3, some 4] rfl (fun ops hops => ?_)
          unfold Dsts at hops
          simp (maxSteps := 1000000) (dsimp := false) (disch := omega) only [go_sem, ia_someH, hP, h3_7, h3_8, h3_5, h3_6, hops]
          refine hK24 _ _ ?_
          try clear hK24 K24
          refine SX.ret ?_
          simp only [andThen_normal, andThen_ret, andThen_exit, inBlk_normal, inBlk_ret, inBlk_exit, Nat.reduceEqDiff, if_true, if_false, ↓reduceIte, retQ_ret]
          try simp only [res0, res1, res2, res3, stK_e, go_sem, ia_someH, hP, h3_7, h3_8, h3_5, h3_6]
          refine ⟨_, _, Less.sublist (.cons_cons _ (.cons _ (List.Sublist.refl _))), rfl, ?_⟩
          unfold parseS
          rw [if_neg (by omega), ← hpf, if_pos (by first | exact hc42 | exact Decidable.not_not.1 hc42 | simpa using hc42)]
          exact ⟨_, _, rfl, rfl, hrow⟩

end Go.Proofs.YtcenlgofldnfcaaDoor
set_option linter.unusedVariables false
set_option linter.unusedSimpArgs false
namespace Go.Proofs.YtcenlgofldnfcaaDoor
open Go.RowKit Go.SX Go.Proofs

/-! The law TraceParses. -/
theorem zRc_ok : OkR zRc := ⟨by decide, by decide, by decide, by decide, by decide⟩
theorem readP_ok (s : ByteArray) : OkR (readP s).1 := by
  unfold readP
  split
  · exact rdP_ok s
  · exact zRc_ok
theorem parseF_ok {f : ByteArray → Rc × Bool} (hf : ∀ s, OkR (f s).1) : ∀ (l : List ByteArray) (i : Nat) (acc : List Rc) (r : ByteArray), (∀ x ∈ acc, OkR x) → (∀ x ∈ (parseF f l i acc r).1, OkR x) ∧ (parseF f l i acc r).1.length ≤ acc.length + l.length
  | [], i, acc, r, h => by
    rw [parseF]
    split
    · exact ⟨h, Nat.le_refl _⟩
    · exact ⟨fun x hx => (by cases hx), Nat.zero_le _⟩
  | y :: l, i, acc, r, h => by
    rw [parseF]
    split
    · have h2 := parseF_ok hf l (i + 1) (acc ++ [(f y).1]) r (fun x hx => by
        rcases List.mem_append.1 hx with hx | hx
        · exact h x hx
        · rw [List.mem_singleton.1 hx]; exact hf y)
      rw [List.length_append] at h2
      exact ⟨h2.1, by have := h2.2; simp only [List.length_cons, List.length_nil] at this ⊢; omega⟩
    · exact ⟨fun x hx => (by cases hx), Nat.zero_le _⟩
theorem parseS_ok (s : ByteArray) : (∀ x ∈ (parseS readP s).1, OkR x) ∧ (parseS readP s).1.length ≤ 65536 := by
  unfold parseS
  split
  · exact ⟨fun x hx => (by cases hx), Nat.zero_le _⟩
  · have h := parseF_ok readP_ok (linesR 10 s) 0 [] (restR 10 s) (fun x hx => (by cases hx))
    have hl := linesR_len 10 s
    exact ⟨h.1, by have := h.2; simp only [List.length_nil] at this; omega⟩
set_option maxHeartbeats 1000000 in
set_option maxRecDepth 100000 in
theorem TraceParses_spec {Γ : Ctx} (hP : Γ.P = Tryd.prog) {L : Hp} {s : ByteArray} (hMD : MD Γ) (hM : HasM Γ) :
    SCall Γ 8 #[(.string s)] L (fun v L' => v = .bool true ∧ L' = L) := by
  refine SCall.enter (n := 52) (res1 2) (hP ▸ Tryd.func8) rfl rfl (by simp) (res1_ok rfl) ?_
  refine SX.seq_k fun K1 hK1 => ?_
  refine SX.region_d [some 2] rfl (fun ops hops => ?_)
  unfold Dsts at hops
  simp (maxSteps := 1000000) (dsimp := false) (disch := omega) only [go_sem, ia_someH, hP, hops]
  refine hK1 _ _ ?_
  try clear hK1 K1
  refine SX.seq_k fun K2 hK2 => ?_
  refine SX.region_d [some 13, some 14, some 12, some 15, some 16, some 17, some 3, some 4, some 5] rfl (fun ops hops => ?_)
  unfold Dsts at hops
  simp (maxSteps := 1000000) (dsimp := false) (disch := omega) only [go_sem, ia_someH, hP, hops]
  refine SCall.mono (Parse_spec (s := s) hP hMD hM) ?_
  rintro v_ L_ ⟨va, sa, rfl, rfl, hra⟩
  try with_reducible refine stI ?_
  try simp (maxSteps := 1000000) (dsimp := false) (disch := omega) only [go_sem, ia_someH, hP, hops]
  refine hK2 _ _ ?_
  try clear hK2 K2
  refine SX.live [0, 3, 4, 5] (fun T1 hT1 => ?_)
  simp only [forall_mem_cons', forall_mem_nil', go_sem, ia_someH, hP] at hT1
  obtain ⟨h1_0, h1_3, h1_4, h1_5⟩ := hT1
  refine SX.seq_k fun K3 hK3 => ?_
  refine SX.region_d [some 19, some 20, some 18, some 21, some 22, some 23, some 6, some 7, some 8] rfl (fun ops hops => ?_)
  unfold Dsts at hops
  simp (maxSteps := 1000000) (dsimp := false) (disch := omega) only [go_sem, ia_someH, hP, h1_0, h1_3, h1_4, h1_5, hops]
  refine SCall.mono (Parse_spec (s := s) hP hMD hM) ?_
  rintro v_ L_ ⟨vb, sb, rfl, rfl, hrb⟩
  try with_reducible refine stI ?_
  try simp (maxSteps := 1000000) (dsimp := false) (disch := omega) only [go_sem, ia_someH, hP, h1_0, h1_3, h1_4, h1_5, hops]
  refine hK3 _ _ ?_
  try clear hK3 K3
  refine SX.live [0, 3, 4, 5, 6, 7] (fun T2 hT2 => ?_)
  simp only [forall_mem_cons', forall_mem_nil', go_sem, ia_someH, hP, h1_0, h1_3, h1_4, h1_5] at hT2
  obtain ⟨h2_0, h2_3, h2_4, h2_5, h2_6, h2_7⟩ := hT2
  clear h1_0 h1_3 h1_4 h1_5 T1
  refine SX.seq_k fun K4 hK4 => ?_
  refine SX.region_d [some 25, some 26, some 24, some 27, some 28, some 29, some 9, some 10, some 11] rfl (fun ops hops => ?_)
  unfold Dsts at hops
  simp (maxSteps := 1000000) (dsimp := false) (disch := omega) only [go_sem, ia_someH, hP, h2_0, h2_3, h2_4, h2_5, h2_6, h2_7, hops]
  refine SCall.mono (refParse_spec (s := s) hP) ?_
  rw [← parse_same]
  rintro v_ L_ ⟨vu, su, rfl, rfl, hru⟩
  try with_reducible refine stI ?_
  try simp (maxSteps := 1000000) (dsimp := false) (disch := omega) only [go_sem, ia_someH, hP, h2_0, h2_3, h2_4, h2_5, h2_6, h2_7, hops]
  refine hK4 _ _ ?_
  try clear hK4 K4
  refine SX.live [3, 4, 5, 6, 7, 9, 10, 11] (fun T3 hT3 => ?_)
  simp only [forall_mem_cons', forall_mem_nil', go_sem, ia_someH, hP, h2_0, h2_3, h2_4, h2_5, h2_6, h2_7] at hT3
  obtain ⟨h3_3, h3_4, h3_5, h3_6, h3_7, h3_9, h3_10, h3_11⟩ := hT3
  clear h2_0 h2_3 h2_4 h2_5 h2_6 h2_7 T2
  refine SX.seq_k fun K5 hK5 => ?_
  obtain ⟨huo, hul⟩ := parseS_ok s
  refine SX.region_d [some 30, some 31, some 32, some 33, some 34, some 35, some 36, some 37, some 38, some 39, some 40, some 41, some 42, some 43, some 44, some 45, some 46, some 47, some 48, some 49, some 50, some 51, some 2] rfl (fun ops hops => ?_)
  unfold Dsts at hops
  simp (maxSteps := 1000000) (dsimp := false) (disch := omega) only [go_sem, ia_someH, hP, h3_3, h3_4, h3_5, h3_6, h3_7, h3_9, h3_10, h3_11, hops]
  refine SCall.mono (own_spec hP hra hrb hru huo (by omega)) ?_
  rintro v_ L_ ⟨hv_, hL_⟩
  rw [hv_, hL_]
  clear hv_ hL_ v_ L_
  try with_reducible refine stI ?_
  try simp (maxSteps := 1000000) (dsimp := false) (disch := omega) only [go_sem, ia_someH, hP, h3_3, h3_4, h3_5, h3_6, h3_7, h3_9, h3_10, h3_11, hops]
  refine SCall.mono (awake_spec hP hMD) ?_
  rintro v_ L_ ⟨rfl, rfl⟩
  try with_reducible refine stI ?_
  try simp (maxSteps := 1000000) (dsimp := false) (disch := omega) only [go_sem, ia_someH, hP, h3_3, h3_4, h3_5, h3_6, h3_7, h3_9, h3_10, h3_11, hops]
  refine hK5 _ _ ?_
  try clear hK5 K5
  refine SX.ret ?_
  simp only [andThen_normal, andThen_ret, andThen_exit, inBlk_normal, inBlk_ret, inBlk_exit, Nat.reduceEqDiff, if_true, if_false, ↓reduceIte, retQ_ret]
  try simp only [res0, res1, res2, res3, stK_e, go_sem, ia_someH, hP, h3_3, h3_4, h3_5, h3_6, h3_7, h3_9, h3_10, h3_11]
  exact ⟨_, _, Less.refl _, rfl, rfl, rfl⟩

end Go.Proofs.YtcenlgofldnfcaaDoor
set_option linter.unusedVariables false
namespace Go.Proofs.YtcenlgofldnfcaaDoor
open Go.ChangeShapes Go.WideShapes Go.ChangeAt Go.RowKit Go.SX Go.Proofs
/-! What is handed in: records, bytes; the laid variable. -/
theorem own : ownKnob Tryd.prog.godebug = none := by kernel_rfl
theorem laidOut : laidOutB Tryd.prog = true := by kernel_rfl
theorem cells9 : Tryd.prog.cellsOf 9 = 1 := by kernel_rfl
theorem gMd : Tryd.prog.globalNamed "vesper/trace.modes" = some 0 := by kernel_rfl
theorem tMd : (Tryd.prog.globals[0]?).map (·.type) = some 89 := by kernel_rfl
theorem trod_arr_strs {H : Type} {enc : TypeId × Value → H} {P : Program} {w : World} {base : Nat} {spare : Nat → Bool} {held : Bool} {fuel : Nat} {cs : List Value} {x : DataW H × List MemPlace} {t e n : TypeId} {ss : List ByteArray} (hu : P.underlying t = some (.array n e)) (he : P.underlying e = some .string) (hc : P.cellsOf e = 1)
    (h : DataW.trod enc P w base spare held fuel t cs = some x) (hx : x.1 = .agg (ss.map fun s => .lit (.string s.data.toList))) : ∀ (i : Nat) (s : ByteArray), ss[i]? = some s → cs[i]? = some (.string s) := by
  obtain ⟨xs, m, rfl, rfl, hlen, hn, hel⟩ := DataW.trod_array hu h
  simp only [DataW.agg.injEq] at hx
  intro i s hs
  have hil : i < ss.length := (List.getElem?_eq_some_iff.1 hs).1
  have hl2 : ss.length = n := by
    have := congrArg List.length hx
    simp at this
    omega
  have h1 := hel i (by omega)
  rw [hc, Nat.mul_one] at h1
  have hxi : xs[i]? = some (xs[i]'(by omega)) := List.getElem?_eq_getElem (by omega)
  rw [hxi] at h1
  obtain ⟨z, e1, e2, _⟩ := DataW.trod_string he h1
  have h2 := congrArg (fun l => l[i]?) hx
  simp only [List.getElem?_map, hxi, hs, Option.map_some, e2, Option.some.injEq, DataW.lit.injEq, Lit.string.injEq] at h2
  have h3 : cs[i]? = some (.string z) := by
    have := congrArg List.head? e1
    rw [List.head?_take, if_neg (by omega), List.head?_drop] at this
    exact this
  rw [h3]
  have : z = s := by
    cases z; cases s
    simp only [ByteArray.mk.injEq]
    exact Array.toList_inj.1 h2
  rw [this]
theorem modes_of {W : World} {laid : List (String × DataW Unit)} (hp : (laid.all fun x => x.2.handleName?.isNone) = true) (hL : laidMetH Tryd.prog laid W) (hm : ("vesper/trace.modes", Rows.laid_vesper_trace_modes) ∈ laid) : MD ⟨Tryd.prog, W, []⟩ := by
  obtain ⟨cs, f, p, h1, h2⟩ := laid_var hp hL hm gMd tMd
  have key := trod_arr_strs (ss := mdL) Tryd.underlying89 Tryd.underlying9 cells9 h1 rfl
  intro L i hi
  refine Cell.old (by simp) ?_
  rw [h2]
  refine key i _ ?_
  match i, hi with
  | 0, _ | 1, _ | 2, _ | 3, _ => rfl
section
variable {H : Type} {enc : TypeId × Value → H} {W : World} {base : Nat} {v : Value} {d : DataW H} {p : List MemPlace}
end
end Go.Proofs.YtcenlgofldnfcaaDoor
