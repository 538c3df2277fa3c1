/- A part of the proof of GameNewSaid. -/
import Derived.Test.YtgioegdjeodpiaaCB
import Derived.Laws.BitsLemmas
set_option linter.unusedVariables false
set_option linter.unusedSimpArgs false
namespace Go.Proofs.Ytgioegdjeodpiaa
open Go.RowKit Go.SX
open Go.SX renaming add_addS → Φa, ia_someH → Φb, stK_e → Φc

def dotB (b : Int) (k : Nat) : Bool := decide (bits .and .u8 (b.fdiv (2 ^ (min (7 - (k : Int)).toNat 8))) 1 = 1)

def bitOf (i : Nat) : Int := (128 : Int).fdiv (2 ^ (min (i % 8) 8))
/-- One dot turned: whether one went out, and the page. -/
def putDot (st : Bool × List Int) (i j : Nat) : Bool × List Int :=
  if 64 ≤ i ∨ 32 ≤ j then st
  else (st.1 || !decide (bits .and .u8 (st.2.getD (j * 8 + i / 8) 0) (bitOf i) = 0), st.2.set (j * 8 + i / 8) (bits .xor .u8 (st.2.getD (j * 8 + i / 8) 0) (bitOf i)))
theorem putDot_length (st : Bool × List Int) (i j : Nat) : (putDot st i j).2.length = st.2.length := by
  unfold putDot
  split
  · rfl
  · simp
def heapD (g o r cap : Nat) (junk : List Value) (st : Bool × List Int) (L : Hp) : Hp :=
  some (g, .cells #[.bool st.1] 4 (0, 0)) :: some (o, .cells #[.slice (some ⟨r, 0, none⟩) 256 cap] 23 (0, 0)) :: some (r, .cells (ints .u8 st.2 ++ junk).toArray 5 (0, 0)) :: L
set_option maxHeartbeats 1000000 in
set_option maxRecDepth 100000 in
theorem putDot_spec {Γ : Ctx} (hP : Γ.P = Try.prog) {L : Hp} {i j g o r cap : Nat} {junk : List Value} {st : Bool × List Int} (hi : i < 1000) (hj : j < 1000) (hlen : st.2.length = 256) (hcap : 256 ≤ cap) :
    SCall Γ 102 #[(.int .i64 (i : Int)), (.int .i64 (j : Int)), (.pointer (some ⟨g, 0, none⟩)), (.pointer (some ⟨o, 0, none⟩))] (heapD g o r cap junk st L) (fun v L' => v = .tuple #[] ∧ L' = heapD g o r cap junk (putDot st i j) L) := by
  refine SCall.enter (n := 39) (res0) (hP ▸ Try.func102) rfl rfl (by simp) (res0_ok rfl) ?_
  refine SX.seq_k fun K1 hK1 => ?_
  refine SX.seq_k fun K2 hK2 => ?_
  refine SX.region_x ?_
  refine RX.live [0, 1, 2, 3] (fun T1 hT1 => ?_)
  simp only [go_sem, Φc, Φa, Φb, forall_mem_cons', forall_mem_nil', hP] at hT1
  obtain ⟨h1_0, h1_1, h1_2, h1_3⟩ := hT1
  refine RX.join 6 (fun (ss : Unit) T L' => T 13 = .bool (decide (64 ≤ i ∨ 32 ≤ j)) ∧ T 0 = T1 0 ∧ T 1 = T1 1 ∧ T 2 = T1 2 ∧ T 3 = T1 3 ∧ L' = heapD g o r cap junk st L ∧ (True)) (fun K3 hK3 => ?_) ?_
  · simp only [h1_0, h1_1, h1_2, h1_3] at hK3
    simp (maxSteps := 1000000) only [go_sem, Φc, Φa, Φb, hP, h1_0, h1_1, h1_2, h1_3]
    refine iteI (fun hg => ?_) (fun hg => ?_)
    · skip
      refine hK3 () _ (heapD g o r cap junk st L) _ (by first | exact Less.refl _ | exact Less.drop _ _ | exact Less.drops (Less.drop _ _) | exact Less.drops (Less.drops (Less.drop _ _)) | exact Less.drops (Less.drops (Less.drops (Less.drop _ _))) | exact Less.drops (Less.drops (Less.drops (Less.drops (Less.drop _ _))))) ?_
      try dsimp only
      refine ⟨?_, ?_, ?_, ?_, ?_, ?_, ?_⟩
      · simp (maxSteps := 1000000) only [go_sem, Φc, Φa, Φb, hP, h1_0, h1_1, h1_2, h1_3]
        first | exact congrArg _ (decide_eq_decide.2 (by omega)) | exact congrArg _ (decide_eq_true (by omega)).symm | exact congrArg _ (decide_eq_false (by omega)).symm
      · simp (maxSteps := 1000000) only [go_sem, Φc, Φa, Φb, hP, h1_0, h1_1, h1_2, h1_3]
      · simp (maxSteps := 1000000) only [go_sem, Φc, Φa, Φb, hP, h1_0, h1_1, h1_2, h1_3]
      · simp (maxSteps := 1000000) only [go_sem, Φc, Φa, Φb, hP, h1_0, h1_1, h1_2, h1_3]
      · simp (maxSteps := 1000000) only [go_sem, Φc, Φa, Φb, hP, h1_0, h1_1, h1_2, h1_3]
      · rfl
      · trivial
    · skip
      refine hK3 () _ (heapD g o r cap junk st L) _ (by first | exact Less.refl _ | exact Less.drop _ _ | exact Less.drops (Less.drop _ _) | exact Less.drops (Less.drops (Less.drop _ _)) | exact Less.drops (Less.drops (Less.drops (Less.drop _ _))) | exact Less.drops (Less.drops (Less.drops (Less.drops (Less.drop _ _))))) ?_
      try dsimp only
      refine ⟨?_, ?_, ?_, ?_, ?_, ?_, ?_⟩
      · simp (maxSteps := 1000000) only [go_sem, Φc, Φa, Φb, hP, h1_0, h1_1, h1_2, h1_3]
        first | exact congrArg _ (decide_eq_decide.2 (by omega)) | exact congrArg _ (decide_eq_true (by omega)).symm | exact congrArg _ (decide_eq_false (by omega)).symm
      · simp (maxSteps := 1000000) only [go_sem, Φc, Φa, Φb, hP, h1_0, h1_1, h1_2, h1_3]
      · simp (maxSteps := 1000000) only [go_sem, Φc, Φa, Φb, hP, h1_0, h1_1, h1_2, h1_3]
      · simp (maxSteps := 1000000) only [go_sem, Φc, Φa, Φb, hP, h1_0, h1_1, h1_2, h1_3]
      · simp (maxSteps := 1000000) only [go_sem, Φc, Φa, Φb, hP, h1_0, h1_1, h1_2, h1_3]
      · rfl
      · trivial
  · intro ss T2 L2 hI
    simp only [h1_0, h1_1, h1_2, h1_3] at hI 
    obtain ⟨h2_13, h2_0, h2_1, h2_2, h2_3, hL2, hinv⟩ := hI
    replace hL2 := hL2.symm
    subst hL2
    clear h1_0 h1_1 h1_2 h1_3 T1
    refine RX.done ?_
    simp (maxSteps := 1000000) only [go_sem, Φc, Φa, Φb, hP, h2_13, h2_0, h2_1, h2_2, h2_3]
    refine hK2 _ _ ?_
    try clear hK2 K2
    refine SX.cond_k fun X4 Y4 hX4 hY4 => ?_
    simp (maxSteps := 1000000) only [go_sem, Φc, Φa, Φb, hP, h2_13, h2_0, h2_1, h2_2, h2_3, condVC]
    refine ⟨fun hc13 => hX4 ?_, fun hc13 => hY4 ?_⟩
    · clear hX4 hY4 X4 Y4
      refine SX.ret ?_
      simp only [andThen_normal, andThen_ret, andThen_exit, inBlk_normal, inBlk_ret, inBlk_exit, Nat.reduceEqDiff, if_true, if_false, reduceIte, retQ_ret]
      try simp only [go_sem, Φc, Φa, Φb, res0, res1, res2, res3, hP, h2_13, h2_0, h2_1, h2_2, h2_3]
      exact ⟨_, _, Less.refl _, rfl, rfl, by rw [putDot, if_pos hc13]⟩
    · clear hX4 hY4 X4 Y4
      refine SX.skip ?_
      simp only [andThen_normal, andThen_ret, andThen_exit, inBlk_normal, inBlk_ret, inBlk_exit, Nat.reduceEqDiff, if_true, if_false, reduceIte]
      refine hK1 _ _ ?_
      try clear hK1 K1
      refine SX.seq_k fun K5 hK5 => ?_
      have q1 : IntKind.i64.wrap ((j : Int) * 8) = ((j * 8 : Nat) : Int) := by rw [w64 (by omega)]; rfl
      have q2 : (i : Int).tdiv 8 = ((i / 8 : Nat) : Int) := rfl
      have q3 : (i : Int).tmod 8 = ((i % 8 : Nat) : Int) := rfl
      have q4 : IntKind.i64.wrap ((i / 8 : Nat) : Int) = ((i / 8 : Nat) : Int) := w64 (by omega)
      have q5 : IntKind.i64.wrap (((j * 8 : Nat) : Int) + ((i / 8 : Nat) : Int)) = ((j * 8 + i / 8 : Nat) : Int) := by rw [w64 (by omega)]; rfl
      refine SX.quiet (hP ▸ T.mixed) (by kernel_rfl) ?_
      simp (maxSteps := 1000000) only [go_sem, Φc, Φa, Φb, hP, h2_13, h2_0, h2_1, h2_2, h2_3, q1, q2, q3, q4, q5]
      refine ⟨by omega, ?_⟩
      refine hK5 _ _ ?_
      try clear hK5 K5
      refine SX.live [2, 3, 6, 7] (fun T3 hT3 => ?_)
      simp only [go_sem, Φc, Φa, Φb, forall_mem_cons', forall_mem_nil', hP, h2_13, h2_0, h2_1, h2_2, h2_3] at hT3
      obtain ⟨h3_2, h3_3, h3_6, h3_7⟩ := hT3
      clear h2_13 h2_0 h2_1 h2_2 h2_3 T2
      refine SX.seq_k fun K6 hK6 => ?_
      refine SX.region_x ?_
      refine RX.live [2, 3, 6, 7] (fun T4 hT4 => ?_)
      simp only [go_sem, Φc, Φa, Φb, forall_mem_cons', forall_mem_nil', hP, h3_2, h3_3, h3_6, h3_7] at hT4
      obtain ⟨h4_2, h4_3, h4_6, h4_7⟩ := hT4
      clear h3_2 h3_3 h3_6 h3_7 T3
      have hJ : j * 8 + i / 8 < st.2.length := by omega
      have hJc : Cell Γ (heapD g o r cap junk st L) ⟨r, j * 8 + i / 8, none⟩ (.int .u8 (st.2.getD (j * 8 + i / 8) 0)) := Cell.at 2 rfl (ints_app_at hJ)
      refine RX.join 10 (fun (ss : Unit) T L' => T 31 = .bool (st.1 || !decide (bits .and .u8 (st.2.getD (j * 8 + i / 8) 0) (bitOf i) = 0)) ∧ T 2 = T4 2 ∧ T 3 = T4 3 ∧ T 6 = T4 6 ∧ T 7 = T4 7 ∧ L' = heapD g o r cap junk st L ∧ (True)) (fun K7 hK7 => ?_) ?_
      · simp only [h4_2, h4_3, h4_6, h4_7] at hK7
        simp (maxSteps := 1000000) only [go_sem, Φc, Φa, Φb, hP, h4_2, h4_3, h4_6, h4_7]
        refine ⟨_, Cell.at 0 rfl rfl, ?_⟩
        try simp (maxSteps := 1000000) only [go_sem, Φc, Φa, Φb, hP, h4_2, h4_3, h4_6, h4_7]
        refine iteI (fun hg => ?_) (fun hg => ?_)
        · refine ⟨_, Cell.at 1 rfl rfl, ?_⟩
          try simp (maxSteps := 1000000) only [go_sem, Φc, Φa, Φb, hP, h4_2, h4_3, h4_6, h4_7]
          refine ⟨⟨by omega, by omega⟩, _, hJc, ?_⟩
          try simp (maxSteps := 1000000) only [go_sem, Φc, Φa, Φb, hP, h4_2, h4_3, h4_6, h4_7]
          refine hK7 () _ (heapD g o r cap junk st L) _ (by first | exact Less.refl _ | exact Less.drop _ _ | exact Less.drops (Less.drop _ _) | exact Less.drops (Less.drops (Less.drop _ _)) | exact Less.drops (Less.drops (Less.drops (Less.drop _ _))) | exact Less.drops (Less.drops (Less.drops (Less.drops (Less.drop _ _))))) ?_
          try dsimp only
          refine ⟨?_, ?_, ?_, ?_, ?_, ?_, ?_⟩
          · simp (maxSteps := 1000000) only [go_sem, Φc, Φa, Φb, hP, h4_2, h4_3, h4_6, h4_7]
            rw [hg, Bool.false_or]; rfl
          · simp (maxSteps := 1000000) only [go_sem, Φc, Φa, Φb, hP, h4_2, h4_3, h4_6, h4_7]
          · simp (maxSteps := 1000000) only [go_sem, Φc, Φa, Φb, hP, h4_2, h4_3, h4_6, h4_7]
          · simp (maxSteps := 1000000) only [go_sem, Φc, Φa, Φb, hP, h4_2, h4_3, h4_6, h4_7]
          · simp (maxSteps := 1000000) only [go_sem, Φc, Φa, Φb, hP, h4_2, h4_3, h4_6, h4_7]
          · rfl
          · trivial
        · rw [Bool.not_eq_false] at hg
          simp only [hg]
          refine hK7 () _ (heapD g o r cap junk st L) _ (by first | exact Less.refl _ | exact Less.drop _ _ | exact Less.drops (Less.drop _ _) | exact Less.drops (Less.drops (Less.drop _ _)) | exact Less.drops (Less.drops (Less.drops (Less.drop _ _))) | exact Less.drops (Less.drops (Less.drops (Less.drops (Less.drop _ _))))) ?_
          try dsimp only
          refine ⟨?_, ?_, ?_, ?_, ?_, ?_, ?_⟩
          · simp (maxSteps := 1000000) only [go_sem, Φc, Φa, Φb, hP, h4_2, h4_3, h4_6, h4_7]
            rw [hg, Bool.true_or]
          · simp (maxSteps := 1000000) only [go_sem, Φc, Φa, Φb, hP, h4_2, h4_3, h4_6, h4_7]
          · simp (maxSteps := 1000000) only [go_sem, Φc, Φa, Φb, hP, h4_2, h4_3, h4_6, h4_7]
          · simp (maxSteps := 1000000) only [go_sem, Φc, Φa, Φb, hP, h4_2, h4_3, h4_6, h4_7]
          · simp (maxSteps := 1000000) only [go_sem, Φc, Φa, Φb, hP, h4_2, h4_3, h4_6, h4_7]
          · rfl
          · trivial
      · intro ss T5 L5 hI
        simp only [h4_2, h4_3, h4_6, h4_7] at hI 
        obtain ⟨h5_31, h5_2, h5_3, h5_6, h5_7, hL5, hinv⟩ := hI
        replace hL5 := hL5.symm
        subst hL5
        clear h4_2 h4_3 h4_6 h4_7 T4
        refine RX.done ?_
        simp (maxSteps := 1000000) only [go_sem, Φc, Φa, Φb, hP, h5_31, h5_2, h5_3, h5_6, h5_7]
        refine ⟨0, _, _, _, rfl, by simp, .inr (Nat.zero_le _), ?_⟩
        try simp (maxSteps := 1000000) only [go_sem, Φc, Φa, Φb, hP, h5_31, h5_2, h5_3, h5_6, h5_7]
        refine hK6 _ _ ?_
        try clear hK6 K6
        refine SX.region ?_
        simp (maxSteps := 1000000) only [go_sem, Φc, Φa, Φb, hP, h5_31, h5_2, h5_3, h5_6, h5_7]
        refine ⟨_, Cell.at 1 rfl rfl, ?_⟩
        try simp (maxSteps := 1000000) only [go_sem, Φc, Φa, Φb, hP, h5_31, h5_2, h5_3, h5_6, h5_7]
        refine ⟨⟨by omega, by omega⟩, _, Cell.at 2 rfl (ints_app_at hJ), ?_⟩
        try simp (maxSteps := 1000000) only [go_sem, Φc, Φa, Φb, hP, h5_31, h5_2, h5_3, h5_6, h5_7]
        refine ⟨⟨by omega, by omega⟩, 2, _, _, _, rfl, by simp [ints_length]; omega, .inr (Nat.zero_le _), ?_⟩
        try simp (maxSteps := 1000000) only [go_sem, Φc, Φa, Φb, hP, h5_31, h5_2, h5_3, h5_6, h5_7]
        rw [ints_app_set hJ]
        simp only [andThen_normal, andThen_ret, andThen_exit, inBlk_normal, inBlk_ret, inBlk_exit, Nat.reduceEqDiff, if_true, if_false, reduceIte, retQ_normal]
        try simp only [go_sem, Φc, Φa, Φb, res0, res1, res2, res3, hP, h5_31, h5_2, h5_3, h5_6, h5_7]
        exact ⟨_, _, Less.refl _, rfl, rfl, by rw [putDot, if_neg hc13]; rfl⟩

def eachI (b : Int) (x y : Nat) (st : Bool × List Int) : Nat → Bool × List Int
  | 0 => st
  | i + 1 => if dotB b i then putDot (eachI b x y st i) (x + i) y else eachI b x y st i
def eachK (rows : List Int) (x y : Nat) (st : Bool × List Int) : Nat → Bool × List Int
  | 0 => st
  | k + 1 => eachI (rows.getD k 0) x (y + k) (eachK rows x y st k) 8
theorem eachI_length (b : Int) (x y : Nat) (st : Bool × List Int) : ∀ i, (eachI b x y st i).2.length = st.2.length
  | 0 => rfl
  | i + 1 => by
    rw [eachI]
    split
    · rw [putDot_length, eachI_length b x y st i]
    · exact eachI_length b x y st i
theorem eachK_length (rows : List Int) (x y : Nat) (st : Bool × List Int) : ∀ k, (eachK rows x y st k).2.length = st.2.length
  | 0 => rfl
  | k + 1 => by rw [eachK, eachI_length, eachK_length rows x y st k]
set_option maxHeartbeats 1000000 in
set_option maxRecDepth 100000 in
theorem each_spec {Γ : Ctx} (hP : Γ.P = Try.prog) {L : Hp} {x y g o r cap : Nat} {junk : List Value} {st : Bool × List Int} {rows : List Int} {vr : Value} (hx : x < 64) (hy : y < 32) (hr : SlI .u8 (Cell Γ L) vr rows) (hrl : rows.length ≤ 15) (hlen : st.2.length = 256) (hcap : 256 ≤ cap) :
    SCall Γ 101 #[(.int .i64 (x : Int)), (.int .i64 (y : Int)), vr, (.func (.func 102) #[] #[.pointer (some ⟨g, 0, none⟩), .pointer (some ⟨o, 0, none⟩)])] (heapD g o r cap junk st L) (fun v L' => v = .tuple #[] ∧ L' = heapD g o r cap junk (eachK rows x y st rows.length) L) := by
  obtain ⟨A, ca, rfl, hca', hA⟩ := hr
  refine SCall.enter (n := 37) (res0) (hP ▸ Try.func101) rfl rfl (by simp) (res0_ok rfl) ?_
  refine SX.seq_k fun K1 hK1 => ?_
  refine SX.region ?_
  simp (maxSteps := 1000000) only [go_sem, Φc, Φa, Φb, hP]
  refine hK1 _ _ ?_
  try clear hK1 K1
  refine SX.block ?_
  refine SX.live [0, 1, 3, 11, 12, 13] (fun T1 hT1 => ?_)
  simp only [go_sem, Φc, Φa, Φb, forall_mem_cons', forall_mem_nil', hP] at hT1
  obtain ⟨h1_0, h1_1, h1_3, h1_11, h1_12, h1_13⟩ := hT1
  refine SX.loop_k (fun (ss : (Nat)) T L' => (fun (k : Nat) => T 13 = .int .i64 (k : Int) ∧ T 0 = T1 0 ∧ T 1 = T1 1 ∧ T 3 = T1 3 ∧ T 11 = T1 11 ∧ T 12 = T1 12 ∧ L' = heapD g o r cap junk (eachK rows x y st k) L ∧ (k ≤ rows.length)) (ss)) (fun (ss : (Nat)) => (fun (k : Nat) => rows.length - k) (ss)) 0 ?_ ?_
  · try dsimp only
    refine ⟨?_, ?_, ?_, ?_, ?_, ?_, ?_, ?_⟩
    · first | exact h1_13 | (rw [h1_13]; rfl) | (rw [h1_13]; simp; done)
    · rfl
    · rfl
    · rfl
    · rfl
    · rfl
    · rfl
    · exact Nat.zero_le _
  · intro k T2 L2 hI K2 hK2
    dsimp only at hI hK2
    simp only [h1_0, h1_1, h1_3, h1_11, h1_12] at hI hK2
    obtain ⟨h2_13, h2_0, h2_1, h2_3, h2_11, h2_12, hL2, hk⟩ := hI
    replace hL2 := hL2.symm
    subst hL2
    clear h1_0 h1_1 h1_3 h1_11 h1_12 h1_13 T1
    refine SX.seq_k fun K3 hK3 => ?_
    refine SX.region ?_
    simp (maxSteps := 1000000) only [go_sem, Φc, Φa, Φb, hP, h2_13, h2_0, h2_1, h2_3, h2_11, h2_12]
    refine hK3 _ _ ?_
    try clear hK3 K3
    refine SX.seq_k fun K4 hK4 => ?_
    refine SX.cond_k fun X5 Y5 hX5 hY5 => ?_
    simp (maxSteps := 1000000) only [go_sem, Φc, Φa, Φb, hP, h2_13, h2_0, h2_1, h2_3, h2_11, h2_12, condVC]
    refine ⟨fun hc14 => hX5 ?_, fun hc14 => hY5 ?_⟩
    · clear hX5 hY5 X5 Y5
      refine SX.skip ?_
      simp only [andThen_normal, andThen_ret, andThen_exit, inBlk_normal, inBlk_ret, inBlk_exit, Nat.reduceEqDiff, if_true, if_false, reduceIte]
      refine hK4 _ _ ?_
      try clear hK4 K4
      refine SX.seq_k fun K6 hK6 => ?_
      refine SX.block ?_
      refine SX.seq_k fun K7 hK7 => ?_
      have hx : rows[k]? = some (rows.getD k 0) := by simp [List.getD_eq_getElem?_getD, List.getElem?_eq_getElem (show k < rows.length by omega)]
      obtain ⟨a, ha, hca⟩ := hA k _ hx
      simp only [Nat.mul_one] at hca
      refine SX.region ?_
      simp (maxSteps := 1000000) only [go_sem, Φc, Φa, Φb, hP, h2_13, h2_0, h2_1, h2_3, h2_11, h2_12]
      refine ⟨⟨by omega, by omega⟩, a, ha, _, Cell.cons _ (Cell.cons _ (Cell.cons _ hca)), ?_⟩
      try simp (maxSteps := 1000000) only [go_sem, Φc, Φa, Φb, hP, h2_13, h2_0, h2_1, h2_3, h2_11, h2_12]
      refine hK7 _ _ ?_
      try clear hK7 K7
      refine SX.seq_k fun K8 hK8 => ?_
      refine SX.region ?_
      simp (maxSteps := 1000000) only [go_sem, Φc, Φa, Φb, hP, h2_13, h2_0, h2_1, h2_3, h2_11, h2_12]
      refine hK8 _ _ ?_
      try clear hK8 K8
      refine SX.block ?_
      refine SX.live [0, 1, 3, 8, 9, 11, 12, 13, 18] (fun T3 hT3 => ?_)
      simp only [go_sem, Φc, Φa, Φb, forall_mem_cons', forall_mem_nil', hP, h2_13, h2_0, h2_1, h2_3, h2_11, h2_12] at hT3
      obtain ⟨h3_0, h3_1, h3_3, h3_8, h3_9, h3_11, h3_12, h3_13, h3_18⟩ := hT3
      clear h2_13 h2_0 h2_1 h2_3 h2_11 h2_12 T2
      refine SX.loop_k (fun (ss : (Nat)) T L' => (fun (i : Nat) => T 18 = .int .i64 (i : Int) ∧ T 0 = T3 0 ∧ T 1 = T3 1 ∧ T 3 = T3 3 ∧ T 8 = T3 8 ∧ T 9 = T3 9 ∧ T 11 = T3 11 ∧ T 12 = T3 12 ∧ T 13 = T3 13 ∧ L' = heapD g o r cap junk (eachI (rows.getD k 0) x (y + k) (eachK rows x y st k) i) L ∧ (i ≤ 8)) (ss)) (fun (ss : (Nat)) => (fun (i : Nat) => 8 - i) (ss)) 0 ?_ ?_
      · try dsimp only
        refine ⟨?_, ?_, ?_, ?_, ?_, ?_, ?_, ?_, ?_, ?_, ?_⟩
        · first | exact h3_18 | (rw [h3_18]; rfl) | (rw [h3_18]; simp; done)
        · rfl
        · rfl
        · rfl
        · rfl
        · rfl
        · rfl
        · rfl
        · rfl
        · rfl
        · exact Nat.zero_le _
      · intro i T4 L4 hI K9 hK9
        dsimp only at hI hK9
        simp only [h3_0, h3_1, h3_3, h3_8, h3_9, h3_11, h3_12, h3_13] at hI hK9
        obtain ⟨h4_18, h4_0, h4_1, h4_3, h4_8, h4_9, h4_11, h4_12, h4_13, hL4, hi⟩ := hI
        replace hL4 := hL4.symm
        subst hL4
        clear h3_0 h3_1 h3_3 h3_8 h3_9 h3_11 h3_12 h3_13 h3_18 T3
        refine SX.seq_k fun K10 hK10 => ?_
        refine SX.region ?_
        simp (maxSteps := 1000000) only [go_sem, Φc, Φa, Φb, hP, h4_18, h4_0, h4_1, h4_3, h4_8, h4_9, h4_11, h4_12, h4_13]
        refine hK10 _ _ ?_
        try clear hK10 K10
        refine SX.seq_k fun K11 hK11 => ?_
        refine SX.cond_k fun X12 Y12 hX12 hY12 => ?_
        simp (maxSteps := 1000000) only [go_sem, Φc, Φa, Φb, hP, h4_18, h4_0, h4_1, h4_3, h4_8, h4_9, h4_11, h4_12, h4_13, condVC]
        refine ⟨fun hc19 => hX12 ?_, fun hc19 => hY12 ?_⟩
        · clear hX12 hY12 X12 Y12
          refine SX.skip ?_
          simp only [andThen_normal, andThen_ret, andThen_exit, inBlk_normal, inBlk_ret, inBlk_exit, Nat.reduceEqDiff, if_true, if_false, reduceIte]
          refine hK11 _ _ ?_
          try clear hK11 K11
          refine SX.live [0, 1, 3, 8, 9, 11, 12, 13, 18] (fun T5 hT5 => ?_)
          simp only [go_sem, Φc, Φa, Φb, forall_mem_cons', forall_mem_nil', hP, h4_18, h4_0, h4_1, h4_3, h4_8, h4_9, h4_11, h4_12, h4_13] at hT5
          obtain ⟨h5_0, h5_1, h5_3, h5_8, h5_9, h5_11, h5_12, h5_13, h5_18⟩ := hT5
          clear h4_18 h4_0 h4_1 h4_3 h4_8 h4_9 h4_11 h4_12 h4_13 T4
          refine SX.join (fun (ss : Unit) T L' => T 0 = T5 0 ∧ T 1 = T5 1 ∧ T 3 = T5 3 ∧ T 8 = T5 8 ∧ T 9 = T5 9 ∧ T 11 = T5 11 ∧ T 12 = T5 12 ∧ T 13 = T5 13 ∧ T 18 = T5 18 ∧ L' = heapD g o r cap junk (eachI (rows.getD k 0) x (y + k) (eachK rows x y st k) (i + 1)) L ∧ (True)) (fun K13 hK13 => ?_) ?_
          · simp only [h5_0, h5_1, h5_3, h5_8, h5_9, h5_11, h5_12, h5_13, h5_18] at hK13
            refine SX.block ?_
            refine SX.seq_k fun K14 hK14 => ?_
            refine SX.region ?_
            simp (maxSteps := 1000000) only [go_sem, Φc, Φa, Φb, hP, h5_0, h5_1, h5_3, h5_8, h5_9, h5_11, h5_12, h5_13, h5_18]
            refine hK14 _ _ ?_
            try clear hK14 K14
            refine SX.seq_k fun K15 hK15 => ?_
            have hw : IntKind.i64.wrap (7 - (i : Int)) = 7 - i := w64 (by omega)
            refine SX.region ?_
            simp (maxSteps := 1000000) only [go_sem, Φc, Φa, Φb, hP, h5_0, h5_1, h5_3, h5_8, h5_9, h5_11, h5_12, h5_13, h5_18, hw]
            refine ⟨by omega, ?_⟩
            refine hK15 _ _ ?_
            try clear hK15 K15
            refine SX.cond_k fun X16 Y16 hX16 hY16 => ?_
            simp (maxSteps := 1000000) only [go_sem, Φc, Φa, Φb, hP, h5_0, h5_1, h5_3, h5_8, h5_9, h5_11, h5_12, h5_13, h5_18, condVC]
            refine ⟨fun hc26 => hX16 ?_, fun hc26 => hY16 ?_⟩
            · clear hX16 hY16 X16 Y16
              have q1 : IntKind.i64.wrap ((x : Int) + (i : Int)) = ((x + i : Nat) : Int) := by rw [w64 (by omega)]; rfl
              have q2 : IntKind.i64.wrap ((y : Int) + (k : Int)) = ((y + k : Nat) : Int) := by rw [w64 (by omega)]; rfl
              have hd : dotB (rows.getD k 0) i = true := by unfold dotB; exact decide_eq_true hc26
              refine SX.region ?_
              simp (maxSteps := 1000000) only [go_sem, Φc, Φa, Φb, hP, h5_0, h5_1, h5_3, h5_8, h5_9, h5_11, h5_12, h5_13, h5_18, q1, q2]
              refine SCall.mono (putDot_spec hP (by omega) (by omega) (by rw [eachI_length, eachK_length]; exact hlen) hcap) ?_
              rintro v_ L_ ⟨hv_, hL_⟩
              rw [hv_, hL_]
              clear hv_ hL_ v_ L_
              refine hK13 () _ (_) _ (by first | exact Less.refl _ | exact Less.drop _ _ | exact Less.drops (Less.drop _ _) | exact Less.drops (Less.drops (Less.drop _ _)) | exact Less.drops (Less.drops (Less.drops (Less.drop _ _))) | exact Less.drops (Less.drops (Less.drops (Less.drops (Less.drop _ _))))) ?_
              try dsimp only
              refine ⟨?_, ?_, ?_, ?_, ?_, ?_, ?_, ?_, ?_, ?_, ?_⟩
              · simp (maxSteps := 1000000) only [go_sem, Φc, Φa, Φb, hP, h5_0, h5_1, h5_3, h5_8, h5_9, h5_11, h5_12, h5_13, h5_18]
              · simp (maxSteps := 1000000) only [go_sem, Φc, Φa, Φb, hP, h5_0, h5_1, h5_3, h5_8, h5_9, h5_11, h5_12, h5_13, h5_18]
              · simp (maxSteps := 1000000) only [go_sem, Φc, Φa, Φb, hP, h5_0, h5_1, h5_3, h5_8, h5_9, h5_11, h5_12, h5_13, h5_18]
              · simp (maxSteps := 1000000) only [go_sem, Φc, Φa, Φb, hP, h5_0, h5_1, h5_3, h5_8, h5_9, h5_11, h5_12, h5_13, h5_18]
              · simp (maxSteps := 1000000) only [go_sem, Φc, Φa, Φb, hP, h5_0, h5_1, h5_3, h5_8, h5_9, h5_11, h5_12, h5_13, h5_18]
              · simp (maxSteps := 1000000) only [go_sem, Φc, Φa, Φb, hP, h5_0, h5_1, h5_3, h5_8, h5_9, h5_11, h5_12, h5_13, h5_18]
              · simp (maxSteps := 1000000) only [go_sem, Φc, Φa, Φb, hP, h5_0, h5_1, h5_3, h5_8, h5_9, h5_11, h5_12, h5_13, h5_18]
              · simp (maxSteps := 1000000) only [go_sem, Φc, Φa, Φb, hP, h5_0, h5_1, h5_3, h5_8, h5_9, h5_11, h5_12, h5_13, h5_18]
              · simp (maxSteps := 1000000) only [go_sem, Φc, Φa, Φb, hP, h5_0, h5_1, h5_3, h5_8, h5_9, h5_11, h5_12, h5_13, h5_18]
              · rw [eachI, if_pos hd]
              · trivial
            · clear hX16 hY16 X16 Y16
              refine SX.skip ?_
              simp only [andThen_normal, andThen_ret, andThen_exit, inBlk_normal, inBlk_ret, inBlk_exit, Nat.reduceEqDiff, if_true, if_false, reduceIte]
              refine hK13 () _ (_) _ (by first | exact Less.refl _ | exact Less.drop _ _ | exact Less.drops (Less.drop _ _) | exact Less.drops (Less.drops (Less.drop _ _)) | exact Less.drops (Less.drops (Less.drops (Less.drop _ _))) | exact Less.drops (Less.drops (Less.drops (Less.drops (Less.drop _ _))))) ?_
              try dsimp only
              refine ⟨?_, ?_, ?_, ?_, ?_, ?_, ?_, ?_, ?_, ?_, ?_⟩
              · simp (maxSteps := 1000000) only [go_sem, Φc, Φa, Φb, hP, h5_0, h5_1, h5_3, h5_8, h5_9, h5_11, h5_12, h5_13, h5_18]
              · simp (maxSteps := 1000000) only [go_sem, Φc, Φa, Φb, hP, h5_0, h5_1, h5_3, h5_8, h5_9, h5_11, h5_12, h5_13, h5_18]
              · simp (maxSteps := 1000000) only [go_sem, Φc, Φa, Φb, hP, h5_0, h5_1, h5_3, h5_8, h5_9, h5_11, h5_12, h5_13, h5_18]
              · simp (maxSteps := 1000000) only [go_sem, Φc, Φa, Φb, hP, h5_0, h5_1, h5_3, h5_8, h5_9, h5_11, h5_12, h5_13, h5_18]
              · simp (maxSteps := 1000000) only [go_sem, Φc, Φa, Φb, hP, h5_0, h5_1, h5_3, h5_8, h5_9, h5_11, h5_12, h5_13, h5_18]
              · simp (maxSteps := 1000000) only [go_sem, Φc, Φa, Φb, hP, h5_0, h5_1, h5_3, h5_8, h5_9, h5_11, h5_12, h5_13, h5_18]
              · simp (maxSteps := 1000000) only [go_sem, Φc, Φa, Φb, hP, h5_0, h5_1, h5_3, h5_8, h5_9, h5_11, h5_12, h5_13, h5_18]
              · simp (maxSteps := 1000000) only [go_sem, Φc, Φa, Φb, hP, h5_0, h5_1, h5_3, h5_8, h5_9, h5_11, h5_12, h5_13, h5_18]
              · simp (maxSteps := 1000000) only [go_sem, Φc, Φa, Φb, hP, h5_0, h5_1, h5_3, h5_8, h5_9, h5_11, h5_12, h5_13, h5_18]
              · rw [eachI, if_neg (by unfold dotB; simpa using hc26)]
              · trivial
          · intro ss T6 L6 hI
            simp only [h5_0, h5_1, h5_3, h5_8, h5_9, h5_11, h5_12, h5_13, h5_18] at hI 
            obtain ⟨h6_0, h6_1, h6_3, h6_8, h6_9, h6_11, h6_12, h6_13, h6_18, hL6, hinv⟩ := hI
            replace hL6 := hL6.symm
            subst hL6
            clear h5_0 h5_1 h5_3 h5_8 h5_9 h5_11 h5_12 h5_13 h5_18 T5
            refine SX.region ?_
            simp (maxSteps := 1000000) only [go_sem, Φc, Φa, Φb, hP, h6_0, h6_1, h6_3, h6_8, h6_9, h6_11, h6_12, h6_13, h6_18]
            refine hK9 (i + 1) _ (heapD g o r cap junk (eachI (rows.getD k 0) x (y + k) (eachK rows x y st k) ((i + 1))) L) _ (by first | exact Less.refl _ | exact Less.drop _ _ | exact Less.drops (Less.drop _ _) | exact Less.drops (Less.drops (Less.drop _ _)) | exact Less.drops (Less.drops (Less.drops (Less.drop _ _))) | exact Less.drops (Less.drops (Less.drops (Less.drops (Less.drop _ _))))) ?_ ?_
            · try dsimp only
              refine ⟨?_, ?_, ?_, ?_, ?_, ?_, ?_, ?_, ?_, ?_, ?_⟩
              · simp (maxSteps := 1000000) only [go_sem, Φc, Φa, Φb, hP, h6_0, h6_1, h6_3, h6_8, h6_9, h6_11, h6_12, h6_13, h6_18]
                rw [inc64 (by omega)]
              · simp (maxSteps := 1000000) only [go_sem, Φc, Φa, Φb, hP, h6_0, h6_1, h6_3, h6_8, h6_9, h6_11, h6_12, h6_13, h6_18]
              · simp (maxSteps := 1000000) only [go_sem, Φc, Φa, Φb, hP, h6_0, h6_1, h6_3, h6_8, h6_9, h6_11, h6_12, h6_13, h6_18]
              · simp (maxSteps := 1000000) only [go_sem, Φc, Φa, Φb, hP, h6_0, h6_1, h6_3, h6_8, h6_9, h6_11, h6_12, h6_13, h6_18]
              · simp (maxSteps := 1000000) only [go_sem, Φc, Φa, Φb, hP, h6_0, h6_1, h6_3, h6_8, h6_9, h6_11, h6_12, h6_13, h6_18]
              · simp (maxSteps := 1000000) only [go_sem, Φc, Φa, Φb, hP, h6_0, h6_1, h6_3, h6_8, h6_9, h6_11, h6_12, h6_13, h6_18]
              · simp (maxSteps := 1000000) only [go_sem, Φc, Φa, Φb, hP, h6_0, h6_1, h6_3, h6_8, h6_9, h6_11, h6_12, h6_13, h6_18]
              · simp (maxSteps := 1000000) only [go_sem, Φc, Φa, Φb, hP, h6_0, h6_1, h6_3, h6_8, h6_9, h6_11, h6_12, h6_13, h6_18]
              · simp (maxSteps := 1000000) only [go_sem, Φc, Φa, Φb, hP, h6_0, h6_1, h6_3, h6_8, h6_9, h6_11, h6_12, h6_13, h6_18]
              · rfl
              · omega
            · (try dsimp only); omega
        · clear hX12 hY12 X12 Y12
          refine SX.exit ?_
          simp only [andThen_normal, andThen_ret, andThen_exit, inBlk_normal, inBlk_ret, inBlk_exit, Nat.reduceEqDiff, if_true, if_false, reduceIte]
          refine hK6 _ _ ?_
          try clear hK6 K6
          obtain rfl : i = 8 := by omega
          refine SX.region ?_
          simp (maxSteps := 1000000) only [go_sem, Φc, Φa, Φb, hP, h4_18, h4_0, h4_1, h4_3, h4_8, h4_9, h4_11, h4_12, h4_13]
          refine hK2 (k + 1) _ (heapD g o r cap junk (eachK rows x y st ((k + 1))) L) _ (by first | exact Less.refl _ | exact Less.drop _ _ | exact Less.drops (Less.drop _ _) | exact Less.drops (Less.drops (Less.drop _ _)) | exact Less.drops (Less.drops (Less.drops (Less.drop _ _))) | exact Less.drops (Less.drops (Less.drops (Less.drops (Less.drop _ _))))) ?_ ?_
          · try dsimp only
            refine ⟨?_, ?_, ?_, ?_, ?_, ?_, ?_, ?_⟩
            · simp (maxSteps := 1000000) only [go_sem, Φc, Φa, Φb, hP, h4_18, h4_0, h4_1, h4_3, h4_8, h4_9, h4_11, h4_12, h4_13]
              rw [inc64 (by omega)]
            · simp (maxSteps := 1000000) only [go_sem, Φc, Φa, Φb, hP, h4_18, h4_0, h4_1, h4_3, h4_8, h4_9, h4_11, h4_12, h4_13]
            · simp (maxSteps := 1000000) only [go_sem, Φc, Φa, Φb, hP, h4_18, h4_0, h4_1, h4_3, h4_8, h4_9, h4_11, h4_12, h4_13]
            · simp (maxSteps := 1000000) only [go_sem, Φc, Φa, Φb, hP, h4_18, h4_0, h4_1, h4_3, h4_8, h4_9, h4_11, h4_12, h4_13]
            · simp (maxSteps := 1000000) only [go_sem, Φc, Φa, Φb, hP, h4_18, h4_0, h4_1, h4_3, h4_8, h4_9, h4_11, h4_12, h4_13]
            · simp (maxSteps := 1000000) only [go_sem, Φc, Φa, Φb, hP, h4_18, h4_0, h4_1, h4_3, h4_8, h4_9, h4_11, h4_12, h4_13]
            · rfl
            · omega
          · (try dsimp only); omega
    · clear hX5 hY5 X5 Y5
      refine SX.exit ?_
      simp only [andThen_normal, andThen_ret, andThen_exit, inBlk_normal, inBlk_ret, inBlk_exit, Nat.reduceEqDiff, if_true, if_false, reduceIte]
      simp only [andThen_normal, andThen_ret, andThen_exit, inBlk_normal, inBlk_ret, inBlk_exit, Nat.reduceEqDiff, if_true, if_false, reduceIte, retQ_normal]
      try simp only [go_sem, Φc, Φa, Φb, res0, res1, res2, res3, hP, h2_13, h2_0, h2_1, h2_3, h2_11, h2_12]
      obtain rfl : k = rows.length := by omega
      exact ⟨_, _, Less.refl _, rfl, rfl, rfl⟩

def drawn (page : List Int) (x y : Nat) (rows : List Int) : Bool × List Int := eachK rows (x % 64) (y % 32) (false, page) rows.length
def drawR (page : List Int) (x y : Nat) (rows : List Int) (L : Hp) (v : Value) (L' : Hp) : Prop :=
  if page.length = 256 ∧ rows.length ≤ 15 then ∃ r cap junk, (256 ≤ cap ∧ cap ≤ 9223372036854775807) ∧ 256 + junk.length = cap ∧ v = .tuple #[.slice (some ⟨r, 0, none⟩) 256 cap, .bool (drawn page x y rows).1, .int .i64 0] ∧ L' = some (r, .cells (ints .u8 (drawn page x y rows).2 ++ junk).toArray 5 (0, 0)) :: L
  else v = .tuple #[.slice none 0 0, .bool false, .int .i64 1] ∧ L' = L
set_option maxHeartbeats 1000000 in
set_option maxRecDepth 100000 in
theorem Draw_spec {Γ : Ctx} (hP : Γ.P = Try.prog) {L : Hp} {x y : Nat} {page rows : List Int} {va vr : Value} (hx : x < 256) (hy : y < 256) (ha : SlI .u8 (Cell Γ L) va page) (hb : SlI .u8 (Cell Γ L) vr rows) (hrl : rows.length ≤ 9223372036854775807) :
    SCall Γ 86 #[va, (.int .u8 (x : Int)), (.int .u8 (y : Int)), vr] L (drawR page x y rows L) := by
  have ha0 := ha
  have hb0 := hb
  obtain ⟨A, ca, rfl, hca', hA⟩ := ha
  obtain ⟨B, cb, rfl, hcb', hB⟩ := hb
  refine SCall.enter (n := 34) (res3 8 9 10) (hP ▸ Try.func86) rfl rfl (by simp) (res3_ok rfl) ?_
  refine SX.seq_k fun K1 hK1 => ?_
  refine SX.region ?_
  simp (maxSteps := 1000000) only [go_sem, Φc, Φa, Φb, hP]
  refine hK1 _ _ ?_
  try clear hK1 K1
  refine SX.seq_k fun K2 hK2 => ?_
  refine SX.seq_k fun K3 hK3 => ?_
  refine SX.region_x ?_
  refine RX.live [0, 1, 2, 3] (fun T1 hT1 => ?_)
  simp only [go_sem, Φc, Φa, Φb, forall_mem_cons', forall_mem_nil', hP] at hT1
  obtain ⟨h1_0, h1_1, h1_2, h1_3⟩ := hT1
  refine RX.join 8 (fun (ss : Unit) T L' => T 20 = .bool (decide (¬ page.length = 256 ∨ 15 < rows.length)) ∧ T 0 = T1 0 ∧ T 1 = T1 1 ∧ T 2 = T1 2 ∧ T 3 = T1 3 ∧ L' = L ∧ (True)) (fun K4 hK4 => ?_) ?_
  · simp only [h1_0, h1_1, h1_2, h1_3] at hK4
    simp (maxSteps := 1000000) only [go_sem, Φc, Φa, Φb, hP, h1_0, h1_1, h1_2, h1_3]
    refine iteI (fun hg => ?_) (fun hg => ?_)
    · skip
      refine hK4 () _ (L) _ (by first | exact Less.refl _ | exact Less.drop _ _ | exact Less.drops (Less.drop _ _) | exact Less.drops (Less.drops (Less.drop _ _)) | exact Less.drops (Less.drops (Less.drops (Less.drop _ _))) | exact Less.drops (Less.drops (Less.drops (Less.drops (Less.drop _ _))))) ?_
      try dsimp only
      refine ⟨?_, ?_, ?_, ?_, ?_, ?_, ?_⟩
      · simp (maxSteps := 1000000) only [go_sem, Φc, Φa, Φb, hP, h1_0, h1_1, h1_2, h1_3]
        first | exact congrArg _ (decide_eq_decide.2 (by omega)) | exact congrArg _ (decide_eq_true (by omega)).symm | exact congrArg _ (decide_eq_false (by omega)).symm
      · simp (maxSteps := 1000000) only [go_sem, Φc, Φa, Φb, hP, h1_0, h1_1, h1_2, h1_3]
      · simp (maxSteps := 1000000) only [go_sem, Φc, Φa, Φb, hP, h1_0, h1_1, h1_2, h1_3]
      · simp (maxSteps := 1000000) only [go_sem, Φc, Φa, Φb, hP, h1_0, h1_1, h1_2, h1_3]
      · simp (maxSteps := 1000000) only [go_sem, Φc, Φa, Φb, hP, h1_0, h1_1, h1_2, h1_3]
      · rfl
      · trivial
    · skip
      refine hK4 () _ (L) _ (by first | exact Less.refl _ | exact Less.drop _ _ | exact Less.drops (Less.drop _ _) | exact Less.drops (Less.drops (Less.drop _ _)) | exact Less.drops (Less.drops (Less.drops (Less.drop _ _))) | exact Less.drops (Less.drops (Less.drops (Less.drops (Less.drop _ _))))) ?_
      try dsimp only
      refine ⟨?_, ?_, ?_, ?_, ?_, ?_, ?_⟩
      · simp (maxSteps := 1000000) only [go_sem, Φc, Φa, Φb, hP, h1_0, h1_1, h1_2, h1_3]
        first | exact congrArg _ (decide_eq_decide.2 (by omega)) | exact congrArg _ (decide_eq_true (by omega)).symm | exact congrArg _ (decide_eq_false (by omega)).symm
      · simp (maxSteps := 1000000) only [go_sem, Φc, Φa, Φb, hP, h1_0, h1_1, h1_2, h1_3]
      · simp (maxSteps := 1000000) only [go_sem, Φc, Φa, Φb, hP, h1_0, h1_1, h1_2, h1_3]
      · simp (maxSteps := 1000000) only [go_sem, Φc, Φa, Φb, hP, h1_0, h1_1, h1_2, h1_3]
      · simp (maxSteps := 1000000) only [go_sem, Φc, Φa, Φb, hP, h1_0, h1_1, h1_2, h1_3]
      · rfl
      · trivial
  · intro ss T2 L2 hI
    simp only [h1_0, h1_1, h1_2, h1_3] at hI 
    obtain ⟨h2_20, h2_0, h2_1, h2_2, h2_3, hL2, hinv⟩ := hI
    replace hL2 := hL2.symm
    subst hL2
    clear h1_0 h1_1 h1_2 h1_3 T1
    refine RX.done ?_
    simp (maxSteps := 1000000) only [go_sem, Φc, Φa, Φb, hP, h2_20, h2_0, h2_1, h2_2, h2_3]
    refine hK3 _ _ ?_
    try clear hK3 K3
    refine SX.cond_k fun X5 Y5 hX5 hY5 => ?_
    simp (maxSteps := 1000000) only [go_sem, Φc, Φa, Φb, hP, h2_20, h2_0, h2_1, h2_2, h2_3, condVC]
    refine ⟨fun hc20 => hX5 ?_, fun hc20 => hY5 ?_⟩
    · clear hX5 hY5 X5 Y5
      refine SX.seq_k fun K6 hK6 => ?_
      refine SX.region ?_
      simp (maxSteps := 1000000) only [go_sem, Φc, Φa, Φb, hP, h2_20, h2_0, h2_1, h2_2, h2_3]
      refine hK6 _ _ ?_
      try clear hK6 K6
      refine SX.ret ?_
      simp only [andThen_normal, andThen_ret, andThen_exit, inBlk_normal, inBlk_ret, inBlk_exit, Nat.reduceEqDiff, if_true, if_false, reduceIte, retQ_ret]
      try simp only [go_sem, Φc, Φa, Φb, res0, res1, res2, res3, hP, h2_20, h2_0, h2_1, h2_2, h2_3]
      exact ⟨_, L, (by first | exact Less.refl _ | exact Less.drop _ _ | exact Less.drops (Less.drop _ _) | exact Less.drops (Less.drops (Less.drop _ _)) | exact Less.drops (Less.drops (Less.drops (Less.drop _ _))) | exact Less.drops (Less.drops (Less.drops (Less.drops (Less.drop _ _))))), rfl, by rw [drawR, if_neg (by omega)]; exact ⟨rfl, rfl⟩⟩
    · clear hX5 hY5 X5 Y5
      refine SX.skip ?_
      simp only [andThen_normal, andThen_ret, andThen_exit, inBlk_normal, inBlk_ret, inBlk_exit, Nat.reduceEqDiff, if_true, if_false, reduceIte]
      refine hK2 _ _ ?_
      try clear hK2 K2
      refine SX.seq_k fun K7 hK7 => ?_
      refine SX.less (Less.none _) ?_
      have hpl : page.length = 256 := by omega
      refine SX.region ?_
      simp (maxSteps := 1000000) only [go_sem, Φc, Φa, Φb, hP, h2_20, h2_0, h2_1, h2_2, h2_3]
      refine YAppend.ints (i := 0) (hP ▸ T.elS_23) (hP ▸ T.zr_5) rfl rfl (RowI.nil .u8 5) (SlI.cons none ha0) (by simp; omega) (by decide) (fun v_ s_ hr_ => ?_)
      rw [List.nil_append] at hr_
      obtain ⟨r, cap, junk, rfl, rfl, hcap, hjl0⟩ := RowI.form2 hr_ (by omega)
      rw [hpl]
      try simp (maxSteps := 1000000) only [go_sem, Φc, Φa, Φb, hP, h2_20, h2_0, h2_1, h2_2, h2_3]
      intro o
      refine ⟨0, _, _, _, rfl, by decide, .inr (Nat.zero_le _), ?_⟩
      try simp (maxSteps := 1000000) only [go_sem, Φc, Φa, Φb, hP, h2_20, h2_0, h2_1, h2_2, h2_3]
      refine hK7 _ _ ?_
      try clear hK7 K7
      refine SX.seq_k fun K8 hK8 => ?_
      refine SX.region ?_
      simp (maxSteps := 1000000) only [go_sem, Φc, Φa, Φb, hP, h2_20, h2_0, h2_1, h2_2, h2_3]
      intro g
      refine ⟨0, _, _, _, rfl, by decide, .inr (Nat.zero_le _), ?_⟩
      try simp (maxSteps := 1000000) only [go_sem, Φc, Φa, Φb, hP, h2_20, h2_0, h2_1, h2_2, h2_3]
      refine hK8 _ _ ?_
      try clear hK8 K8
      refine SX.seq_k fun K9 hK9 => ?_
      have q1 : IntKind.i64.wrap (x : Int) = (x : Int) := w64 (by omega)
      have q2 : IntKind.i64.wrap (y : Int) = (y : Int) := w64 (by omega)
      have q3 : (x : Int).tmod 64 = ((x % 64 : Nat) : Int) := rfl
      have q4 : (y : Int).tmod 32 = ((y % 32 : Nat) : Int) := rfl
      refine SX.region ?_
      simp (maxSteps := 1000000) only [go_sem, Φc, Φa, Φb, hP, h2_20, h2_0, h2_1, h2_2, h2_3, q1, q2, q3, q4]
      refine SCall.mono (each_spec (g := g) (o := o) (r := r) (cap := cap) (junk := junk) (x := x % 64) (y := y % 32) (st := (false, page)) hP (by omega) (by omega) hb0 (by omega) hpl (by omega)) ?_
      rintro v_ L_ ⟨hv_, hL_⟩
      rw [hv_, hL_]
      clear hv_ hL_ v_ L_
      refine hK9 _ _ ?_
      try clear hK9 K9
      refine SX.live [11, 12] (fun T3 hT3 => ?_)
      simp only [go_sem, Φc, Φa, Φb, forall_mem_cons', forall_mem_nil', hP, h2_20, h2_0, h2_1, h2_2, h2_3] at hT3
      obtain ⟨h3_11, h3_12⟩ := hT3
      clear h2_20 h2_0 h2_1 h2_2 h2_3 T2
      refine SX.seq_k fun K10 hK10 => ?_
      refine SX.quiet (hP ▸ T.mixed) (by kernel_rfl) ?_
      simp (maxSteps := 1000000) only [go_sem, Φc, Φa, Φb, hP, h3_11, h3_12]
      refine ⟨_, Cell.at 1 rfl rfl, _, Cell.at 0 rfl rfl, ?_⟩
      refine hK10 _ _ ?_
      try clear hK10 K10
      refine SX.ret ?_
      simp only [andThen_normal, andThen_ret, andThen_exit, inBlk_normal, inBlk_ret, inBlk_exit, Nat.reduceEqDiff, if_true, if_false, reduceIte, retQ_ret]
      try simp only [go_sem, Φc, Φa, Φb, res0, res1, res2, res3, hP, h3_11, h3_12]
      refine ⟨_, some (r, .cells (ints .u8 (drawn page x y rows).2 ++ junk).toArray 5 (0, 0)) :: L, Less.drops (Less.drop _ _), rfl, ?_⟩
      rw [drawR, if_pos (by omega)]
      exact ⟨r, cap, junk, by omega, by omega, rfl, rfl⟩

end Go.Proofs.Ytgioegdjeodpiaa
set_option linter.unusedVariables false
set_option linter.unusedSimpArgs false
namespace Go.Proofs.Ytgioegdjeodpiaa
open Go.RowKit Go.SX

def spliceL (l : List Int) (i : Nat) (bs : List Int) : List Int := l.take i ++ bs ++ l.drop (i + bs.length)
theorem spliceL_length {l bs : List Int} {i : Nat} (h : i + bs.length ≤ l.length) : (spliceL l i bs).length = l.length := by simp [spliceL]; omega
theorem spliceL_byte {l bs : List Int} {i : Nat} (hl : Byte l) (hb : Byte bs) : Byte (spliceL l i bs) := fun x hx => by
  rcases List.mem_append.1 hx with h | h
  · rcases List.mem_append.1 h with h | h
    · exact hl x (List.mem_of_mem_take h)
    · exact hb x h
  · exact hl x (List.mem_of_mem_drop h)
theorem setN_splice {k : IntKind} {l bs : List Int} {i : Nat} {junk : List Value} (h : i + bs.length ≤ l.length) : setN (ints k l ++ junk) i (ints k bs) = ints k (spliceL l i bs) ++ junk := by
  have e : ints k l ++ junk = ints k (l.take i) ++ (ints k (l.drop i) ++ junk) := by rw [← List.append_assoc, ← ints_app, List.take_append_drop]
  have hl : (ints k (l.take i)).length = i := by rw [ints_length, List.length_take]; omega
  have key := setN_app (ints k bs) (ints k (l.take i)) (ints k (l.drop i) ++ junk) (by simp [ints_length]; omega)
  rw [hl] at key
  rw [e, key, ints_length, List.drop_append_of_le_length (by simp [ints_length]; omega), spliceL, ints_app, ints_app, List.append_assoc, List.append_assoc, List.append_assoc]
  congr 3
  simp [ints]
def layG (g : GM) (bs : List Int) : Option GM := if 512 ≤ g.I ∧ g.I + (bs.length : Int) ≤ 3744 then some { g with mm := spliceL g.mm (g.I - 512).toNat bs } else none
theorem cutA_lt {b m l : Nat} (h : l < m) : cutA (some ⟨b, 0, none⟩) 1 m l = some ⟨b, l, none⟩ := by
  unfold cutA
  rw [if_neg (by omega)]
  simp [Addr.add_lit]
def layR (gp : Nat) (sv pv mv : Value) (o : Ord) (f : Fnt) (fv : Value) (d : Feed) (q1 q2 : Slot) (H L : Hp) (r : Option GM) (v : Value) (L' : Hp) : Prop := match r with
  | some g' => v = .bool true ∧ ∃ q3', L' = PS gp g' sv pv mv o f fv d :: q1 :: q2 :: q3' :: L ∧ RowI .u8 5 mv g'.mm q3'
  | none => v = .bool false ∧ L' = H
set_option maxHeartbeats 1000000 in
set_option maxRecDepth 100000 in
theorem lay_spec {Γ : Ctx} (hP : Γ.P = Try.prog) {L : Hp} {gp : Nat} {g : GM} {sv pv mv : Value} {o : Ord} {f : Fnt} {fv : Value} {d : Feed} {q1 q2 q3 : Slot} {bs : List Int} {vb : Value} (hg : OkG g) (hb : SlI .u8 (Cell Γ (PS gp g sv pv mv o f fv d :: q1 :: q2 :: q3 :: L)) vb bs) (hbl : 1 ≤ bs.length) (hbm : bs.length ≤ 16) (hm : RowI .u8 5 mv g.mm q3) (hml : g.mm.length = 3232) :
    SCall Γ 88 #[(.pointer (some ⟨gp, 0, none⟩)), vb] (PS gp g sv pv mv o f fv d :: q1 :: q2 :: q3 :: L) (layR gp sv pv mv o f fv d q1 q2 (PS gp g sv pv mv o f fv d :: q1 :: q2 :: q3 :: L) L (layG g bs)) := by
  obtain ⟨A, c, rfl, hc, hA⟩ := id hb
  have hIb := hg.I
  refine SCall.enter (n := 37) (res1 4) (hP ▸ Try.func88) rfl rfl (by simp) (res1_ok rfl) ?_
  refine SX.seq_k fun K1 hK1 => ?_
  refine SX.region_d [some 4] rfl (fun ops hops => ?_)
  unfold Dsts at hops
  simp (maxSteps := 1000000) (dsimp := false) (disch := omega) only [go_sem, ia_someH, hP, hops]
  refine hK1 _ _ ?_
  try clear hK1 K1
  refine SX.seq_k fun K2 hK2 => ?_
  refine SX.seq_k fun K3 hK3 => ?_
  refine SX.region_d [some 6, some 7, some 8] rfl (fun ops hops => ?_)
  unfold Dsts at hops
  simp (maxSteps := 1000000) (dsimp := false) (disch := omega) only [go_sem, ia_someH, hP, hops]
  repeat' ((first | (refine SCall.mono (inside_spec hP) ?_; rintro v_ L_ ⟨hv_, hL_⟩; rw [hv_, hL_]; clear hv_ hL_ v_ L_) | refine ⟨_, inside_spec hP, ?_⟩ | refine ⟨_, fun L0 hl0 => inside_spec hP, ?_⟩ | refine And.intro (by omega) ?_ | fail); try (with_reducible refine stI ?_); try simp (maxSteps := 1000000) (dsimp := false) (disch := omega) only [go_sem, ia_someH, hP, hops])
  refine hK3 _ _ ?_
  try clear hK3 K3
  refine SX.block ?_
  refine SX.live [0, 1, 7, 8] (fun T1 hT1 => ?_)
  simp only [forall_mem_cons', forall_mem_nil', go_sem, ia_someH, hP] at hT1
  obtain ⟨h1_0, h1_1, h1_7, h1_8⟩ := hT1
  refine SX.loop_k (fun (ss : (Nat)) T L' => (fun (k : Nat) => T 8 = .int .i64 (k : Int) ∧ T 0 = T1 0 ∧ T 1 = T1 1 ∧ T 7 = T1 7 ∧ L' = PS gp g sv pv mv o f fv d :: q1 :: q2 :: q3 :: L ∧ (k ≤ bs.length ∧ ∀ j : Nat, j < k → 512 ≤ g.I + (j : Int) ∧ g.I + (j : Int) < 3744)) (ss)) (fun (ss : (Nat)) => (fun (k : Nat) => bs.length - k) (ss)) 0 ?_ ?_
  · try dsimp only
    refine ⟨?_, ?_, ?_, ?_, ?_, ?_⟩
    · first | exact h1_8 | (rw [h1_8]; rfl) | (rw [h1_8]; simp; done)
    · rfl
    · rfl
    · rfl
    · rfl
    · exact ⟨Nat.zero_le _, fun j hj => absurd hj (Nat.not_lt_zero _)⟩
  · intro k T2 L2 hI K4 hK4
    try dsimp only at hI hK4
    simp only [h1_0, h1_1, h1_7] at hI hK4
    obtain ⟨h2_8, h2_0, h2_1, h2_7, hL2, ⟨hk, hin⟩⟩ := hI
    replace hL2 := hL2.symm
    subst hL2
    clear h1_0 h1_1 h1_7 h1_8 T1
    refine SX.seq_k fun K5 hK5 => ?_
    refine SX.region_d [some 9] rfl (fun ops hops => ?_)
    unfold Dsts at hops
    simp (maxSteps := 1000000) (dsimp := false) (disch := omega) only [go_sem, ia_someH, hP, h2_8, h2_0, h2_1, h2_7, hops]
    repeat' ((first | refine And.intro (by omega) ?_ | fail); try (with_reducible refine stI ?_); try simp (maxSteps := 1000000) (dsimp := false) (disch := omega) only [go_sem, ia_someH, hP, h2_8, h2_0, h2_1, h2_7, hops])
    refine hK5 _ _ ?_
    try clear hK5 K5
    refine SX.seq_k fun K6 hK6 => ?_
    refine SX.cond_k fun X7 Y7 hX7 hY7 => ?_
    simp (maxSteps := 1000000) (dsimp := false) (disch := omega) only [go_sem, ia_someH, hP, h2_8, h2_0, h2_1, h2_7, condVC]
    refine ⟨fun hc9 => hX7 ?_, fun hc9 => hY7 ?_⟩
    · clear hX7 hY7 X7 Y7
      refine SX.skip ?_
      try simp only [andThen_normal, andThen_ret, andThen_exit, inBlk_normal, inBlk_ret, inBlk_exit, Nat.reduceEqDiff, if_true, if_false, ↓reduceIte]
      refine hK6 _ _ ?_
      try clear hK6 K6
      refine SX.seq_k fun K8 hK8 => ?_
      refine SX.block ?_
      refine SX.seq_k fun K9 hK9 => ?_
      refine SX.region_d [some 10, some 5] rfl (fun ops hops => ?_)
      unfold Dsts at hops
      simp (maxSteps := 1000000) (dsimp := false) (disch := omega) only [go_sem, ia_someH, hP, h2_8, h2_0, h2_1, h2_7, hops]
      refine hK9 _ _ ?_
      try clear hK9 K9
      refine SX.seq_k fun K10 hK10 => ?_
      refine SX.region_d [some 11, some 12, some 13, some 14, some 15, some 16, some 17, some 18, some 19, some 20] rfl (fun ops hops => ?_)
      unfold Dsts at hops
      simp (maxSteps := 1000000) (dsimp := false) (disch := omega) only [go_sem, ia_someH, hP, h2_8, h2_0, h2_1, h2_7, hops]
      refine ⟨_, Cell.at 0 rfl (show (pcells _ _ _ _ _ _ _ _)[16]? = _ from rfl), ?_⟩
      try with_reducible refine stI ?_
      try simp (maxSteps := 1000000) (dsimp := false) (disch := omega) only [go_sem, ia_someH, hP, h2_8, h2_0, h2_1, h2_7, hops]
      refine SCall.mono (inside_spec hP) ?_
      rintro v_ L_ ⟨hv_, hL_⟩
      rw [hv_, hL_]
      try with_reducible refine stI ?_
      try simp (maxSteps := 1000000) (dsimp := false) (disch := omega) only [go_sem, ia_someH, hP, h2_8, h2_0, h2_1, h2_7, hops]
      refine hK10 _ _ ?_
      try clear hK10 K10
      refine SX.live [0, 1, 7, 8, 20] (fun T3 hT3 => ?_)
      simp only [forall_mem_cons', forall_mem_nil', go_sem, ia_someH, hP, h2_8, h2_0, h2_1, h2_7] at hT3
      obtain ⟨h3_0, h3_1, h3_7, h3_8, h3_20⟩ := hT3
      clear h2_8 h2_0 h2_1 h2_7 T2
      refine SX.cond_k fun X11 Y11 hX11 hY11 => ?_
      simp (maxSteps := 1000000) (dsimp := false) (disch := omega) only [go_sem, ia_someH, hP, h3_0, h3_1, h3_7, h3_8, h3_20, condVC]
      refine ⟨fun hc20 => hX11 ?_, fun hc20 => hY11 ?_⟩
      · clear hX11 hY11 X11 Y11
        refine SX.seq_k fun K12 hK12 => ?_
        refine SX.region_d [some 4] rfl (fun ops hops => ?_)
        unfold Dsts at hops
        simp (maxSteps := 1000000) (dsimp := false) (disch := omega) only [go_sem, ia_someH, hP, h3_0, h3_1, h3_7, h3_8, h3_20, hops]
        refine hK12 _ _ ?_
        try clear hK12 K12
        refine SX.ret ?_
        simp only [andThen_normal, andThen_ret, andThen_exit, inBlk_normal, inBlk_ret, inBlk_exit, Nat.reduceEqDiff, if_true, if_false, ↓reduceIte, retQ_ret]
        try simp only [res0, res1, res2, res3, stK_e, go_sem, ia_someH, hP, h3_0, h3_1, h3_7, h3_8, h3_20]
        refine ⟨_, _, Less.refl _, rfl, ?_⟩
        unfold layR layG
        rw [if_neg (fun h => by have := hc20; omega)]
        exact ⟨rfl, rfl⟩
      · clear hX11 hY11 X11 Y11
        refine SX.skip ?_
        try simp only [andThen_normal, andThen_ret, andThen_exit, inBlk_normal, inBlk_ret, inBlk_exit, Nat.reduceEqDiff, if_true, if_false, ↓reduceIte]
        refine hK8 _ _ ?_
        try clear hK8 K8
        refine SX.region_d [some 21, some 8] rfl (fun ops hops => ?_)
        unfold Dsts at hops
        simp (maxSteps := 1000000) (dsimp := false) (disch := omega) only [go_sem, ia_someH, hP, h3_0, h3_1, h3_7, h3_8, h3_20, hops]
        repeat' ((first | refine And.intro (by omega) ?_ | fail); try (with_reducible refine stI ?_); try simp (maxSteps := 1000000) (dsimp := false) (disch := omega) only [go_sem, ia_someH, hP, h3_0, h3_1, h3_7, h3_8, h3_20, hops])
        refine hK4 (k + 1) _ (PS gp g sv pv mv o f fv d :: q1 :: q2 :: q3 :: L) _ (by first | exact Less.refl _ | exact Less.drop _ _ | exact Less.drops (Less.drop _ _) | exact Less.drops (Less.drops (Less.drop _ _)) | exact Less.drops (Less.drops (Less.drops (Less.drop _ _))) | exact Less.drops (Less.drops (Less.drops (Less.drops (Less.drop _ _))))) ?_ ?_
        · try dsimp only
          refine ⟨?_, ?_, ?_, ?_, ?_, ?_⟩
          · simp (maxSteps := 1000000) (dsimp := false) (disch := omega) only [go_sem, ia_someH, hP, h3_0, h3_1, h3_7, h3_8, h3_20]
            rfl
          · simp (maxSteps := 1000000) (dsimp := false) (disch := omega) only [go_sem, ia_someH, hP, h3_0, h3_1, h3_7, h3_8, h3_20]
          · simp (maxSteps := 1000000) (dsimp := false) (disch := omega) only [go_sem, ia_someH, hP, h3_0, h3_1, h3_7, h3_8, h3_20]
          · simp (maxSteps := 1000000) (dsimp := false) (disch := omega) only [go_sem, ia_someH, hP, h3_0, h3_1, h3_7, h3_8, h3_20]
          · rfl
          · refine ⟨by omega, fun j hj => ?_⟩
            rcases Nat.lt_succ_iff_lt_or_eq.1 hj with h | rfl
            · exact hin j h
            · first | exact hc20 | (simpa using hc20)
        · (try dsimp only); omega
    · clear hX7 hY7 X7 Y7
      refine SX.exit ?_
      try simp only [andThen_normal, andThen_ret, andThen_exit, inBlk_normal, inBlk_ret, inBlk_exit, Nat.reduceEqDiff, if_true, if_false, ↓reduceIte]
      refine hK2 _ _ ?_
      try clear hK2 K2
      refine SX.seq_k fun K13 hK13 => ?_
      obtain rfl : k = bs.length := by omega
      have h0 := hin 0 (by omega)
      have h9 := hin (bs.length - 1) (by omega)
      obtain ⟨hx, ⟨_, hn, _⟩ | ⟨gm, cap, junk, rfl, rfl, hcap, hjl⟩⟩ := id hm
      · omega
      have hof : (g.I - 512).toNat < cap := by omega
      have hmin : min bs.length (3232 - (g.I - 512).toNat) = bs.length := by omega
      have hsrc : ∀ j u, (SX.ints .u8 bs)[j]? = some u → ∃ a, A = some a ∧ Cell Γ (PS gp g sv pv (.slice (some ⟨gm, 0, none⟩) g.mm.length cap) o f fv d :: q1 :: q2 :: some (gm, .cells (ints .u8 g.mm ++ junk).toArray 5 (0, 0)) :: L) (a.add j) u := fun j u hj => by
        rw [SX.ints_at] at hj
        obtain ⟨x, hx, rfl⟩ := Option.map_eq_some_iff.1 hj
        obtain ⟨a, ha, h⟩ := hA j x hx
        rw [Nat.mul_one] at h
        exact ⟨a, ha, h⟩
      rw [hml] at hsrc
      refine SX.drawn_d [(0, .q), (1, .q), (2, .q), (3, .q), (4, .q), (5, .q), (6, .q), (7, .q), (8, .q), (9, .q), (10, .q), (11, .q), (12, .q), (13, .q), (14, .t)] (fun L => L) (hP ▸ T.mixed) (by kernel_rfl) (by exact Less.refl _) [some 22, some 23, some 24, some 25, some 26, some 27, some 28, some 29, some 30, some 31, some 32, some 33, some 34, some 35, some 36] rfl (fun ops hops hopl => ?_)
      unfold Dsts at hops
      simp (maxSteps := 1000000) (dsimp := false) (disch := omega) only [go_sem, ia_someH, hP, h2_8, h2_0, h2_1, h2_7, hops, hopl, cutA_lt hof, hml]
      refine ⟨_, Cell.at 0 rfl (show (pcells _ _ _ _ _ _ _ _)[22]? = _ from rfl), ?_⟩
      try with_reducible refine stI ?_
      try simp (maxSteps := 1000000) (dsimp := false) (disch := omega) only [go_sem, ia_someH, hP, h2_8, h2_0, h2_1, h2_7, hops, hopl, cutA_lt hof, hml]
      refine ⟨_, Cell.at 0 rfl (show (pcells _ _ _ _ _ _ _ _)[16]? = _ from rfl), ?_⟩
      try with_reducible refine stI ?_
      try simp (maxSteps := 1000000) (dsimp := false) (disch := omega) only [go_sem, ia_someH, hP, h2_8, h2_0, h2_1, h2_7, hops, hopl, cutA_lt hof, hml]
      refine And.intro (.inr (by omega)) ?_
      refine YCopy.cells (i := 3) (src := SX.ints .u8 bs) (sz := 1) (hP ▸ T.elS_23) (by rw [ints_length, Nat.mul_one]) hsrc (ints_oneB _ _) rfl (by rw [hmin]; simp [ints_length]; omega) (.inr (Nat.zero_le _)) ?_
      rw [hmin, Nat.mul_one, List.take_of_length_le (by rw [ints_length]; exact Nat.le_refl _), setN_splice (by omega)]
      try with_reducible refine stI ?_
      try simp (maxSteps := 1000000) (dsimp := false) (disch := omega) only [go_sem, ia_someH, hP, h2_8, h2_0, h2_1, h2_7, hops, hopl, cutA_lt hof, hml]
      refine hK13 _ _ ?_
      try clear hK13 K13
      refine SX.live [] (fun T4 hT4 => ?_)
      clear hT4
      clear h2_8 h2_0 h2_1 h2_7 T2
      refine SX.seq_k fun K14 hK14 => ?_
      refine SX.region_d [some 4] rfl (fun ops hops => ?_)
      unfold Dsts at hops
      simp (maxSteps := 1000000) (dsimp := false) (disch := omega) only [go_sem, ia_someH, hP, hops]
      refine hK14 _ _ ?_
      try clear hK14 K14
      refine SX.ret ?_
      simp only [andThen_normal, andThen_ret, andThen_exit, inBlk_normal, inBlk_ret, inBlk_exit, Nat.reduceEqDiff, if_true, if_false, ↓reduceIte, retQ_ret]
      try simp only [res0, res1, res2, res3, stK_e, go_sem, ia_someH, hP]
      refine ⟨_, _, Less.refl _, rfl, ?_⟩
      unfold layR layG
      rw [if_pos ⟨by omega, by omega⟩]
      have hsl := spliceL_length (l := g.mm) (bs := bs) (i := (g.I - 512).toNat) (by omega)
      exact ⟨rfl, _, by rw [← hml]; rfl, by rw [ints_length]; omega, .inr ⟨gm, cap, junk, by rw [hsl, hml], rfl, by rw [hsl]; exact hcap, by simp only [List.length_append, ints_length, hsl] at hjl ⊢; exact hjl⟩⟩

end Go.Proofs.Ytgioegdjeodpiaa
set_option linter.unusedVariables false
set_option linter.unusedSimpArgs false
namespace Go.Proofs.Ytgioegdjeodpiaa
open Go.RowKit Go.SX
open Go.SX renaming ia_someH → Φa

def vG (g : GM) (x : Nat) : Int := g.V.getD x 0
def skipG (g : GM) (b : Bool) : Int × GM := (1, if b = true then { g with PC := IntKind.u16.wrap (g.PC + 2) } else g)
def letG (g : GM) (o : Ord) (b : Int) : Int × GM := (1, { g with V := g.V.set o.x b })
def flagG (g : GM) (o : Ord) (b c : Int) : Int × GM := (1, { g with V := (g.V.set o.x b).set 15 c })
def truthI (b : Bool) : Int := if b = true then 1 else 0
def downG (g : GM) (o : Ord) (d : Feed) : Bool := decide (bits .and .u16 (d.keys.fdiv (2 ^ min (g.V.getD o.x 0 % 16).toNat 16)) 1 = 1)
set_option maxHeartbeats 1000000 in
set_option maxRecDepth 100000 in
theorem down_spec {Γ : Ctx} (hP : Γ.P = Try.prog) {L : Hp} {gp : Nat} {g : GM} {sv pv mv : Value} {o : Ord} {f : Fnt} {fv : Value} {d : Feed} {i : Nat} (hi : L[i]? = some (PS gp g sv pv mv o f fv d)) (hx : o.x < 16) (hVb : Byte g.V) :
    SCall Γ 87 #[(.pointer (some ⟨gp, 0, none⟩))] L (fun v L' => v = .bool (downG g o d) ∧ L' = L) := by
  refine SCall.enter (n := 14) (res1 2) (hP ▸ Try.func87) rfl rfl (by simp) (res1_ok rfl) ?_
  refine SX.seq_k fun K1 hK1 => ?_
  refine SX.region_d [some 2] rfl (fun ops hops => ?_)
  unfold Dsts at hops
  simp (maxSteps:=1000000)(dsimp:=false)(disch:=omega) only [go_sem, Φa, hP, hops]
  repeat' ((first | refine ⟨_, Cell.at i hi (show (pcells _ _ _ _ _ _ _ _)[48]? = _ from rfl), ?_⟩ | fail); try (with_reducible refine stI ?_); try simp (maxSteps:=1000000)(dsimp:=false)(disch:=omega) only [go_sem, Φa, hP, hops])
  refine hK1 _ _ ?_
  try clear hK1 K1
  refine SX.seq_k fun K2 hK2 => ?_
  have hb := byte_at hVb o.x
  have h15 := u8_and15 (g.V.getD o.x 0) hb.1 (by omega)
  refine SX.quiet_d (hP ▸ T.mixed) (by kernel_rfl) [some 3, some 4, some 5, some 6, some 7, some 8, some 9, some 10, some 11, some 12, some 13, some 2] rfl (fun ops hops => ?_)
  unfold Dsts at hops
  simp (maxSteps:=1000000)(dsimp:=false)(disch:=omega) only [go_sem, Φa, hP, hops, h15]
  repeat' ((first | refine ⟨_, Cell.at i hi (show (pcells _ _ _ _ _ _ _ _)[48]? = _ from rfl), ?_⟩ | (refine SCall.mono (x_spec (i := i) hP hi hx) ?_; rintro v_ L_ ⟨hv_, hL_⟩; rw [hv_, hL_]; clear hv_ hL_ v_ L_) | refine ⟨_, x_spec (i := i) hP hi hx, ?_⟩ | refine ⟨_, fun L0 hl0 => x_spec (i := i) hP hi hx, ?_⟩ | refine And.intro (by omega) ?_ | fail); try (with_reducible refine stI ?_); try simp (maxSteps:=1000000)(dsimp:=false)(disch:=omega) only [go_sem, Φa, hP, hops, h15])
  refine hK2 _ _ ?_
  try clear hK2 K2
  refine SX.ret ?_
  simp only [andThen_normal, andThen_ret, andThen_exit, inBlk_normal, inBlk_ret, inBlk_exit, Nat.reduceEqDiff, if_true, if_false, ↓reduceIte, retQ_ret]
  try simp only [res0, res1, res2, res3, stK_e, go_sem, Φa, hP]
  exact ⟨_, _, Less.refl _, rfl, rfl, rfl⟩
set_option maxHeartbeats 1000000 in
set_option maxRecDepth 100000 in
theorem jump_spec {Γ : Ctx} (hP : Γ.P = Try.prog) {L : Hp} {gp : Nat} {g : GM} {sv pv mv : Value} {o : Ord} {f : Fnt} {fv : Value} {d : Feed} {q1 q2 q3 : Slot} (hg : OkG g) (hr : Rows g sv pv mv q1 q2 q3) (ho : OkO o) (hx : o.x < 16) (hy : o.y < 16) (hd : OkD d) :
    SCall Γ 49 #[(.pointer (some ⟨gp, 0, none⟩))] (PS gp g sv pv mv o f fv d :: q1 :: q2 :: q3 :: L) (mres gp o f fv d L (1, { g with PC := (o.a : Int) })) := by
  have hbx := byte_at hg.Vb o.x
  have hby := byte_at hg.Vb o.y
  have hob := ho.b
  have hoa := ho.a
  have hox := ho.x
  have hPCb := hg.PC
  have hIb := hg.I
  have hrb := hd.rnd
  have hkb := hd.keys
  have hdl := hg.dl
  have hsd := hg.sd
  refine SCall.enter (n := 12) (res1 2) (hP ▸ Try.func49) rfl rfl (by simp) (res1_ok rfl) ?_
  refine SX.seq_k fun K1 hK1 => ?_
  refine SX.region_d [some 2] rfl (fun ops hops => ?_)
  unfold Dsts at hops
  simp (maxSteps:=1000000)(dsimp:=false)(disch:=omega) only [go_sem, Φa, hP, hops]
  repeat' ((first | refine ⟨_, Cell.at 0 rfl rfl, ?_⟩ | refine ⟨0, _, _, _, rfl, (by rw [pcells_length]; omega), .inr (by first | decide | exact Nat.zero_le _), ?_⟩ | fail); try (with_reducible refine stI ?_); try simp (maxSteps:=1000000)(dsimp:=false)(disch:=omega) only [go_sem, Φa, hP, hops])
  refine hK1 _ _ ?_
  try clear hK1 K1
  refine SX.seq_k fun K2 hK2 => ?_
  refine SX.region_d [some 3, some 4, some 5, some 6, some 7, some 8, some 9, some 10, some 11, none] rfl (fun ops hops => ?_)
  unfold Dsts at hops
  simp (maxSteps:=1000000)(dsimp:=false)(disch:=omega) only [go_sem, Φa, hP, hops]
  repeat' ((first | refine ⟨_, Cell.at 0 rfl rfl, ?_⟩ | refine ⟨0, _, _, _, rfl, (by rw [pcells_length]; omega), .inr (by first | decide | exact Nat.zero_le _), ?_⟩ | fail); try (with_reducible refine stI ?_); try simp (maxSteps:=1000000)(dsimp:=false)(disch:=omega) only [go_sem, Φa, hP, hops])
  refine hK2 _ _ ?_
  try clear hK2 K2
  refine SX.live [] (fun T1 hT1 => ?_)
  clear hT1
  refine SX.seq_k fun K3 hK3 => ?_
  refine SX.region_d [some 2] rfl (fun ops hops => ?_)
  unfold Dsts at hops
  simp (maxSteps:=1000000)(dsimp:=false)(disch:=omega) only [go_sem, Φa, hP, hops]
  repeat' ((first | refine ⟨_, Cell.at 0 rfl rfl, ?_⟩ | refine ⟨0, _, _, _, rfl, (by rw [pcells_length]; omega), .inr (by first | decide | exact Nat.zero_le _), ?_⟩ | fail); try (with_reducible refine stI ?_); try simp (maxSteps:=1000000)(dsimp:=false)(disch:=omega) only [go_sem, Φa, hP, hops])
  refine hK3 _ _ ?_
  try clear hK3 K3
  refine SX.ret ?_
  simp only [andThen_normal, andThen_ret, andThen_exit, inBlk_normal, inBlk_ret, inBlk_exit, Nat.reduceEqDiff, if_true, if_false, ↓reduceIte, retQ_ret]
  try simp only [res0, res1, res2, res3, stK_e, go_sem, Φa, hP]
  exact ⟨_, _, Less.refl _, rfl, rfl, sv, pv, mv, q1, q2, q3, rfl, ⟨hr.st, hr.pg, hr.mm⟩⟩
set_option maxHeartbeats 1000000 in
set_option maxRecDepth 100000 in
theorem skipIs_spec {Γ : Ctx} (hP : Γ.P = Try.prog) {L : Hp} {gp : Nat} {g : GM} {sv pv mv : Value} {o : Ord} {f : Fnt} {fv : Value} {d : Feed} {q1 q2 q3 : Slot} (hg : OkG g) (hr : Rows g sv pv mv q1 q2 q3) (ho : OkO o) (hx : o.x < 16) (hy : o.y < 16) (hd : OkD d) :
    SCall Γ 51 #[(.pointer (some ⟨gp, 0, none⟩))] (PS gp g sv pv mv o f fv d :: q1 :: q2 :: q3 :: L) (mres gp o f fv d L (skipG g (decide (vG g o.x = (o.b : Int))))) := by
  have hbx := byte_at hg.Vb o.x
  have hby := byte_at hg.Vb o.y
  have hob := ho.b
  have hoa := ho.a
  have hox := ho.x
  have hPCb := hg.PC
  have hIb := hg.I
  have hrb := hd.rnd
  have hkb := hd.keys
  have hdl := hg.dl
  have hsd := hg.sd
  refine SCall.enter (n := 13) (res1 2) (hP ▸ Try.func51) rfl rfl (by simp) (res1_ok rfl) ?_
  refine SX.seq_k fun K1 hK1 => ?_
  refine SX.region_d [some 2] rfl (fun ops hops => ?_)
  unfold Dsts at hops
  simp (maxSteps:=1000000)(dsimp:=false)(disch:=omega) only [go_sem, Φa, hP, hops]
  repeat' ((first | refine ⟨_, Cell.at 0 rfl rfl, ?_⟩ | refine ⟨0, _, _, _, rfl, (by rw [pcells_length]; omega), .inr (by first | decide | exact Nat.zero_le _), ?_⟩ | fail); try (with_reducible refine stI ?_); try simp (maxSteps:=1000000)(dsimp:=false)(disch:=omega) only [go_sem, Φa, hP, hops])
  refine hK1 _ _ ?_
  try clear hK1 K1
  refine SX.seq_k fun K2 hK2 => ?_
  refine SX.drawn_d [(0, .q), (1, .q), (3, .q), (4, .q), (5, .q), (6, .q), (7, .q), (2, .e), (8, .q), (9, .t), (10, .t)] (fun L => L) (hP ▸ T.mixed) (by kernel_rfl) (by exact Less.refl _) [some 3, some 4, some 5, some 6, some 7, some 8, some 9, some 10, some 11, some 12, some 2] rfl (fun ops hops hopl => ?_)
  unfold Dsts at hops
  simp (maxSteps:=1000000)(dsimp:=false)(disch:=omega) only [go_sem, Φa, hP, hops, hopl]
  repeat' ((first | refine ⟨_, Cell.at 0 rfl rfl, ?_⟩ | refine ⟨0, _, _, _, rfl, (by rw [pcells_length]; omega), .inr (by first | decide | exact Nat.zero_le _), ?_⟩ | (refine SCall.mono (x_spec (i := 0) hP rfl hx) ?_; rintro v_ L_ ⟨hv_, hL_⟩; rw [hv_, hL_]; clear hv_ hL_ v_ L_) | refine ⟨_, x_spec (i := 0) hP rfl hx, ?_⟩ | refine ⟨_, fun L0 hl0 => x_spec (i := 0) hP rfl hx, ?_⟩ | (refine SCall.mono (y_spec (i := 0) hP rfl hy) ?_; rintro v_ L_ ⟨hv_, hL_⟩; rw [hv_, hL_]; clear hv_ hL_ v_ L_) | refine ⟨_, y_spec (i := 0) hP rfl hy, ?_⟩ | refine ⟨_, fun L0 hl0 => y_spec (i := 0) hP rfl hy, ?_⟩ | (refine SCall.mono (let_spec hP hx hg.V) ?_; rintro v_ L_ ⟨hv_, hL_⟩; rw [hv_, hL_]; clear hv_ hL_ v_ L_) | refine ⟨_, let_spec hP hx hg.V, ?_⟩ | refine ⟨_, fun L0 hl0 => let_spec hP hx hg.V, ?_⟩ | (refine SCall.mono (skip_spec hP) ?_; rintro v_ L_ ⟨hv_, hL_⟩; rw [hv_, hL_]; clear hv_ hL_ v_ L_) | refine ⟨_, skip_spec hP, ?_⟩ | refine ⟨_, fun L0 hl0 => skip_spec hP, ?_⟩ | (refine SCall.mono (flagged_spec hP hx hg.V) ?_; rintro v_ L_ ⟨hv_, hL_⟩; rw [hv_, hL_]; clear hv_ hL_ v_ L_) | refine ⟨_, flagged_spec hP hx hg.V, ?_⟩ | refine ⟨_, fun L0 hl0 => flagged_spec hP hx hg.V, ?_⟩ | (refine SCall.mono (truth_spec hP _) ?_; rintro v_ L_ ⟨hv_, hL_⟩; rw [hv_, hL_]; clear hv_ hL_ v_ L_) | refine ⟨_, truth_spec hP _, ?_⟩ | refine ⟨_, fun L0 hl0 => truth_spec hP _, ?_⟩ | (refine SCall.mono (down_spec (i := 0) hP rfl hx hg.Vb) ?_; rintro v_ L_ ⟨hv_, hL_⟩; rw [hv_, hL_]; clear hv_ hL_ v_ L_) | refine ⟨_, down_spec (i := 0) hP rfl hx hg.Vb, ?_⟩ | refine ⟨_, fun L0 hl0 => down_spec (i := 0) hP rfl hx hg.Vb, ?_⟩ | (refine SCall.mono (behind_spec hP hx) ?_; rintro v_ L_ ⟨hv_, hL_⟩; rw [hv_, hL_]; clear hv_ hL_ v_ L_) | refine ⟨_, behind_spec hP hx, ?_⟩ | refine ⟨_, fun L0 hl0 => behind_spec hP hx, ?_⟩ | refine And.intro (by omega) ?_ | fail); try (with_reducible refine stI ?_); try simp (maxSteps:=1000000)(dsimp:=false)(disch:=omega) only [go_sem, Φa, hP, hops, hopl])
  refine hK2 _ _ ?_
  try clear hK2 K2
  refine SX.ret ?_
  simp only [andThen_normal, andThen_ret, andThen_exit, inBlk_normal, inBlk_ret, inBlk_exit, Nat.reduceEqDiff, if_true, if_false, ↓reduceIte, retQ_ret]
  try simp only [res0, res1, res2, res3, stK_e, go_sem, Φa, hP]
  refine ⟨_, _, Less.refl _, rfl, rfl, sv, pv, mv, q1, q2, q3, ?_, ?_⟩
  · first | rfl | (unfold skipG vG; simp only [decide_eq_true_eq, Bool.not_eq_true', decide_eq_false_iff_not]; done) | (unfold skipG; simp only [decide_eq_true_eq, Bool.not_eq_true', decide_eq_false_iff_not]; done) | (unfold skipG vG; simp only [decide_eq_true_eq, Bool.not_eq_true', decide_eq_false_iff_not]; rfl)
  · unfold skipG; dsimp only; split <;> exact ⟨hr.st, hr.pg, hr.mm⟩
set_option maxHeartbeats 1000000 in
set_option maxRecDepth 100000 in
theorem skipNot_spec {Γ : Ctx} (hP : Γ.P = Try.prog) {L : Hp} {gp : Nat} {g : GM} {sv pv mv : Value} {o : Ord} {f : Fnt} {fv : Value} {d : Feed} {q1 q2 q3 : Slot} (hg : OkG g) (hr : Rows g sv pv mv q1 q2 q3) (ho : OkO o) (hx : o.x < 16) (hy : o.y < 16) (hd : OkD d) :
    SCall Γ 52 #[(.pointer (some ⟨gp, 0, none⟩))] (PS gp g sv pv mv o f fv d :: q1 :: q2 :: q3 :: L) (mres gp o f fv d L (skipG g (!decide (vG g o.x = (o.b : Int))))) := by
  have hbx := byte_at hg.Vb o.x
  have hby := byte_at hg.Vb o.y
  have hob := ho.b
  have hoa := ho.a
  have hox := ho.x
  have hPCb := hg.PC
  have hIb := hg.I
  have hrb := hd.rnd
  have hkb := hd.keys
  have hdl := hg.dl
  have hsd := hg.sd
  refine SCall.enter (n := 13) (res1 2) (hP ▸ Try.func52) rfl rfl (by simp) (res1_ok rfl) ?_
  refine SX.seq_k fun K1 hK1 => ?_
  refine SX.region_d [some 2] rfl (fun ops hops => ?_)
  unfold Dsts at hops
  simp (maxSteps:=1000000)(dsimp:=false)(disch:=omega) only [go_sem, Φa, hP, hops]
  repeat' ((first | refine ⟨_, Cell.at 0 rfl rfl, ?_⟩ | refine ⟨0, _, _, _, rfl, (by rw [pcells_length]; omega), .inr (by first | decide | exact Nat.zero_le _), ?_⟩ | fail); try (with_reducible refine stI ?_); try simp (maxSteps:=1000000)(dsimp:=false)(disch:=omega) only [go_sem, Φa, hP, hops])
  refine hK1 _ _ ?_
  try clear hK1 K1
  refine SX.seq_k fun K2 hK2 => ?_
  refine SX.drawn_d [(0, .q), (1, .q), (3, .q), (4, .q), (5, .q), (6, .q), (7, .q), (2, .e), (8, .q), (9, .t), (10, .t)] (fun L => L) (hP ▸ T.mixed) (by kernel_rfl) (by exact Less.refl _) [some 3, some 4, some 5, some 6, some 7, some 8, some 9, some 10, some 11, some 12, some 2] rfl (fun ops hops hopl => ?_)
  unfold Dsts at hops
  simp (maxSteps:=1000000)(dsimp:=false)(disch:=omega) only [go_sem, Φa, hP, hops, hopl]
  repeat' ((first | refine ⟨_, Cell.at 0 rfl rfl, ?_⟩ | refine ⟨0, _, _, _, rfl, (by rw [pcells_length]; omega), .inr (by first | decide | exact Nat.zero_le _), ?_⟩ | (refine SCall.mono (x_spec (i := 0) hP rfl hx) ?_; rintro v_ L_ ⟨hv_, hL_⟩; rw [hv_, hL_]; clear hv_ hL_ v_ L_) | refine ⟨_, x_spec (i := 0) hP rfl hx, ?_⟩ | refine ⟨_, fun L0 hl0 => x_spec (i := 0) hP rfl hx, ?_⟩ | (refine SCall.mono (y_spec (i := 0) hP rfl hy) ?_; rintro v_ L_ ⟨hv_, hL_⟩; rw [hv_, hL_]; clear hv_ hL_ v_ L_) | refine ⟨_, y_spec (i := 0) hP rfl hy, ?_⟩ | refine ⟨_, fun L0 hl0 => y_spec (i := 0) hP rfl hy, ?_⟩ | (refine SCall.mono (let_spec hP hx hg.V) ?_; rintro v_ L_ ⟨hv_, hL_⟩; rw [hv_, hL_]; clear hv_ hL_ v_ L_) | refine ⟨_, let_spec hP hx hg.V, ?_⟩ | refine ⟨_, fun L0 hl0 => let_spec hP hx hg.V, ?_⟩ | (refine SCall.mono (skip_spec hP) ?_; rintro v_ L_ ⟨hv_, hL_⟩; rw [hv_, hL_]; clear hv_ hL_ v_ L_) | refine ⟨_, skip_spec hP, ?_⟩ | refine ⟨_, fun L0 hl0 => skip_spec hP, ?_⟩ | (refine SCall.mono (flagged_spec hP hx hg.V) ?_; rintro v_ L_ ⟨hv_, hL_⟩; rw [hv_, hL_]; clear hv_ hL_ v_ L_) | refine ⟨_, flagged_spec hP hx hg.V, ?_⟩ | refine ⟨_, fun L0 hl0 => flagged_spec hP hx hg.V, ?_⟩ | (refine SCall.mono (truth_spec hP _) ?_; rintro v_ L_ ⟨hv_, hL_⟩; rw [hv_, hL_]; clear hv_ hL_ v_ L_) | refine ⟨_, truth_spec hP _, ?_⟩ | refine ⟨_, fun L0 hl0 => truth_spec hP _, ?_⟩ | (refine SCall.mono (down_spec (i := 0) hP rfl hx hg.Vb) ?_; rintro v_ L_ ⟨hv_, hL_⟩; rw [hv_, hL_]; clear hv_ hL_ v_ L_) | refine ⟨_, down_spec (i := 0) hP rfl hx hg.Vb, ?_⟩ | refine ⟨_, fun L0 hl0 => down_spec (i := 0) hP rfl hx hg.Vb, ?_⟩ | (refine SCall.mono (behind_spec hP hx) ?_; rintro v_ L_ ⟨hv_, hL_⟩; rw [hv_, hL_]; clear hv_ hL_ v_ L_) | refine ⟨_, behind_spec hP hx, ?_⟩ | refine ⟨_, fun L0 hl0 => behind_spec hP hx, ?_⟩ | refine And.intro (by omega) ?_ | fail); try (with_reducible refine stI ?_); try simp (maxSteps:=1000000)(dsimp:=false)(disch:=omega) only [go_sem, Φa, hP, hops, hopl])
  refine hK2 _ _ ?_
  try clear hK2 K2
  refine SX.ret ?_
  simp only [andThen_normal, andThen_ret, andThen_exit, inBlk_normal, inBlk_ret, inBlk_exit, Nat.reduceEqDiff, if_true, if_false, ↓reduceIte, retQ_ret]
  try simp only [res0, res1, res2, res3, stK_e, go_sem, Φa, hP]
  refine ⟨_, _, Less.refl _, rfl, rfl, sv, pv, mv, q1, q2, q3, ?_, ?_⟩
  · first | rfl | (unfold skipG vG; simp only [decide_eq_true_eq, Bool.not_eq_true', decide_eq_false_iff_not]; done) | (unfold skipG; simp only [decide_eq_true_eq, Bool.not_eq_true', decide_eq_false_iff_not]; done) | (unfold skipG vG; simp only [decide_eq_true_eq, Bool.not_eq_true', decide_eq_false_iff_not]; rfl)
  · unfold skipG; dsimp only; split <;> exact ⟨hr.st, hr.pg, hr.mm⟩
set_option maxHeartbeats 1000000 in
set_option maxRecDepth 100000 in
theorem skipSame_spec {Γ : Ctx} (hP : Γ.P = Try.prog) {L : Hp} {gp : Nat} {g : GM} {sv pv mv : Value} {o : Ord} {f : Fnt} {fv : Value} {d : Feed} {q1 q2 q3 : Slot} (hg : OkG g) (hr : Rows g sv pv mv q1 q2 q3) (ho : OkO o) (hx : o.x < 16) (hy : o.y < 16) (hd : OkD d) :
    SCall Γ 53 #[(.pointer (some ⟨gp, 0, none⟩))] (PS gp g sv pv mv o f fv d :: q1 :: q2 :: q3 :: L) (mres gp o f fv d L (skipG g (decide (vG g o.x = vG g o.y)))) := by
  have hbx := byte_at hg.Vb o.x
  have hby := byte_at hg.Vb o.y
  have hob := ho.b
  have hoa := ho.a
  have hox := ho.x
  have hPCb := hg.PC
  have hIb := hg.I
  have hrb := hd.rnd
  have hkb := hd.keys
  have hdl := hg.dl
  have hsd := hg.sd
  refine SCall.enter (n := 10) (res1 2) (hP ▸ Try.func53) rfl rfl (by simp) (res1_ok rfl) ?_
  refine SX.seq_k fun K1 hK1 => ?_
  refine SX.region_d [some 2] rfl (fun ops hops => ?_)
  unfold Dsts at hops
  simp (maxSteps:=1000000)(dsimp:=false)(disch:=omega) only [go_sem, Φa, hP, hops]
  repeat' ((first | refine ⟨_, Cell.at 0 rfl rfl, ?_⟩ | refine ⟨0, _, _, _, rfl, (by rw [pcells_length]; omega), .inr (by first | decide | exact Nat.zero_le _), ?_⟩ | fail); try (with_reducible refine stI ?_); try simp (maxSteps:=1000000)(dsimp:=false)(disch:=omega) only [go_sem, Φa, hP, hops])
  refine hK1 _ _ ?_
  try clear hK1 K1
  refine SX.seq_k fun K2 hK2 => ?_
  refine SX.region_d [some 3, some 4, some 5, some 6, some 7, some 8, some 9, some 2] rfl (fun ops hops => ?_)
  unfold Dsts at hops
  simp (maxSteps:=1000000)(dsimp:=false)(disch:=omega) only [go_sem, Φa, hP, hops]
  repeat' ((first | refine ⟨_, Cell.at 0 rfl rfl, ?_⟩ | refine ⟨0, _, _, _, rfl, (by rw [pcells_length]; omega), .inr (by first | decide | exact Nat.zero_le _), ?_⟩ | (refine SCall.mono (x_spec (i := 0) hP rfl hx) ?_; rintro v_ L_ ⟨hv_, hL_⟩; rw [hv_, hL_]; clear hv_ hL_ v_ L_) | refine ⟨_, x_spec (i := 0) hP rfl hx, ?_⟩ | refine ⟨_, fun L0 hl0 => x_spec (i := 0) hP rfl hx, ?_⟩ | (refine SCall.mono (y_spec (i := 0) hP rfl hy) ?_; rintro v_ L_ ⟨hv_, hL_⟩; rw [hv_, hL_]; clear hv_ hL_ v_ L_) | refine ⟨_, y_spec (i := 0) hP rfl hy, ?_⟩ | refine ⟨_, fun L0 hl0 => y_spec (i := 0) hP rfl hy, ?_⟩ | (refine SCall.mono (let_spec hP hx hg.V) ?_; rintro v_ L_ ⟨hv_, hL_⟩; rw [hv_, hL_]; clear hv_ hL_ v_ L_) | refine ⟨_, let_spec hP hx hg.V, ?_⟩ | refine ⟨_, fun L0 hl0 => let_spec hP hx hg.V, ?_⟩ | (refine SCall.mono (skip_spec hP) ?_; rintro v_ L_ ⟨hv_, hL_⟩; rw [hv_, hL_]; clear hv_ hL_ v_ L_) | refine ⟨_, skip_spec hP, ?_⟩ | refine ⟨_, fun L0 hl0 => skip_spec hP, ?_⟩ | (refine SCall.mono (flagged_spec hP hx hg.V) ?_; rintro v_ L_ ⟨hv_, hL_⟩; rw [hv_, hL_]; clear hv_ hL_ v_ L_) | refine ⟨_, flagged_spec hP hx hg.V, ?_⟩ | refine ⟨_, fun L0 hl0 => flagged_spec hP hx hg.V, ?_⟩ | (refine SCall.mono (truth_spec hP _) ?_; rintro v_ L_ ⟨hv_, hL_⟩; rw [hv_, hL_]; clear hv_ hL_ v_ L_) | refine ⟨_, truth_spec hP _, ?_⟩ | refine ⟨_, fun L0 hl0 => truth_spec hP _, ?_⟩ | (refine SCall.mono (down_spec (i := 0) hP rfl hx hg.Vb) ?_; rintro v_ L_ ⟨hv_, hL_⟩; rw [hv_, hL_]; clear hv_ hL_ v_ L_) | refine ⟨_, down_spec (i := 0) hP rfl hx hg.Vb, ?_⟩ | refine ⟨_, fun L0 hl0 => down_spec (i := 0) hP rfl hx hg.Vb, ?_⟩ | (refine SCall.mono (behind_spec hP hx) ?_; rintro v_ L_ ⟨hv_, hL_⟩; rw [hv_, hL_]; clear hv_ hL_ v_ L_) | refine ⟨_, behind_spec hP hx, ?_⟩ | refine ⟨_, fun L0 hl0 => behind_spec hP hx, ?_⟩ | refine And.intro (by omega) ?_ | fail); try (with_reducible refine stI ?_); try simp (maxSteps:=1000000)(dsimp:=false)(disch:=omega) only [go_sem, Φa, hP, hops])
  refine hK2 _ _ ?_
  try clear hK2 K2
  refine SX.ret ?_
  simp only [andThen_normal, andThen_ret, andThen_exit, inBlk_normal, inBlk_ret, inBlk_exit, Nat.reduceEqDiff, if_true, if_false, ↓reduceIte, retQ_ret]
  try simp only [res0, res1, res2, res3, stK_e, go_sem, Φa, hP]
  refine ⟨_, _, Less.refl _, rfl, rfl, sv, pv, mv, q1, q2, q3, ?_, ?_⟩
  · first | rfl | (unfold skipG vG; simp only [decide_eq_true_eq, Bool.not_eq_true', decide_eq_false_iff_not]; done) | (unfold skipG; simp only [decide_eq_true_eq, Bool.not_eq_true', decide_eq_false_iff_not]; done) | (unfold skipG vG; simp only [decide_eq_true_eq, Bool.not_eq_true', decide_eq_false_iff_not]; rfl)
  · unfold skipG; dsimp only; split <;> exact ⟨hr.st, hr.pg, hr.mm⟩
set_option maxHeartbeats 1000000 in
set_option maxRecDepth 100000 in
theorem skipOther_spec {Γ : Ctx} (hP : Γ.P = Try.prog) {L : Hp} {gp : Nat} {g : GM} {sv pv mv : Value} {o : Ord} {f : Fnt} {fv : Value} {d : Feed} {q1 q2 q3 : Slot} (hg : OkG g) (hr : Rows g sv pv mv q1 q2 q3) (ho : OkO o) (hx : o.x < 16) (hy : o.y < 16) (hd : OkD d) :
    SCall Γ 61 #[(.pointer (some ⟨gp, 0, none⟩))] (PS gp g sv pv mv o f fv d :: q1 :: q2 :: q3 :: L) (mres gp o f fv d L (skipG g (!decide (vG g o.x = vG g o.y)))) := by
  have hbx := byte_at hg.Vb o.x
  have hby := byte_at hg.Vb o.y
  have hob := ho.b
  have hoa := ho.a
  have hox := ho.x
  have hPCb := hg.PC
  have hIb := hg.I
  have hrb := hd.rnd
  have hkb := hd.keys
  have hdl := hg.dl
  have hsd := hg.sd
  refine SCall.enter (n := 10) (res1 2) (hP ▸ Try.func61) rfl rfl (by simp) (res1_ok rfl) ?_
  refine SX.seq_k fun K1 hK1 => ?_
  refine SX.region_d [some 2] rfl (fun ops hops => ?_)
  unfold Dsts at hops
  simp (maxSteps:=1000000)(dsimp:=false)(disch:=omega) only [go_sem, Φa, hP, hops]
  repeat' ((first | refine ⟨_, Cell.at 0 rfl rfl, ?_⟩ | refine ⟨0, _, _, _, rfl, (by rw [pcells_length]; omega), .inr (by first | decide | exact Nat.zero_le _), ?_⟩ | fail); try (with_reducible refine stI ?_); try simp (maxSteps:=1000000)(dsimp:=false)(disch:=omega) only [go_sem, Φa, hP, hops])
  refine hK1 _ _ ?_
  try clear hK1 K1
  refine SX.seq_k fun K2 hK2 => ?_
  refine SX.region_d [some 3, some 4, some 5, some 6, some 7, some 8, some 9, some 2] rfl (fun ops hops => ?_)
  unfold Dsts at hops
  simp (maxSteps:=1000000)(dsimp:=false)(disch:=omega) only [go_sem, Φa, hP, hops]
  repeat' ((first | refine ⟨_, Cell.at 0 rfl rfl, ?_⟩ | refine ⟨0, _, _, _, rfl, (by rw [pcells_length]; omega), .inr (by first | decide | exact Nat.zero_le _), ?_⟩ | (refine SCall.mono (x_spec (i := 0) hP rfl hx) ?_; rintro v_ L_ ⟨hv_, hL_⟩; rw [hv_, hL_]; clear hv_ hL_ v_ L_) | refine ⟨_, x_spec (i := 0) hP rfl hx, ?_⟩ | refine ⟨_, fun L0 hl0 => x_spec (i := 0) hP rfl hx, ?_⟩ | (refine SCall.mono (y_spec (i := 0) hP rfl hy) ?_; rintro v_ L_ ⟨hv_, hL_⟩; rw [hv_, hL_]; clear hv_ hL_ v_ L_) | refine ⟨_, y_spec (i := 0) hP rfl hy, ?_⟩ | refine ⟨_, fun L0 hl0 => y_spec (i := 0) hP rfl hy, ?_⟩ | (refine SCall.mono (let_spec hP hx hg.V) ?_; rintro v_ L_ ⟨hv_, hL_⟩; rw [hv_, hL_]; clear hv_ hL_ v_ L_) | refine ⟨_, let_spec hP hx hg.V, ?_⟩ | refine ⟨_, fun L0 hl0 => let_spec hP hx hg.V, ?_⟩ | (refine SCall.mono (skip_spec hP) ?_; rintro v_ L_ ⟨hv_, hL_⟩; rw [hv_, hL_]; clear hv_ hL_ v_ L_) | refine ⟨_, skip_spec hP, ?_⟩ | refine ⟨_, fun L0 hl0 => skip_spec hP, ?_⟩ | (refine SCall.mono (flagged_spec hP hx hg.V) ?_; rintro v_ L_ ⟨hv_, hL_⟩; rw [hv_, hL_]; clear hv_ hL_ v_ L_) | refine ⟨_, flagged_spec hP hx hg.V, ?_⟩ | refine ⟨_, fun L0 hl0 => flagged_spec hP hx hg.V, ?_⟩ | (refine SCall.mono (truth_spec hP _) ?_; rintro v_ L_ ⟨hv_, hL_⟩; rw [hv_, hL_]; clear hv_ hL_ v_ L_) | refine ⟨_, truth_spec hP _, ?_⟩ | refine ⟨_, fun L0 hl0 => truth_spec hP _, ?_⟩ | (refine SCall.mono (down_spec (i := 0) hP rfl hx hg.Vb) ?_; rintro v_ L_ ⟨hv_, hL_⟩; rw [hv_, hL_]; clear hv_ hL_ v_ L_) | refine ⟨_, down_spec (i := 0) hP rfl hx hg.Vb, ?_⟩ | refine ⟨_, fun L0 hl0 => down_spec (i := 0) hP rfl hx hg.Vb, ?_⟩ | (refine SCall.mono (behind_spec hP hx) ?_; rintro v_ L_ ⟨hv_, hL_⟩; rw [hv_, hL_]; clear hv_ hL_ v_ L_) | refine ⟨_, behind_spec hP hx, ?_⟩ | refine ⟨_, fun L0 hl0 => behind_spec hP hx, ?_⟩ | refine And.intro (by omega) ?_ | fail); try (with_reducible refine stI ?_); try simp (maxSteps:=1000000)(dsimp:=false)(disch:=omega) only [go_sem, Φa, hP, hops])
  refine hK2 _ _ ?_
  try clear hK2 K2
  refine SX.ret ?_
  simp only [andThen_normal, andThen_ret, andThen_exit, inBlk_normal, inBlk_ret, inBlk_exit, Nat.reduceEqDiff, if_true, if_false, ↓reduceIte, retQ_ret]
  try simp only [res0, res1, res2, res3, stK_e, go_sem, Φa, hP]
  refine ⟨_, _, Less.refl _, rfl, rfl, sv, pv, mv, q1, q2, q3, ?_, ?_⟩
  · first | rfl | (unfold skipG vG; simp only [decide_eq_true_eq, Bool.not_eq_true', decide_eq_false_iff_not]; done) | (unfold skipG; simp only [decide_eq_true_eq, Bool.not_eq_true', decide_eq_false_iff_not]; done) | (unfold skipG vG; simp only [decide_eq_true_eq, Bool.not_eq_true', decide_eq_false_iff_not]; rfl)
  · unfold skipG; dsimp only; split <;> exact ⟨hr.st, hr.pg, hr.mm⟩
set_option maxHeartbeats 1000000 in
set_option maxRecDepth 100000 in
theorem skipDown_spec {Γ : Ctx} (hP : Γ.P = Try.prog) {L : Hp} {gp : Nat} {g : GM} {sv pv mv : Value} {o : Ord} {f : Fnt} {fv : Value} {d : Feed} {q1 q2 q3 : Slot} (hg : OkG g) (hr : Rows g sv pv mv q1 q2 q3) (ho : OkO o) (hx : o.x < 16) (hy : o.y < 16) (hd : OkD d) :
    SCall Γ 66 #[(.pointer (some ⟨gp, 0, none⟩))] (PS gp g sv pv mv o f fv d :: q1 :: q2 :: q3 :: L) (mres gp o f fv d L (skipG g (downG g o d))) := by
  have hbx := byte_at hg.Vb o.x
  have hby := byte_at hg.Vb o.y
  have hob := ho.b
  have hoa := ho.a
  have hox := ho.x
  have hPCb := hg.PC
  have hIb := hg.I
  have hrb := hd.rnd
  have hkb := hd.keys
  have hdl := hg.dl
  have hsd := hg.sd
  refine SCall.enter (n := 7) (res1 2) (hP ▸ Try.func66) rfl rfl (by simp) (res1_ok rfl) ?_
  refine SX.seq_k fun K1 hK1 => ?_
  refine SX.region_d [some 2] rfl (fun ops hops => ?_)
  unfold Dsts at hops
  simp (maxSteps:=1000000)(dsimp:=false)(disch:=omega) only [go_sem, Φa, hP, hops]
  repeat' ((first | refine ⟨_, Cell.at 0 rfl rfl, ?_⟩ | refine ⟨0, _, _, _, rfl, (by rw [pcells_length]; omega), .inr (by first | decide | exact Nat.zero_le _), ?_⟩ | fail); try (with_reducible refine stI ?_); try simp (maxSteps:=1000000)(dsimp:=false)(disch:=omega) only [go_sem, Φa, hP, hops])
  refine hK1 _ _ ?_
  try clear hK1 K1
  refine SX.seq_k fun K2 hK2 => ?_
  refine SX.region_d [some 3, some 4, some 5, some 6, some 2] rfl (fun ops hops => ?_)
  unfold Dsts at hops
  simp (maxSteps:=1000000)(dsimp:=false)(disch:=omega) only [go_sem, Φa, hP, hops]
  repeat' ((first | refine ⟨_, Cell.at 0 rfl rfl, ?_⟩ | refine ⟨0, _, _, _, rfl, (by rw [pcells_length]; omega), .inr (by first | decide | exact Nat.zero_le _), ?_⟩ | (refine SCall.mono (x_spec (i := 0) hP rfl hx) ?_; rintro v_ L_ ⟨hv_, hL_⟩; rw [hv_, hL_]; clear hv_ hL_ v_ L_) | refine ⟨_, x_spec (i := 0) hP rfl hx, ?_⟩ | refine ⟨_, fun L0 hl0 => x_spec (i := 0) hP rfl hx, ?_⟩ | (refine SCall.mono (y_spec (i := 0) hP rfl hy) ?_; rintro v_ L_ ⟨hv_, hL_⟩; rw [hv_, hL_]; clear hv_ hL_ v_ L_) | refine ⟨_, y_spec (i := 0) hP rfl hy, ?_⟩ | refine ⟨_, fun L0 hl0 => y_spec (i := 0) hP rfl hy, ?_⟩ | (refine SCall.mono (let_spec hP hx hg.V) ?_; rintro v_ L_ ⟨hv_, hL_⟩; rw [hv_, hL_]; clear hv_ hL_ v_ L_) | refine ⟨_, let_spec hP hx hg.V, ?_⟩ | refine ⟨_, fun L0 hl0 => let_spec hP hx hg.V, ?_⟩ | (refine SCall.mono (skip_spec hP) ?_; rintro v_ L_ ⟨hv_, hL_⟩; rw [hv_, hL_]; clear hv_ hL_ v_ L_) | refine ⟨_, skip_spec hP, ?_⟩ | refine ⟨_, fun L0 hl0 => skip_spec hP, ?_⟩ | (refine SCall.mono (flagged_spec hP hx hg.V) ?_; rintro v_ L_ ⟨hv_, hL_⟩; rw [hv_, hL_]; clear hv_ hL_ v_ L_) | refine ⟨_, flagged_spec hP hx hg.V, ?_⟩ | refine ⟨_, fun L0 hl0 => flagged_spec hP hx hg.V, ?_⟩ | (refine SCall.mono (truth_spec hP _) ?_; rintro v_ L_ ⟨hv_, hL_⟩; rw [hv_, hL_]; clear hv_ hL_ v_ L_) | refine ⟨_, truth_spec hP _, ?_⟩ | refine ⟨_, fun L0 hl0 => truth_spec hP _, ?_⟩ | (refine SCall.mono (down_spec (i := 0) hP rfl hx hg.Vb) ?_; rintro v_ L_ ⟨hv_, hL_⟩; rw [hv_, hL_]; clear hv_ hL_ v_ L_) | refine ⟨_, down_spec (i := 0) hP rfl hx hg.Vb, ?_⟩ | refine ⟨_, fun L0 hl0 => down_spec (i := 0) hP rfl hx hg.Vb, ?_⟩ | (refine SCall.mono (behind_spec hP hx) ?_; rintro v_ L_ ⟨hv_, hL_⟩; rw [hv_, hL_]; clear hv_ hL_ v_ L_) | refine ⟨_, behind_spec hP hx, ?_⟩ | refine ⟨_, fun L0 hl0 => behind_spec hP hx, ?_⟩ | refine And.intro (by omega) ?_ | fail); try (with_reducible refine stI ?_); try simp (maxSteps:=1000000)(dsimp:=false)(disch:=omega) only [go_sem, Φa, hP, hops])
  refine hK2 _ _ ?_
  try clear hK2 K2
  refine SX.ret ?_
  simp only [andThen_normal, andThen_ret, andThen_exit, inBlk_normal, inBlk_ret, inBlk_exit, Nat.reduceEqDiff, if_true, if_false, ↓reduceIte, retQ_ret]
  try simp only [res0, res1, res2, res3, stK_e, go_sem, Φa, hP]
  refine ⟨_, _, Less.refl _, rfl, rfl, sv, pv, mv, q1, q2, q3, ?_, ?_⟩
  · first | rfl | (unfold skipG vG; simp only [decide_eq_true_eq, Bool.not_eq_true', decide_eq_false_iff_not]; done) | (unfold skipG; simp only [decide_eq_true_eq, Bool.not_eq_true', decide_eq_false_iff_not]; done) | (unfold skipG vG; simp only [decide_eq_true_eq, Bool.not_eq_true', decide_eq_false_iff_not]; rfl)
  · unfold skipG; dsimp only; split <;> exact ⟨hr.st, hr.pg, hr.mm⟩
set_option maxHeartbeats 1000000 in
set_option maxRecDepth 100000 in
theorem skipUp_spec {Γ : Ctx} (hP : Γ.P = Try.prog) {L : Hp} {gp : Nat} {g : GM} {sv pv mv : Value} {o : Ord} {f : Fnt} {fv : Value} {d : Feed} {q1 q2 q3 : Slot} (hg : OkG g) (hr : Rows g sv pv mv q1 q2 q3) (ho : OkO o) (hx : o.x < 16) (hy : o.y < 16) (hd : OkD d) :
    SCall Γ 67 #[(.pointer (some ⟨gp, 0, none⟩))] (PS gp g sv pv mv o f fv d :: q1 :: q2 :: q3 :: L) (mres gp o f fv d L (skipG g (!downG g o d))) := by
  have hbx := byte_at hg.Vb o.x
  have hby := byte_at hg.Vb o.y
  have hob := ho.b
  have hoa := ho.a
  have hox := ho.x
  have hPCb := hg.PC
  have hIb := hg.I
  have hrb := hd.rnd
  have hkb := hd.keys
  have hdl := hg.dl
  have hsd := hg.sd
  refine SCall.enter (n := 8) (res1 2) (hP ▸ Try.func67) rfl rfl (by simp) (res1_ok rfl) ?_
  refine SX.seq_k fun K1 hK1 => ?_
  refine SX.region_d [some 2] rfl (fun ops hops => ?_)
  unfold Dsts at hops
  simp (maxSteps:=1000000)(dsimp:=false)(disch:=omega) only [go_sem, Φa, hP, hops]
  repeat' ((first | refine ⟨_, Cell.at 0 rfl rfl, ?_⟩ | refine ⟨0, _, _, _, rfl, (by rw [pcells_length]; omega), .inr (by first | decide | exact Nat.zero_le _), ?_⟩ | fail); try (with_reducible refine stI ?_); try simp (maxSteps:=1000000)(dsimp:=false)(disch:=omega) only [go_sem, Φa, hP, hops])
  refine hK1 _ _ ?_
  try clear hK1 K1
  refine SX.seq_k fun K2 hK2 => ?_
  refine SX.region_d [some 3, some 4, some 5, some 6, some 7, some 2] rfl (fun ops hops => ?_)
  unfold Dsts at hops
  simp (maxSteps:=1000000)(dsimp:=false)(disch:=omega) only [go_sem, Φa, hP, hops]
  repeat' ((first | refine ⟨_, Cell.at 0 rfl rfl, ?_⟩ | refine ⟨0, _, _, _, rfl, (by rw [pcells_length]; omega), .inr (by first | decide | exact Nat.zero_le _), ?_⟩ | (refine SCall.mono (x_spec (i := 0) hP rfl hx) ?_; rintro v_ L_ ⟨hv_, hL_⟩; rw [hv_, hL_]; clear hv_ hL_ v_ L_) | refine ⟨_, x_spec (i := 0) hP rfl hx, ?_⟩ | refine ⟨_, fun L0 hl0 => x_spec (i := 0) hP rfl hx, ?_⟩ | (refine SCall.mono (y_spec (i := 0) hP rfl hy) ?_; rintro v_ L_ ⟨hv_, hL_⟩; rw [hv_, hL_]; clear hv_ hL_ v_ L_) | refine ⟨_, y_spec (i := 0) hP rfl hy, ?_⟩ | refine ⟨_, fun L0 hl0 => y_spec (i := 0) hP rfl hy, ?_⟩ | (refine SCall.mono (let_spec hP hx hg.V) ?_; rintro v_ L_ ⟨hv_, hL_⟩; rw [hv_, hL_]; clear hv_ hL_ v_ L_) | refine ⟨_, let_spec hP hx hg.V, ?_⟩ | refine ⟨_, fun L0 hl0 => let_spec hP hx hg.V, ?_⟩ | (refine SCall.mono (skip_spec hP) ?_; rintro v_ L_ ⟨hv_, hL_⟩; rw [hv_, hL_]; clear hv_ hL_ v_ L_) | refine ⟨_, skip_spec hP, ?_⟩ | refine ⟨_, fun L0 hl0 => skip_spec hP, ?_⟩ | (refine SCall.mono (flagged_spec hP hx hg.V) ?_; rintro v_ L_ ⟨hv_, hL_⟩; rw [hv_, hL_]; clear hv_ hL_ v_ L_) | refine ⟨_, flagged_spec hP hx hg.V, ?_⟩ | refine ⟨_, fun L0 hl0 => flagged_spec hP hx hg.V, ?_⟩ | (refine SCall.mono (truth_spec hP _) ?_; rintro v_ L_ ⟨hv_, hL_⟩; rw [hv_, hL_]; clear hv_ hL_ v_ L_) | refine ⟨_, truth_spec hP _, ?_⟩ | refine ⟨_, fun L0 hl0 => truth_spec hP _, ?_⟩ | (refine SCall.mono (down_spec (i := 0) hP rfl hx hg.Vb) ?_; rintro v_ L_ ⟨hv_, hL_⟩; rw [hv_, hL_]; clear hv_ hL_ v_ L_) | refine ⟨_, down_spec (i := 0) hP rfl hx hg.Vb, ?_⟩ | refine ⟨_, fun L0 hl0 => down_spec (i := 0) hP rfl hx hg.Vb, ?_⟩ | (refine SCall.mono (behind_spec hP hx) ?_; rintro v_ L_ ⟨hv_, hL_⟩; rw [hv_, hL_]; clear hv_ hL_ v_ L_) | refine ⟨_, behind_spec hP hx, ?_⟩ | refine ⟨_, fun L0 hl0 => behind_spec hP hx, ?_⟩ | refine And.intro (by omega) ?_ | fail); try (with_reducible refine stI ?_); try simp (maxSteps:=1000000)(dsimp:=false)(disch:=omega) only [go_sem, Φa, hP, hops])
  refine hK2 _ _ ?_
  try clear hK2 K2
  refine SX.ret ?_
  simp only [andThen_normal, andThen_ret, andThen_exit, inBlk_normal, inBlk_ret, inBlk_exit, Nat.reduceEqDiff, if_true, if_false, ↓reduceIte, retQ_ret]
  try simp only [res0, res1, res2, res3, stK_e, go_sem, Φa, hP]
  refine ⟨_, _, Less.refl _, rfl, rfl, sv, pv, mv, q1, q2, q3, ?_, ?_⟩
  · first | rfl | (unfold skipG vG; simp only [decide_eq_true_eq, Bool.not_eq_true', decide_eq_false_iff_not]; done) | (unfold skipG; simp only [decide_eq_true_eq, Bool.not_eq_true', decide_eq_false_iff_not]; done) | (unfold skipG vG; simp only [decide_eq_true_eq, Bool.not_eq_true', decide_eq_false_iff_not]; rfl)
  · unfold skipG; dsimp only; split <;> exact ⟨hr.st, hr.pg, hr.mm⟩
set_option maxHeartbeats 1000000 in
set_option maxRecDepth 100000 in
theorem set_spec {Γ : Ctx} (hP : Γ.P = Try.prog) {L : Hp} {gp : Nat} {g : GM} {sv pv mv : Value} {o : Ord} {f : Fnt} {fv : Value} {d : Feed} {q1 q2 q3 : Slot} (hg : OkG g) (hr : Rows g sv pv mv q1 q2 q3) (ho : OkO o) (hx : o.x < 16) (hy : o.y < 16) (hd : OkD d) :
    SCall Γ 54 #[(.pointer (some ⟨gp, 0, none⟩))] (PS gp g sv pv mv o f fv d :: q1 :: q2 :: q3 :: L) (mres gp o f fv d L (letG g o (o.b : Int))) := by
  have hbx := byte_at hg.Vb o.x
  have hby := byte_at hg.Vb o.y
  have hob := ho.b
  have hoa := ho.a
  have hox := ho.x
  have hPCb := hg.PC
  have hIb := hg.I
  have hrb := hd.rnd
  have hkb := hd.keys
  have hdl := hg.dl
  have hsd := hg.sd
  refine SCall.enter (n := 10) (res1 2) (hP ▸ Try.func54) rfl rfl (by simp) (res1_ok rfl) ?_
  refine SX.seq_k fun K1 hK1 => ?_
  refine SX.region_d [some 2] rfl (fun ops hops => ?_)
  unfold Dsts at hops
  simp (maxSteps:=1000000)(dsimp:=false)(disch:=omega) only [go_sem, Φa, hP, hops]
  repeat' ((first | refine ⟨_, Cell.at 0 rfl rfl, ?_⟩ | refine ⟨0, _, _, _, rfl, (by rw [pcells_length]; omega), .inr (by first | decide | exact Nat.zero_le _), ?_⟩ | fail); try (with_reducible refine stI ?_); try simp (maxSteps:=1000000)(dsimp:=false)(disch:=omega) only [go_sem, Φa, hP, hops])
  refine hK1 _ _ ?_
  try clear hK1 K1
  refine SX.seq_k fun K2 hK2 => ?_
  refine SX.region_d [some 3, some 4, some 5, some 6, some 7, some 8, some 9] rfl (fun ops hops => ?_)
  unfold Dsts at hops
  simp (maxSteps:=1000000)(dsimp:=false)(disch:=omega) only [go_sem, Φa, hP, hops]
  repeat' ((first | refine ⟨_, Cell.at 0 rfl rfl, ?_⟩ | refine ⟨0, _, _, _, rfl, (by rw [pcells_length]; omega), .inr (by first | decide | exact Nat.zero_le _), ?_⟩ | (refine SCall.mono (x_spec (i := 0) hP rfl hx) ?_; rintro v_ L_ ⟨hv_, hL_⟩; rw [hv_, hL_]; clear hv_ hL_ v_ L_) | refine ⟨_, x_spec (i := 0) hP rfl hx, ?_⟩ | refine ⟨_, fun L0 hl0 => x_spec (i := 0) hP rfl hx, ?_⟩ | (refine SCall.mono (y_spec (i := 0) hP rfl hy) ?_; rintro v_ L_ ⟨hv_, hL_⟩; rw [hv_, hL_]; clear hv_ hL_ v_ L_) | refine ⟨_, y_spec (i := 0) hP rfl hy, ?_⟩ | refine ⟨_, fun L0 hl0 => y_spec (i := 0) hP rfl hy, ?_⟩ | (refine SCall.mono (let_spec hP hx hg.V) ?_; rintro v_ L_ ⟨hv_, hL_⟩; rw [hv_, hL_]; clear hv_ hL_ v_ L_) | refine ⟨_, let_spec hP hx hg.V, ?_⟩ | refine ⟨_, fun L0 hl0 => let_spec hP hx hg.V, ?_⟩ | (refine SCall.mono (skip_spec hP) ?_; rintro v_ L_ ⟨hv_, hL_⟩; rw [hv_, hL_]; clear hv_ hL_ v_ L_) | refine ⟨_, skip_spec hP, ?_⟩ | refine ⟨_, fun L0 hl0 => skip_spec hP, ?_⟩ | (refine SCall.mono (flagged_spec hP hx hg.V) ?_; rintro v_ L_ ⟨hv_, hL_⟩; rw [hv_, hL_]; clear hv_ hL_ v_ L_) | refine ⟨_, flagged_spec hP hx hg.V, ?_⟩ | refine ⟨_, fun L0 hl0 => flagged_spec hP hx hg.V, ?_⟩ | (refine SCall.mono (truth_spec hP _) ?_; rintro v_ L_ ⟨hv_, hL_⟩; rw [hv_, hL_]; clear hv_ hL_ v_ L_) | refine ⟨_, truth_spec hP _, ?_⟩ | refine ⟨_, fun L0 hl0 => truth_spec hP _, ?_⟩ | (refine SCall.mono (down_spec (i := 0) hP rfl hx hg.Vb) ?_; rintro v_ L_ ⟨hv_, hL_⟩; rw [hv_, hL_]; clear hv_ hL_ v_ L_) | refine ⟨_, down_spec (i := 0) hP rfl hx hg.Vb, ?_⟩ | refine ⟨_, fun L0 hl0 => down_spec (i := 0) hP rfl hx hg.Vb, ?_⟩ | (refine SCall.mono (behind_spec hP hx) ?_; rintro v_ L_ ⟨hv_, hL_⟩; rw [hv_, hL_]; clear hv_ hL_ v_ L_) | refine ⟨_, behind_spec hP hx, ?_⟩ | refine ⟨_, fun L0 hl0 => behind_spec hP hx, ?_⟩ | refine And.intro (by omega) ?_ | fail); try (with_reducible refine stI ?_); try simp (maxSteps:=1000000)(dsimp:=false)(disch:=omega) only [go_sem, Φa, hP, hops])
  refine hK2 _ _ ?_
  try clear hK2 K2
  refine SX.seq_k fun K3 hK3 => ?_
  refine SX.region_d [some 2] rfl (fun ops hops => ?_)
  unfold Dsts at hops
  simp (maxSteps:=1000000)(dsimp:=false)(disch:=omega) only [go_sem, Φa, hP, hops]
  repeat' ((first | refine ⟨_, Cell.at 0 rfl rfl, ?_⟩ | refine ⟨0, _, _, _, rfl, (by rw [pcells_length]; omega), .inr (by first | decide | exact Nat.zero_le _), ?_⟩ | fail); try (with_reducible refine stI ?_); try simp (maxSteps:=1000000)(dsimp:=false)(disch:=omega) only [go_sem, Φa, hP, hops])
  refine hK3 _ _ ?_
  try clear hK3 K3
  refine SX.ret ?_
  simp only [andThen_normal, andThen_ret, andThen_exit, inBlk_normal, inBlk_ret, inBlk_exit, Nat.reduceEqDiff, if_true, if_false, ↓reduceIte, retQ_ret]
  try simp only [res0, res1, res2, res3, stK_e, go_sem, Φa, hP]
  exact ⟨_, _, Less.refl _, rfl, rfl, sv, pv, mv, q1, q2, q3, rfl, ⟨hr.st, hr.pg, hr.mm⟩⟩
set_option maxHeartbeats 1000000 in
set_option maxRecDepth 100000 in
theorem add_spec {Γ : Ctx} (hP : Γ.P = Try.prog) {L : Hp} {gp : Nat} {g : GM} {sv pv mv : Value} {o : Ord} {f : Fnt} {fv : Value} {d : Feed} {q1 q2 q3 : Slot} (hg : OkG g) (hr : Rows g sv pv mv q1 q2 q3) (ho : OkO o) (hx : o.x < 16) (hy : o.y < 16) (hd : OkD d) :
    SCall Γ 55 #[(.pointer (some ⟨gp, 0, none⟩))] (PS gp g sv pv mv o f fv d :: q1 :: q2 :: q3 :: L) (mres gp o f fv d L (letG g o (IntKind.u8.wrap (vG g o.x + (o.b : Int))))) := by
  have hbx := byte_at hg.Vb o.x
  have hby := byte_at hg.Vb o.y
  have hob := ho.b
  have hoa := ho.a
  have hox := ho.x
  have hPCb := hg.PC
  have hIb := hg.I
  have hrb := hd.rnd
  have hkb := hd.keys
  have hdl := hg.dl
  have hsd := hg.sd
  refine SCall.enter (n := 13) (res1 2) (hP ▸ Try.func55) rfl rfl (by simp) (res1_ok rfl) ?_
  refine SX.seq_k fun K1 hK1 => ?_
  refine SX.region_d [some 2] rfl (fun ops hops => ?_)
  unfold Dsts at hops
  simp (maxSteps:=1000000)(dsimp:=false)(disch:=omega) only [go_sem, Φa, hP, hops]
  repeat' ((first | refine ⟨_, Cell.at 0 rfl rfl, ?_⟩ | refine ⟨0, _, _, _, rfl, (by rw [pcells_length]; omega), .inr (by first | decide | exact Nat.zero_le _), ?_⟩ | fail); try (with_reducible refine stI ?_); try simp (maxSteps:=1000000)(dsimp:=false)(disch:=omega) only [go_sem, Φa, hP, hops])
  refine hK1 _ _ ?_
  try clear hK1 K1
  refine SX.seq_k fun K2 hK2 => ?_
  refine SX.drawn_d [(0, .q), (1, .q), (3, .q), (4, .q), (5, .q), (6, .q), (7, .q), (2, .e), (8, .q), (9, .t)] (fun L => L) (hP ▸ T.mixed) (by kernel_rfl) (by exact Less.refl _) [some 3, some 4, some 5, some 6, some 7, some 8, some 9, some 10, some 11, some 12] rfl (fun ops hops hopl => ?_)
  unfold Dsts at hops
  simp (maxSteps:=1000000)(dsimp:=false)(disch:=omega) only [go_sem, Φa, hP, hops, hopl]
  repeat' ((first | refine ⟨_, Cell.at 0 rfl rfl, ?_⟩ | refine ⟨0, _, _, _, rfl, (by rw [pcells_length]; omega), .inr (by first | decide | exact Nat.zero_le _), ?_⟩ | (refine SCall.mono (x_spec (i := 0) hP rfl hx) ?_; rintro v_ L_ ⟨hv_, hL_⟩; rw [hv_, hL_]; clear hv_ hL_ v_ L_) | refine ⟨_, x_spec (i := 0) hP rfl hx, ?_⟩ | refine ⟨_, fun L0 hl0 => x_spec (i := 0) hP rfl hx, ?_⟩ | (refine SCall.mono (y_spec (i := 0) hP rfl hy) ?_; rintro v_ L_ ⟨hv_, hL_⟩; rw [hv_, hL_]; clear hv_ hL_ v_ L_) | refine ⟨_, y_spec (i := 0) hP rfl hy, ?_⟩ | refine ⟨_, fun L0 hl0 => y_spec (i := 0) hP rfl hy, ?_⟩ | (refine SCall.mono (let_spec hP hx hg.V) ?_; rintro v_ L_ ⟨hv_, hL_⟩; rw [hv_, hL_]; clear hv_ hL_ v_ L_) | refine ⟨_, let_spec hP hx hg.V, ?_⟩ | refine ⟨_, fun L0 hl0 => let_spec hP hx hg.V, ?_⟩ | (refine SCall.mono (skip_spec hP) ?_; rintro v_ L_ ⟨hv_, hL_⟩; rw [hv_, hL_]; clear hv_ hL_ v_ L_) | refine ⟨_, skip_spec hP, ?_⟩ | refine ⟨_, fun L0 hl0 => skip_spec hP, ?_⟩ | (refine SCall.mono (flagged_spec hP hx hg.V) ?_; rintro v_ L_ ⟨hv_, hL_⟩; rw [hv_, hL_]; clear hv_ hL_ v_ L_) | refine ⟨_, flagged_spec hP hx hg.V, ?_⟩ | refine ⟨_, fun L0 hl0 => flagged_spec hP hx hg.V, ?_⟩ | (refine SCall.mono (truth_spec hP _) ?_; rintro v_ L_ ⟨hv_, hL_⟩; rw [hv_, hL_]; clear hv_ hL_ v_ L_) | refine ⟨_, truth_spec hP _, ?_⟩ | refine ⟨_, fun L0 hl0 => truth_spec hP _, ?_⟩ | (refine SCall.mono (down_spec (i := 0) hP rfl hx hg.Vb) ?_; rintro v_ L_ ⟨hv_, hL_⟩; rw [hv_, hL_]; clear hv_ hL_ v_ L_) | refine ⟨_, down_spec (i := 0) hP rfl hx hg.Vb, ?_⟩ | refine ⟨_, fun L0 hl0 => down_spec (i := 0) hP rfl hx hg.Vb, ?_⟩ | (refine SCall.mono (behind_spec hP hx) ?_; rintro v_ L_ ⟨hv_, hL_⟩; rw [hv_, hL_]; clear hv_ hL_ v_ L_) | refine ⟨_, behind_spec hP hx, ?_⟩ | refine ⟨_, fun L0 hl0 => behind_spec hP hx, ?_⟩ | refine And.intro (by omega) ?_ | fail); try (with_reducible refine stI ?_); try simp (maxSteps:=1000000)(dsimp:=false)(disch:=omega) only [go_sem, Φa, hP, hops, hopl])
  refine hK2 _ _ ?_
  try clear hK2 K2
  refine SX.live [] (fun T1 hT1 => ?_)
  clear hT1
  refine SX.seq_k fun K3 hK3 => ?_
  refine SX.region_d [some 2] rfl (fun ops hops => ?_)
  unfold Dsts at hops
  simp (maxSteps:=1000000)(dsimp:=false)(disch:=omega) only [go_sem, Φa, hP, hops]
  repeat' ((first | refine ⟨_, Cell.at 0 rfl rfl, ?_⟩ | refine ⟨0, _, _, _, rfl, (by rw [pcells_length]; omega), .inr (by first | decide | exact Nat.zero_le _), ?_⟩ | fail); try (with_reducible refine stI ?_); try simp (maxSteps:=1000000)(dsimp:=false)(disch:=omega) only [go_sem, Φa, hP, hops])
  refine hK3 _ _ ?_
  try clear hK3 K3
  refine SX.ret ?_
  simp only [andThen_normal, andThen_ret, andThen_exit, inBlk_normal, inBlk_ret, inBlk_exit, Nat.reduceEqDiff, if_true, if_false, ↓reduceIte, retQ_ret]
  try simp only [res0, res1, res2, res3, stK_e, go_sem, Φa, hP]
  exact ⟨_, _, Less.refl _, rfl, rfl, sv, pv, mv, q1, q2, q3, rfl, ⟨hr.st, hr.pg, hr.mm⟩⟩
set_option maxHeartbeats 1000000 in
set_option maxRecDepth 100000 in
theorem move_spec {Γ : Ctx} (hP : Γ.P = Try.prog) {L : Hp} {gp : Nat} {g : GM} {sv pv mv : Value} {o : Ord} {f : Fnt} {fv : Value} {d : Feed} {q1 q2 q3 : Slot} (hg : OkG g) (hr : Rows g sv pv mv q1 q2 q3) (ho : OkO o) (hx : o.x < 16) (hy : o.y < 16) (hd : OkD d) :
    SCall Γ 56 #[(.pointer (some ⟨gp, 0, none⟩))] (PS gp g sv pv mv o f fv d :: q1 :: q2 :: q3 :: L) (mres gp o f fv d L (letG g o (vG g o.y))) := by
  have hbx := byte_at hg.Vb o.x
  have hby := byte_at hg.Vb o.y
  have hob := ho.b
  have hoa := ho.a
  have hox := ho.x
  have hPCb := hg.PC
  have hIb := hg.I
  have hrb := hd.rnd
  have hkb := hd.keys
  have hdl := hg.dl
  have hsd := hg.sd
  refine SCall.enter (n := 7) (res1 2) (hP ▸ Try.func56) rfl rfl (by simp) (res1_ok rfl) ?_
  refine SX.seq_k fun K1 hK1 => ?_
  refine SX.region_d [some 2] rfl (fun ops hops => ?_)
  unfold Dsts at hops
  simp (maxSteps:=1000000)(dsimp:=false)(disch:=omega) only [go_sem, Φa, hP, hops]
  repeat' ((first | refine ⟨_, Cell.at 0 rfl rfl, ?_⟩ | refine ⟨0, _, _, _, rfl, (by rw [pcells_length]; omega), .inr (by first | decide | exact Nat.zero_le _), ?_⟩ | fail); try (with_reducible refine stI ?_); try simp (maxSteps:=1000000)(dsimp:=false)(disch:=omega) only [go_sem, Φa, hP, hops])
  refine hK1 _ _ ?_
  try clear hK1 K1
  refine SX.seq_k fun K2 hK2 => ?_
  refine SX.region_d [some 3, some 4, some 5, some 6] rfl (fun ops hops => ?_)
  unfold Dsts at hops
  simp (maxSteps:=1000000)(dsimp:=false)(disch:=omega) only [go_sem, Φa, hP, hops]
  repeat' ((first | refine ⟨_, Cell.at 0 rfl rfl, ?_⟩ | refine ⟨0, _, _, _, rfl, (by rw [pcells_length]; omega), .inr (by first | decide | exact Nat.zero_le _), ?_⟩ | (refine SCall.mono (x_spec (i := 0) hP rfl hx) ?_; rintro v_ L_ ⟨hv_, hL_⟩; rw [hv_, hL_]; clear hv_ hL_ v_ L_) | refine ⟨_, x_spec (i := 0) hP rfl hx, ?_⟩ | refine ⟨_, fun L0 hl0 => x_spec (i := 0) hP rfl hx, ?_⟩ | (refine SCall.mono (y_spec (i := 0) hP rfl hy) ?_; rintro v_ L_ ⟨hv_, hL_⟩; rw [hv_, hL_]; clear hv_ hL_ v_ L_) | refine ⟨_, y_spec (i := 0) hP rfl hy, ?_⟩ | refine ⟨_, fun L0 hl0 => y_spec (i := 0) hP rfl hy, ?_⟩ | (refine SCall.mono (let_spec hP hx hg.V) ?_; rintro v_ L_ ⟨hv_, hL_⟩; rw [hv_, hL_]; clear hv_ hL_ v_ L_) | refine ⟨_, let_spec hP hx hg.V, ?_⟩ | refine ⟨_, fun L0 hl0 => let_spec hP hx hg.V, ?_⟩ | (refine SCall.mono (skip_spec hP) ?_; rintro v_ L_ ⟨hv_, hL_⟩; rw [hv_, hL_]; clear hv_ hL_ v_ L_) | refine ⟨_, skip_spec hP, ?_⟩ | refine ⟨_, fun L0 hl0 => skip_spec hP, ?_⟩ | (refine SCall.mono (flagged_spec hP hx hg.V) ?_; rintro v_ L_ ⟨hv_, hL_⟩; rw [hv_, hL_]; clear hv_ hL_ v_ L_) | refine ⟨_, flagged_spec hP hx hg.V, ?_⟩ | refine ⟨_, fun L0 hl0 => flagged_spec hP hx hg.V, ?_⟩ | (refine SCall.mono (truth_spec hP _) ?_; rintro v_ L_ ⟨hv_, hL_⟩; rw [hv_, hL_]; clear hv_ hL_ v_ L_) | refine ⟨_, truth_spec hP _, ?_⟩ | refine ⟨_, fun L0 hl0 => truth_spec hP _, ?_⟩ | (refine SCall.mono (down_spec (i := 0) hP rfl hx hg.Vb) ?_; rintro v_ L_ ⟨hv_, hL_⟩; rw [hv_, hL_]; clear hv_ hL_ v_ L_) | refine ⟨_, down_spec (i := 0) hP rfl hx hg.Vb, ?_⟩ | refine ⟨_, fun L0 hl0 => down_spec (i := 0) hP rfl hx hg.Vb, ?_⟩ | (refine SCall.mono (behind_spec hP hx) ?_; rintro v_ L_ ⟨hv_, hL_⟩; rw [hv_, hL_]; clear hv_ hL_ v_ L_) | refine ⟨_, behind_spec hP hx, ?_⟩ | refine ⟨_, fun L0 hl0 => behind_spec hP hx, ?_⟩ | refine And.intro (by omega) ?_ | fail); try (with_reducible refine stI ?_); try simp (maxSteps:=1000000)(dsimp:=false)(disch:=omega) only [go_sem, Φa, hP, hops])
  refine hK2 _ _ ?_
  try clear hK2 K2
  refine SX.seq_k fun K3 hK3 => ?_
  refine SX.region_d [some 2] rfl (fun ops hops => ?_)
  unfold Dsts at hops
  simp (maxSteps:=1000000)(dsimp:=false)(disch:=omega) only [go_sem, Φa, hP, hops]
  repeat' ((first | refine ⟨_, Cell.at 0 rfl rfl, ?_⟩ | refine ⟨0, _, _, _, rfl, (by rw [pcells_length]; omega), .inr (by first | decide | exact Nat.zero_le _), ?_⟩ | fail); try (with_reducible refine stI ?_); try simp (maxSteps:=1000000)(dsimp:=false)(disch:=omega) only [go_sem, Φa, hP, hops])
  refine hK3 _ _ ?_
  try clear hK3 K3
  refine SX.ret ?_
  simp only [andThen_normal, andThen_ret, andThen_exit, inBlk_normal, inBlk_ret, inBlk_exit, Nat.reduceEqDiff, if_true, if_false, ↓reduceIte, retQ_ret]
  try simp only [res0, res1, res2, res3, stK_e, go_sem, Φa, hP]
  exact ⟨_, _, Less.refl _, rfl, rfl, sv, pv, mv, q1, q2, q3, rfl, ⟨hr.st, hr.pg, hr.mm⟩⟩
set_option maxHeartbeats 1000000 in
set_option maxRecDepth 100000 in
theorem or_spec {Γ : Ctx} (hP : Γ.P = Try.prog) {L : Hp} {gp : Nat} {g : GM} {sv pv mv : Value} {o : Ord} {f : Fnt} {fv : Value} {d : Feed} {q1 q2 q3 : Slot} (hg : OkG g) (hr : Rows g sv pv mv q1 q2 q3) (ho : OkO o) (hx : o.x < 16) (hy : o.y < 16) (hd : OkD d) :
    SCall Γ 57 #[(.pointer (some ⟨gp, 0, none⟩))] (PS gp g sv pv mv o f fv d :: q1 :: q2 :: q3 :: L) (mres gp o f fv d L (flagG g o (bits .or .u8 (vG g o.x) (vG g o.y)) 0)) := by
  have hbx := byte_at hg.Vb o.x
  have hby := byte_at hg.Vb o.y
  have hob := ho.b
  have hoa := ho.a
  have hox := ho.x
  have hPCb := hg.PC
  have hIb := hg.I
  have hrb := hd.rnd
  have hkb := hd.keys
  have hdl := hg.dl
  have hsd := hg.sd
  refine SCall.enter (n := 10) (res1 2) (hP ▸ Try.func57) rfl rfl (by simp) (res1_ok rfl) ?_
  refine SX.seq_k fun K1 hK1 => ?_
  refine SX.region_d [some 2] rfl (fun ops hops => ?_)
  unfold Dsts at hops
  simp (maxSteps:=1000000)(dsimp:=false)(disch:=omega) only [go_sem, Φa, hP, hops]
  repeat' ((first | refine ⟨_, Cell.at 0 rfl rfl, ?_⟩ | refine ⟨0, _, _, _, rfl, (by rw [pcells_length]; omega), .inr (by first | decide | exact Nat.zero_le _), ?_⟩ | fail); try (with_reducible refine stI ?_); try simp (maxSteps:=1000000)(dsimp:=false)(disch:=omega) only [go_sem, Φa, hP, hops])
  refine hK1 _ _ ?_
  try clear hK1 K1
  refine SX.seq_k fun K2 hK2 => ?_
  refine SX.region_d [some 3, some 4, some 5, some 6, some 7, some 8, some 9, some 2] rfl (fun ops hops => ?_)
  unfold Dsts at hops
  simp (maxSteps:=1000000)(dsimp:=false)(disch:=omega) only [go_sem, Φa, hP, hops]
  repeat' ((first | refine ⟨_, Cell.at 0 rfl rfl, ?_⟩ | refine ⟨0, _, _, _, rfl, (by rw [pcells_length]; omega), .inr (by first | decide | exact Nat.zero_le _), ?_⟩ | (refine SCall.mono (x_spec (i := 0) hP rfl hx) ?_; rintro v_ L_ ⟨hv_, hL_⟩; rw [hv_, hL_]; clear hv_ hL_ v_ L_) | refine ⟨_, x_spec (i := 0) hP rfl hx, ?_⟩ | refine ⟨_, fun L0 hl0 => x_spec (i := 0) hP rfl hx, ?_⟩ | (refine SCall.mono (y_spec (i := 0) hP rfl hy) ?_; rintro v_ L_ ⟨hv_, hL_⟩; rw [hv_, hL_]; clear hv_ hL_ v_ L_) | refine ⟨_, y_spec (i := 0) hP rfl hy, ?_⟩ | refine ⟨_, fun L0 hl0 => y_spec (i := 0) hP rfl hy, ?_⟩ | (refine SCall.mono (let_spec hP hx hg.V) ?_; rintro v_ L_ ⟨hv_, hL_⟩; rw [hv_, hL_]; clear hv_ hL_ v_ L_) | refine ⟨_, let_spec hP hx hg.V, ?_⟩ | refine ⟨_, fun L0 hl0 => let_spec hP hx hg.V, ?_⟩ | (refine SCall.mono (skip_spec hP) ?_; rintro v_ L_ ⟨hv_, hL_⟩; rw [hv_, hL_]; clear hv_ hL_ v_ L_) | refine ⟨_, skip_spec hP, ?_⟩ | refine ⟨_, fun L0 hl0 => skip_spec hP, ?_⟩ | (refine SCall.mono (flagged_spec hP hx hg.V) ?_; rintro v_ L_ ⟨hv_, hL_⟩; rw [hv_, hL_]; clear hv_ hL_ v_ L_) | refine ⟨_, flagged_spec hP hx hg.V, ?_⟩ | refine ⟨_, fun L0 hl0 => flagged_spec hP hx hg.V, ?_⟩ | (refine SCall.mono (truth_spec hP _) ?_; rintro v_ L_ ⟨hv_, hL_⟩; rw [hv_, hL_]; clear hv_ hL_ v_ L_) | refine ⟨_, truth_spec hP _, ?_⟩ | refine ⟨_, fun L0 hl0 => truth_spec hP _, ?_⟩ | (refine SCall.mono (down_spec (i := 0) hP rfl hx hg.Vb) ?_; rintro v_ L_ ⟨hv_, hL_⟩; rw [hv_, hL_]; clear hv_ hL_ v_ L_) | refine ⟨_, down_spec (i := 0) hP rfl hx hg.Vb, ?_⟩ | refine ⟨_, fun L0 hl0 => down_spec (i := 0) hP rfl hx hg.Vb, ?_⟩ | (refine SCall.mono (behind_spec hP hx) ?_; rintro v_ L_ ⟨hv_, hL_⟩; rw [hv_, hL_]; clear hv_ hL_ v_ L_) | refine ⟨_, behind_spec hP hx, ?_⟩ | refine ⟨_, fun L0 hl0 => behind_spec hP hx, ?_⟩ | refine And.intro (by omega) ?_ | fail); try (with_reducible refine stI ?_); try simp (maxSteps:=1000000)(dsimp:=false)(disch:=omega) only [go_sem, Φa, hP, hops])
  refine hK2 _ _ ?_
  try clear hK2 K2
  refine SX.ret ?_
  simp only [andThen_normal, andThen_ret, andThen_exit, inBlk_normal, inBlk_ret, inBlk_exit, Nat.reduceEqDiff, if_true, if_false, ↓reduceIte, retQ_ret]
  try simp only [res0, res1, res2, res3, stK_e, go_sem, Φa, hP]
  exact ⟨_, _, Less.refl _, rfl, rfl, sv, pv, mv, q1, q2, q3, rfl, ⟨hr.st, hr.pg, hr.mm⟩⟩
set_option maxHeartbeats 1000000 in
set_option maxRecDepth 100000 in
theorem and_spec {Γ : Ctx} (hP : Γ.P = Try.prog) {L : Hp} {gp : Nat} {g : GM} {sv pv mv : Value} {o : Ord} {f : Fnt} {fv : Value} {d : Feed} {q1 q2 q3 : Slot} (hg : OkG g) (hr : Rows g sv pv mv q1 q2 q3) (ho : OkO o) (hx : o.x < 16) (hy : o.y < 16) (hd : OkD d) :
    SCall Γ 58 #[(.pointer (some ⟨gp, 0, none⟩))] (PS gp g sv pv mv o f fv d :: q1 :: q2 :: q3 :: L) (mres gp o f fv d L (flagG g o (bits .and .u8 (vG g o.x) (vG g o.y)) 0)) := by
  have hbx := byte_at hg.Vb o.x
  have hby := byte_at hg.Vb o.y
  have hob := ho.b
  have hoa := ho.a
  have hox := ho.x
  have hPCb := hg.PC
  have hIb := hg.I
  have hrb := hd.rnd
  have hkb := hd.keys
  have hdl := hg.dl
  have hsd := hg.sd
  refine SCall.enter (n := 10) (res1 2) (hP ▸ Try.func58) rfl rfl (by simp) (res1_ok rfl) ?_
  refine SX.seq_k fun K1 hK1 => ?_
  refine SX.region_d [some 2] rfl (fun ops hops => ?_)
  unfold Dsts at hops
  simp (maxSteps:=1000000)(dsimp:=false)(disch:=omega) only [go_sem, Φa, hP, hops]
  repeat' ((first | refine ⟨_, Cell.at 0 rfl rfl, ?_⟩ | refine ⟨0, _, _, _, rfl, (by rw [pcells_length]; omega), .inr (by first | decide | exact Nat.zero_le _), ?_⟩ | fail); try (with_reducible refine stI ?_); try simp (maxSteps:=1000000)(dsimp:=false)(disch:=omega) only [go_sem, Φa, hP, hops])
  refine hK1 _ _ ?_
  try clear hK1 K1
  refine SX.seq_k fun K2 hK2 => ?_
  refine SX.region_d [some 3, some 4, some 5, some 6, some 7, some 8, some 9, some 2] rfl (fun ops hops => ?_)
  unfold Dsts at hops
  simp (maxSteps:=1000000)(dsimp:=false)(disch:=omega) only [go_sem, Φa, hP, hops]
  repeat' ((first | refine ⟨_, Cell.at 0 rfl rfl, ?_⟩ | refine ⟨0, _, _, _, rfl, (by rw [pcells_length]; omega), .inr (by first | decide | exact Nat.zero_le _), ?_⟩ | (refine SCall.mono (x_spec (i := 0) hP rfl hx) ?_; rintro v_ L_ ⟨hv_, hL_⟩; rw [hv_, hL_]; clear hv_ hL_ v_ L_) | refine ⟨_, x_spec (i := 0) hP rfl hx, ?_⟩ | refine ⟨_, fun L0 hl0 => x_spec (i := 0) hP rfl hx, ?_⟩ | (refine SCall.mono (y_spec (i := 0) hP rfl hy) ?_; rintro v_ L_ ⟨hv_, hL_⟩; rw [hv_, hL_]; clear hv_ hL_ v_ L_) | refine ⟨_, y_spec (i := 0) hP rfl hy, ?_⟩ | refine ⟨_, fun L0 hl0 => y_spec (i := 0) hP rfl hy, ?_⟩ | (refine SCall.mono (let_spec hP hx hg.V) ?_; rintro v_ L_ ⟨hv_, hL_⟩; rw [hv_, hL_]; clear hv_ hL_ v_ L_) | refine ⟨_, let_spec hP hx hg.V, ?_⟩ | refine ⟨_, fun L0 hl0 => let_spec hP hx hg.V, ?_⟩ | (refine SCall.mono (skip_spec hP) ?_; rintro v_ L_ ⟨hv_, hL_⟩; rw [hv_, hL_]; clear hv_ hL_ v_ L_) | refine ⟨_, skip_spec hP, ?_⟩ | refine ⟨_, fun L0 hl0 => skip_spec hP, ?_⟩ | (refine SCall.mono (flagged_spec hP hx hg.V) ?_; rintro v_ L_ ⟨hv_, hL_⟩; rw [hv_, hL_]; clear hv_ hL_ v_ L_) | refine ⟨_, flagged_spec hP hx hg.V, ?_⟩ | refine ⟨_, fun L0 hl0 => flagged_spec hP hx hg.V, ?_⟩ | (refine SCall.mono (truth_spec hP _) ?_; rintro v_ L_ ⟨hv_, hL_⟩; rw [hv_, hL_]; clear hv_ hL_ v_ L_) | refine ⟨_, truth_spec hP _, ?_⟩ | refine ⟨_, fun L0 hl0 => truth_spec hP _, ?_⟩ | (refine SCall.mono (down_spec (i := 0) hP rfl hx hg.Vb) ?_; rintro v_ L_ ⟨hv_, hL_⟩; rw [hv_, hL_]; clear hv_ hL_ v_ L_) | refine ⟨_, down_spec (i := 0) hP rfl hx hg.Vb, ?_⟩ | refine ⟨_, fun L0 hl0 => down_spec (i := 0) hP rfl hx hg.Vb, ?_⟩ | (refine SCall.mono (behind_spec hP hx) ?_; rintro v_ L_ ⟨hv_, hL_⟩; rw [hv_, hL_]; clear hv_ hL_ v_ L_) | refine ⟨_, behind_spec hP hx, ?_⟩ | refine ⟨_, fun L0 hl0 => behind_spec hP hx, ?_⟩ | refine And.intro (by omega) ?_ | fail); try (with_reducible refine stI ?_); try simp (maxSteps:=1000000)(dsimp:=false)(disch:=omega) only [go_sem, Φa, hP, hops])
  refine hK2 _ _ ?_
  try clear hK2 K2
  refine SX.ret ?_
  simp only [andThen_normal, andThen_ret, andThen_exit, inBlk_normal, inBlk_ret, inBlk_exit, Nat.reduceEqDiff, if_true, if_false, ↓reduceIte, retQ_ret]
  try simp only [res0, res1, res2, res3, stK_e, go_sem, Φa, hP]
  exact ⟨_, _, Less.refl _, rfl, rfl, sv, pv, mv, q1, q2, q3, rfl, ⟨hr.st, hr.pg, hr.mm⟩⟩
set_option maxHeartbeats 1000000 in
set_option maxRecDepth 100000 in
theorem point_spec {Γ : Ctx} (hP : Γ.P = Try.prog) {L : Hp} {gp : Nat} {g : GM} {sv pv mv : Value} {o : Ord} {f : Fnt} {fv : Value} {d : Feed} {q1 q2 q3 : Slot} (hg : OkG g) (hr : Rows g sv pv mv q1 q2 q3) (ho : OkO o) (hx : o.x < 16) (hy : o.y < 16) (hd : OkD d) :
    SCall Γ 62 #[(.pointer (some ⟨gp, 0, none⟩))] (PS gp g sv pv mv o f fv d :: q1 :: q2 :: q3 :: L) (mres gp o f fv d L (1, { g with I := (o.a : Int) })) := by
  have hbx := byte_at hg.Vb o.x
  have hby := byte_at hg.Vb o.y
  have hob := ho.b
  have hoa := ho.a
  have hox := ho.x
  have hPCb := hg.PC
  have hIb := hg.I
  have hrb := hd.rnd
  have hkb := hd.keys
  have hdl := hg.dl
  have hsd := hg.sd
  refine SCall.enter (n := 12) (res1 2) (hP ▸ Try.func62) rfl rfl (by simp) (res1_ok rfl) ?_
  refine SX.seq_k fun K1 hK1 => ?_
  refine SX.region_d [some 2] rfl (fun ops hops => ?_)
  unfold Dsts at hops
  simp (maxSteps:=1000000)(dsimp:=false)(disch:=omega) only [go_sem, Φa, hP, hops]
  repeat' ((first | refine ⟨_, Cell.at 0 rfl rfl, ?_⟩ | refine ⟨0, _, _, _, rfl, (by rw [pcells_length]; omega), .inr (by first | decide | exact Nat.zero_le _), ?_⟩ | fail); try (with_reducible refine stI ?_); try simp (maxSteps:=1000000)(dsimp:=false)(disch:=omega) only [go_sem, Φa, hP, hops])
  refine hK1 _ _ ?_
  try clear hK1 K1
  refine SX.seq_k fun K2 hK2 => ?_
  refine SX.region_d [some 3, some 4, some 5, some 6, some 7, some 8, some 9, some 10, some 11, none] rfl (fun ops hops => ?_)
  unfold Dsts at hops
  simp (maxSteps:=1000000)(dsimp:=false)(disch:=omega) only [go_sem, Φa, hP, hops]
  repeat' ((first | refine ⟨_, Cell.at 0 rfl rfl, ?_⟩ | refine ⟨0, _, _, _, rfl, (by rw [pcells_length]; omega), .inr (by first | decide | exact Nat.zero_le _), ?_⟩ | fail); try (with_reducible refine stI ?_); try simp (maxSteps:=1000000)(dsimp:=false)(disch:=omega) only [go_sem, Φa, hP, hops])
  refine hK2 _ _ ?_
  try clear hK2 K2
  refine SX.live [] (fun T1 hT1 => ?_)
  clear hT1
  refine SX.seq_k fun K3 hK3 => ?_
  refine SX.region_d [some 2] rfl (fun ops hops => ?_)
  unfold Dsts at hops
  simp (maxSteps:=1000000)(dsimp:=false)(disch:=omega) only [go_sem, Φa, hP, hops]
  repeat' ((first | refine ⟨_, Cell.at 0 rfl rfl, ?_⟩ | refine ⟨0, _, _, _, rfl, (by rw [pcells_length]; omega), .inr (by first | decide | exact Nat.zero_le _), ?_⟩ | fail); try (with_reducible refine stI ?_); try simp (maxSteps:=1000000)(dsimp:=false)(disch:=omega) only [go_sem, Φa, hP, hops])
  refine hK3 _ _ ?_
  try clear hK3 K3
  refine SX.ret ?_
  simp only [andThen_normal, andThen_ret, andThen_exit, inBlk_normal, inBlk_ret, inBlk_exit, Nat.reduceEqDiff, if_true, if_false, ↓reduceIte, retQ_ret]
  try simp only [res0, res1, res2, res3, stK_e, go_sem, Φa, hP]
  exact ⟨_, _, Less.refl _, rfl, rfl, sv, pv, mv, q1, q2, q3, rfl, ⟨hr.st, hr.pg, hr.mm⟩⟩
set_option maxHeartbeats 1000000 in
set_option maxRecDepth 100000 in
theorem random_spec {Γ : Ctx} (hP : Γ.P = Try.prog) {L : Hp} {gp : Nat} {g : GM} {sv pv mv : Value} {o : Ord} {f : Fnt} {fv : Value} {d : Feed} {q1 q2 q3 : Slot} (hg : OkG g) (hr : Rows g sv pv mv q1 q2 q3) (ho : OkO o) (hx : o.x < 16) (hy : o.y < 16) (hd : OkD d) :
    SCall Γ 64 #[(.pointer (some ⟨gp, 0, none⟩))] (PS gp g sv pv mv o f fv d :: q1 :: q2 :: q3 :: L) (mres gp o f fv d L (letG g o (bits .and .u8 d.rnd (o.b : Int)))) := by
  have hbx := byte_at hg.Vb o.x
  have hby := byte_at hg.Vb o.y
  have hob := ho.b
  have hoa := ho.a
  have hox := ho.x
  have hPCb := hg.PC
  have hIb := hg.I
  have hrb := hd.rnd
  have hkb := hd.keys
  have hdl := hg.dl
  have hsd := hg.sd
  refine SCall.enter (n := 16) (res1 2) (hP ▸ Try.func64) rfl rfl (by simp) (res1_ok rfl) ?_
  refine SX.seq_k fun K1 hK1 => ?_
  refine SX.region_d [some 2] rfl (fun ops hops => ?_)
  unfold Dsts at hops
  simp (maxSteps:=1000000)(dsimp:=false)(disch:=omega) only [go_sem, Φa, hP, hops]
  repeat' ((first | refine ⟨_, Cell.at 0 rfl rfl, ?_⟩ | refine ⟨0, _, _, _, rfl, (by rw [pcells_length]; omega), .inr (by first | decide | exact Nat.zero_le _), ?_⟩ | fail); try (with_reducible refine stI ?_); try simp (maxSteps:=1000000)(dsimp:=false)(disch:=omega) only [go_sem, Φa, hP, hops])
  refine hK1 _ _ ?_
  try clear hK1 K1
  refine SX.seq_k fun K2 hK2 => ?_
  refine SX.drawn_d [(0, .q), (1, .q), (2, .q), (3, .q), (4, .q), (5, .q), (6, .q), (7, .q), (8, .q), (9, .q), (10, .q), (11, .q), (12, .t)] (fun L => L) (hP ▸ T.mixed) (by kernel_rfl) (by exact Less.refl _) [some 3, some 4, some 5, some 6, some 7, some 8, some 9, some 10, some 11, some 12, some 13, some 14, some 15] rfl (fun ops hops hopl => ?_)
  unfold Dsts at hops
  simp (maxSteps:=1000000)(dsimp:=false)(disch:=omega) only [go_sem, Φa, hP, hops, hopl]
  repeat' ((first | refine ⟨_, Cell.at 0 rfl rfl, ?_⟩ | refine ⟨0, _, _, _, rfl, (by rw [pcells_length]; omega), .inr (by first | decide | exact Nat.zero_le _), ?_⟩ | (refine SCall.mono (x_spec (i := 0) hP rfl hx) ?_; rintro v_ L_ ⟨hv_, hL_⟩; rw [hv_, hL_]; clear hv_ hL_ v_ L_) | refine ⟨_, x_spec (i := 0) hP rfl hx, ?_⟩ | refine ⟨_, fun L0 hl0 => x_spec (i := 0) hP rfl hx, ?_⟩ | (refine SCall.mono (y_spec (i := 0) hP rfl hy) ?_; rintro v_ L_ ⟨hv_, hL_⟩; rw [hv_, hL_]; clear hv_ hL_ v_ L_) | refine ⟨_, y_spec (i := 0) hP rfl hy, ?_⟩ | refine ⟨_, fun L0 hl0 => y_spec (i := 0) hP rfl hy, ?_⟩ | (refine SCall.mono (let_spec hP hx hg.V) ?_; rintro v_ L_ ⟨hv_, hL_⟩; rw [hv_, hL_]; clear hv_ hL_ v_ L_) | refine ⟨_, let_spec hP hx hg.V, ?_⟩ | refine ⟨_, fun L0 hl0 => let_spec hP hx hg.V, ?_⟩ | (refine SCall.mono (skip_spec hP) ?_; rintro v_ L_ ⟨hv_, hL_⟩; rw [hv_, hL_]; clear hv_ hL_ v_ L_) | refine ⟨_, skip_spec hP, ?_⟩ | refine ⟨_, fun L0 hl0 => skip_spec hP, ?_⟩ | (refine SCall.mono (flagged_spec hP hx hg.V) ?_; rintro v_ L_ ⟨hv_, hL_⟩; rw [hv_, hL_]; clear hv_ hL_ v_ L_) | refine ⟨_, flagged_spec hP hx hg.V, ?_⟩ | refine ⟨_, fun L0 hl0 => flagged_spec hP hx hg.V, ?_⟩ | (refine SCall.mono (truth_spec hP _) ?_; rintro v_ L_ ⟨hv_, hL_⟩; rw [hv_, hL_]; clear hv_ hL_ v_ L_) | refine ⟨_, truth_spec hP _, ?_⟩ | refine ⟨_, fun L0 hl0 => truth_spec hP _, ?_⟩ | (refine SCall.mono (down_spec (i := 0) hP rfl hx hg.Vb) ?_; rintro v_ L_ ⟨hv_, hL_⟩; rw [hv_, hL_]; clear hv_ hL_ v_ L_) | refine ⟨_, down_spec (i := 0) hP rfl hx hg.Vb, ?_⟩ | refine ⟨_, fun L0 hl0 => down_spec (i := 0) hP rfl hx hg.Vb, ?_⟩ | (refine SCall.mono (behind_spec hP hx) ?_; rintro v_ L_ ⟨hv_, hL_⟩; rw [hv_, hL_]; clear hv_ hL_ v_ L_) | refine ⟨_, behind_spec hP hx, ?_⟩ | refine ⟨_, fun L0 hl0 => behind_spec hP hx, ?_⟩ | refine And.intro (by omega) ?_ | fail); try (with_reducible refine stI ?_); try simp (maxSteps:=1000000)(dsimp:=false)(disch:=omega) only [go_sem, Φa, hP, hops, hopl])
  refine hK2 _ _ ?_
  try clear hK2 K2
  refine SX.live [] (fun T1 hT1 => ?_)
  clear hT1
  refine SX.seq_k fun K3 hK3 => ?_
  refine SX.region_d [some 2] rfl (fun ops hops => ?_)
  unfold Dsts at hops
  simp (maxSteps:=1000000)(dsimp:=false)(disch:=omega) only [go_sem, Φa, hP, hops]
  repeat' ((first | refine ⟨_, Cell.at 0 rfl rfl, ?_⟩ | refine ⟨0, _, _, _, rfl, (by rw [pcells_length]; omega), .inr (by first | decide | exact Nat.zero_le _), ?_⟩ | fail); try (with_reducible refine stI ?_); try simp (maxSteps:=1000000)(dsimp:=false)(disch:=omega) only [go_sem, Φa, hP, hops])
  refine hK3 _ _ ?_
  try clear hK3 K3
  refine SX.ret ?_
  simp only [andThen_normal, andThen_ret, andThen_exit, inBlk_normal, inBlk_ret, inBlk_exit, Nat.reduceEqDiff, if_true, if_false, ↓reduceIte, retQ_ret]
  try simp only [res0, res1, res2, res3, stK_e, go_sem, Φa, hP]
  exact ⟨_, _, Less.refl _, rfl, rfl, sv, pv, mv, q1, q2, q3, rfl, ⟨hr.st, hr.pg, hr.mm⟩⟩
set_option maxHeartbeats 1000000 in
set_option maxRecDepth 100000 in
theorem timer_spec {Γ : Ctx} (hP : Γ.P = Try.prog) {L : Hp} {gp : Nat} {g : GM} {sv pv mv : Value} {o : Ord} {f : Fnt} {fv : Value} {d : Feed} {q1 q2 q3 : Slot} (hg : OkG g) (hr : Rows g sv pv mv q1 q2 q3) (ho : OkO o) (hx : o.x < 16) (hy : o.y < 16) (hd : OkD d) :
    SCall Γ 68 #[(.pointer (some ⟨gp, 0, none⟩))] (PS gp g sv pv mv o f fv d :: q1 :: q2 :: q3 :: L) (mres gp o f fv d L (letG g o g.dl)) := by
  have hbx := byte_at hg.Vb o.x
  have hby := byte_at hg.Vb o.y
  have hob := ho.b
  have hoa := ho.a
  have hox := ho.x
  have hPCb := hg.PC
  have hIb := hg.I
  have hrb := hd.rnd
  have hkb := hd.keys
  have hdl := hg.dl
  have hsd := hg.sd
  refine SCall.enter (n := 10) (res1 2) (hP ▸ Try.func68) rfl rfl (by simp) (res1_ok rfl) ?_
  refine SX.seq_k fun K1 hK1 => ?_
  refine SX.region_d [some 2] rfl (fun ops hops => ?_)
  unfold Dsts at hops
  simp (maxSteps:=1000000)(dsimp:=false)(disch:=omega) only [go_sem, Φa, hP, hops]
  repeat' ((first | refine ⟨_, Cell.at 0 rfl rfl, ?_⟩ | refine ⟨0, _, _, _, rfl, (by rw [pcells_length]; omega), .inr (by first | decide | exact Nat.zero_le _), ?_⟩ | fail); try (with_reducible refine stI ?_); try simp (maxSteps:=1000000)(dsimp:=false)(disch:=omega) only [go_sem, Φa, hP, hops])
  refine hK1 _ _ ?_
  try clear hK1 K1
  refine SX.seq_k fun K2 hK2 => ?_
  refine SX.region_d [some 3, some 4, some 5, some 6, some 7, some 8, some 9] rfl (fun ops hops => ?_)
  unfold Dsts at hops
  simp (maxSteps:=1000000)(dsimp:=false)(disch:=omega) only [go_sem, Φa, hP, hops]
  repeat' ((first | refine ⟨_, Cell.at 0 rfl rfl, ?_⟩ | refine ⟨0, _, _, _, rfl, (by rw [pcells_length]; omega), .inr (by first | decide | exact Nat.zero_le _), ?_⟩ | (refine SCall.mono (x_spec (i := 0) hP rfl hx) ?_; rintro v_ L_ ⟨hv_, hL_⟩; rw [hv_, hL_]; clear hv_ hL_ v_ L_) | refine ⟨_, x_spec (i := 0) hP rfl hx, ?_⟩ | refine ⟨_, fun L0 hl0 => x_spec (i := 0) hP rfl hx, ?_⟩ | (refine SCall.mono (y_spec (i := 0) hP rfl hy) ?_; rintro v_ L_ ⟨hv_, hL_⟩; rw [hv_, hL_]; clear hv_ hL_ v_ L_) | refine ⟨_, y_spec (i := 0) hP rfl hy, ?_⟩ | refine ⟨_, fun L0 hl0 => y_spec (i := 0) hP rfl hy, ?_⟩ | (refine SCall.mono (let_spec hP hx hg.V) ?_; rintro v_ L_ ⟨hv_, hL_⟩; rw [hv_, hL_]; clear hv_ hL_ v_ L_) | refine ⟨_, let_spec hP hx hg.V, ?_⟩ | refine ⟨_, fun L0 hl0 => let_spec hP hx hg.V, ?_⟩ | (refine SCall.mono (skip_spec hP) ?_; rintro v_ L_ ⟨hv_, hL_⟩; rw [hv_, hL_]; clear hv_ hL_ v_ L_) | refine ⟨_, skip_spec hP, ?_⟩ | refine ⟨_, fun L0 hl0 => skip_spec hP, ?_⟩ | (refine SCall.mono (flagged_spec hP hx hg.V) ?_; rintro v_ L_ ⟨hv_, hL_⟩; rw [hv_, hL_]; clear hv_ hL_ v_ L_) | refine ⟨_, flagged_spec hP hx hg.V, ?_⟩ | refine ⟨_, fun L0 hl0 => flagged_spec hP hx hg.V, ?_⟩ | (refine SCall.mono (truth_spec hP _) ?_; rintro v_ L_ ⟨hv_, hL_⟩; rw [hv_, hL_]; clear hv_ hL_ v_ L_) | refine ⟨_, truth_spec hP _, ?_⟩ | refine ⟨_, fun L0 hl0 => truth_spec hP _, ?_⟩ | (refine SCall.mono (down_spec (i := 0) hP rfl hx hg.Vb) ?_; rintro v_ L_ ⟨hv_, hL_⟩; rw [hv_, hL_]; clear hv_ hL_ v_ L_) | refine ⟨_, down_spec (i := 0) hP rfl hx hg.Vb, ?_⟩ | refine ⟨_, fun L0 hl0 => down_spec (i := 0) hP rfl hx hg.Vb, ?_⟩ | (refine SCall.mono (behind_spec hP hx) ?_; rintro v_ L_ ⟨hv_, hL_⟩; rw [hv_, hL_]; clear hv_ hL_ v_ L_) | refine ⟨_, behind_spec hP hx, ?_⟩ | refine ⟨_, fun L0 hl0 => behind_spec hP hx, ?_⟩ | refine And.intro (by omega) ?_ | fail); try (with_reducible refine stI ?_); try simp (maxSteps:=1000000)(dsimp:=false)(disch:=omega) only [go_sem, Φa, hP, hops])
  refine hK2 _ _ ?_
  try clear hK2 K2
  refine SX.seq_k fun K3 hK3 => ?_
  refine SX.region_d [some 2] rfl (fun ops hops => ?_)
  unfold Dsts at hops
  simp (maxSteps:=1000000)(dsimp:=false)(disch:=omega) only [go_sem, Φa, hP, hops]
  repeat' ((first | refine ⟨_, Cell.at 0 rfl rfl, ?_⟩ | refine ⟨0, _, _, _, rfl, (by rw [pcells_length]; omega), .inr (by first | decide | exact Nat.zero_le _), ?_⟩ | fail); try (with_reducible refine stI ?_); try simp (maxSteps:=1000000)(dsimp:=false)(disch:=omega) only [go_sem, Φa, hP, hops])
  refine hK3 _ _ ?_
  try clear hK3 K3
  refine SX.ret ?_
  simp only [andThen_normal, andThen_ret, andThen_exit, inBlk_normal, inBlk_ret, inBlk_exit, Nat.reduceEqDiff, if_true, if_false, ↓reduceIte, retQ_ret]
  try simp only [res0, res1, res2, res3, stK_e, go_sem, Φa, hP]
  exact ⟨_, _, Less.refl _, rfl, rfl, sv, pv, mv, q1, q2, q3, rfl, ⟨hr.st, hr.pg, hr.mm⟩⟩
set_option maxHeartbeats 1000000 in
set_option maxRecDepth 100000 in
theorem delay_spec {Γ : Ctx} (hP : Γ.P = Try.prog) {L : Hp} {gp : Nat} {g : GM} {sv pv mv : Value} {o : Ord} {f : Fnt} {fv : Value} {d : Feed} {q1 q2 q3 : Slot} (hg : OkG g) (hr : Rows g sv pv mv q1 q2 q3) (ho : OkO o) (hx : o.x < 16) (hy : o.y < 16) (hd : OkD d) :
    SCall Γ 70 #[(.pointer (some ⟨gp, 0, none⟩))] (PS gp g sv pv mv o f fv d :: q1 :: q2 :: q3 :: L) (mres gp o f fv d L (1, { g with dl := vG g o.x })) := by
  have hbx := byte_at hg.Vb o.x
  have hby := byte_at hg.Vb o.y
  have hob := ho.b
  have hoa := ho.a
  have hox := ho.x
  have hPCb := hg.PC
  have hIb := hg.I
  have hrb := hd.rnd
  have hkb := hd.keys
  have hdl := hg.dl
  have hsd := hg.sd
  refine SCall.enter (n := 9) (res1 2) (hP ▸ Try.func70) rfl rfl (by simp) (res1_ok rfl) ?_
  refine SX.seq_k fun K1 hK1 => ?_
  refine SX.region_d [some 2] rfl (fun ops hops => ?_)
  unfold Dsts at hops
  simp (maxSteps:=1000000)(dsimp:=false)(disch:=omega) only [go_sem, Φa, hP, hops]
  repeat' ((first | refine ⟨_, Cell.at 0 rfl rfl, ?_⟩ | refine ⟨0, _, _, _, rfl, (by rw [pcells_length]; omega), .inr (by first | decide | exact Nat.zero_le _), ?_⟩ | fail); try (with_reducible refine stI ?_); try simp (maxSteps:=1000000)(dsimp:=false)(disch:=omega) only [go_sem, Φa, hP, hops])
  refine hK1 _ _ ?_
  try clear hK1 K1
  refine SX.seq_k fun K2 hK2 => ?_
  refine SX.region_d [some 3, some 4, some 5, some 6, some 7, some 8, none] rfl (fun ops hops => ?_)
  unfold Dsts at hops
  simp (maxSteps:=1000000)(dsimp:=false)(disch:=omega) only [go_sem, Φa, hP, hops]
  repeat' ((first | refine ⟨_, Cell.at 0 rfl rfl, ?_⟩ | refine ⟨0, _, _, _, rfl, (by rw [pcells_length]; omega), .inr (by first | decide | exact Nat.zero_le _), ?_⟩ | (refine SCall.mono (x_spec (i := 0) hP rfl hx) ?_; rintro v_ L_ ⟨hv_, hL_⟩; rw [hv_, hL_]; clear hv_ hL_ v_ L_) | refine ⟨_, x_spec (i := 0) hP rfl hx, ?_⟩ | refine ⟨_, fun L0 hl0 => x_spec (i := 0) hP rfl hx, ?_⟩ | (refine SCall.mono (y_spec (i := 0) hP rfl hy) ?_; rintro v_ L_ ⟨hv_, hL_⟩; rw [hv_, hL_]; clear hv_ hL_ v_ L_) | refine ⟨_, y_spec (i := 0) hP rfl hy, ?_⟩ | refine ⟨_, fun L0 hl0 => y_spec (i := 0) hP rfl hy, ?_⟩ | (refine SCall.mono (let_spec hP hx hg.V) ?_; rintro v_ L_ ⟨hv_, hL_⟩; rw [hv_, hL_]; clear hv_ hL_ v_ L_) | refine ⟨_, let_spec hP hx hg.V, ?_⟩ | refine ⟨_, fun L0 hl0 => let_spec hP hx hg.V, ?_⟩ | (refine SCall.mono (skip_spec hP) ?_; rintro v_ L_ ⟨hv_, hL_⟩; rw [hv_, hL_]; clear hv_ hL_ v_ L_) | refine ⟨_, skip_spec hP, ?_⟩ | refine ⟨_, fun L0 hl0 => skip_spec hP, ?_⟩ | (refine SCall.mono (flagged_spec hP hx hg.V) ?_; rintro v_ L_ ⟨hv_, hL_⟩; rw [hv_, hL_]; clear hv_ hL_ v_ L_) | refine ⟨_, flagged_spec hP hx hg.V, ?_⟩ | refine ⟨_, fun L0 hl0 => flagged_spec hP hx hg.V, ?_⟩ | (refine SCall.mono (truth_spec hP _) ?_; rintro v_ L_ ⟨hv_, hL_⟩; rw [hv_, hL_]; clear hv_ hL_ v_ L_) | refine ⟨_, truth_spec hP _, ?_⟩ | refine ⟨_, fun L0 hl0 => truth_spec hP _, ?_⟩ | (refine SCall.mono (down_spec (i := 0) hP rfl hx hg.Vb) ?_; rintro v_ L_ ⟨hv_, hL_⟩; rw [hv_, hL_]; clear hv_ hL_ v_ L_) | refine ⟨_, down_spec (i := 0) hP rfl hx hg.Vb, ?_⟩ | refine ⟨_, fun L0 hl0 => down_spec (i := 0) hP rfl hx hg.Vb, ?_⟩ | (refine SCall.mono (behind_spec hP hx) ?_; rintro v_ L_ ⟨hv_, hL_⟩; rw [hv_, hL_]; clear hv_ hL_ v_ L_) | refine ⟨_, behind_spec hP hx, ?_⟩ | refine ⟨_, fun L0 hl0 => behind_spec hP hx, ?_⟩ | refine And.intro (by omega) ?_ | fail); try (with_reducible refine stI ?_); try simp (maxSteps:=1000000)(dsimp:=false)(disch:=omega) only [go_sem, Φa, hP, hops])
  refine hK2 _ _ ?_
  try clear hK2 K2
  refine SX.seq_k fun K3 hK3 => ?_
  refine SX.region_d [some 2] rfl (fun ops hops => ?_)
  unfold Dsts at hops
  simp (maxSteps:=1000000)(dsimp:=false)(disch:=omega) only [go_sem, Φa, hP, hops]
  repeat' ((first | refine ⟨_, Cell.at 0 rfl rfl, ?_⟩ | refine ⟨0, _, _, _, rfl, (by rw [pcells_length]; omega), .inr (by first | decide | exact Nat.zero_le _), ?_⟩ | fail); try (with_reducible refine stI ?_); try simp (maxSteps:=1000000)(dsimp:=false)(disch:=omega) only [go_sem, Φa, hP, hops])
  refine hK3 _ _ ?_
  try clear hK3 K3
  refine SX.ret ?_
  simp only [andThen_normal, andThen_ret, andThen_exit, inBlk_normal, inBlk_ret, inBlk_exit, Nat.reduceEqDiff, if_true, if_false, ↓reduceIte, retQ_ret]
  try simp only [res0, res1, res2, res3, stK_e, go_sem, Φa, hP]
  exact ⟨_, _, Less.refl _, rfl, rfl, sv, pv, mv, q1, q2, q3, rfl, ⟨hr.st, hr.pg, hr.mm⟩⟩
set_option maxHeartbeats 1000000 in
set_option maxRecDepth 100000 in
theorem sound_spec {Γ : Ctx} (hP : Γ.P = Try.prog) {L : Hp} {gp : Nat} {g : GM} {sv pv mv : Value} {o : Ord} {f : Fnt} {fv : Value} {d : Feed} {q1 q2 q3 : Slot} (hg : OkG g) (hr : Rows g sv pv mv q1 q2 q3) (ho : OkO o) (hx : o.x < 16) (hy : o.y < 16) (hd : OkD d) :
    SCall Γ 71 #[(.pointer (some ⟨gp, 0, none⟩))] (PS gp g sv pv mv o f fv d :: q1 :: q2 :: q3 :: L) (mres gp o f fv d L (1, { g with sd := vG g o.x })) := by
  have hbx := byte_at hg.Vb o.x
  have hby := byte_at hg.Vb o.y
  have hob := ho.b
  have hoa := ho.a
  have hox := ho.x
  have hPCb := hg.PC
  have hIb := hg.I
  have hrb := hd.rnd
  have hkb := hd.keys
  have hdl := hg.dl
  have hsd := hg.sd
  refine SCall.enter (n := 9) (res1 2) (hP ▸ Try.func71) rfl rfl (by simp) (res1_ok rfl) ?_
  refine SX.seq_k fun K1 hK1 => ?_
  refine SX.region_d [some 2] rfl (fun ops hops => ?_)
  unfold Dsts at hops
  simp (maxSteps:=1000000)(dsimp:=false)(disch:=omega) only [go_sem, Φa, hP, hops]
  repeat' ((first | refine ⟨_, Cell.at 0 rfl rfl, ?_⟩ | refine ⟨0, _, _, _, rfl, (by rw [pcells_length]; omega), .inr (by first | decide | exact Nat.zero_le _), ?_⟩ | fail); try (with_reducible refine stI ?_); try simp (maxSteps:=1000000)(dsimp:=false)(disch:=omega) only [go_sem, Φa, hP, hops])
  refine hK1 _ _ ?_
  try clear hK1 K1
  refine SX.seq_k fun K2 hK2 => ?_
  refine SX.region_d [some 3, some 4, some 5, some 6, some 7, some 8, none] rfl (fun ops hops => ?_)
  unfold Dsts at hops
  simp (maxSteps:=1000000)(dsimp:=false)(disch:=omega) only [go_sem, Φa, hP, hops]
  repeat' ((first | refine ⟨_, Cell.at 0 rfl rfl, ?_⟩ | refine ⟨0, _, _, _, rfl, (by rw [pcells_length]; omega), .inr (by first | decide | exact Nat.zero_le _), ?_⟩ | (refine SCall.mono (x_spec (i := 0) hP rfl hx) ?_; rintro v_ L_ ⟨hv_, hL_⟩; rw [hv_, hL_]; clear hv_ hL_ v_ L_) | refine ⟨_, x_spec (i := 0) hP rfl hx, ?_⟩ | refine ⟨_, fun L0 hl0 => x_spec (i := 0) hP rfl hx, ?_⟩ | (refine SCall.mono (y_spec (i := 0) hP rfl hy) ?_; rintro v_ L_ ⟨hv_, hL_⟩; rw [hv_, hL_]; clear hv_ hL_ v_ L_) | refine ⟨_, y_spec (i := 0) hP rfl hy, ?_⟩ | refine ⟨_, fun L0 hl0 => y_spec (i := 0) hP rfl hy, ?_⟩ | (refine SCall.mono (let_spec hP hx hg.V) ?_; rintro v_ L_ ⟨hv_, hL_⟩; rw [hv_, hL_]; clear hv_ hL_ v_ L_) | refine ⟨_, let_spec hP hx hg.V, ?_⟩ | refine ⟨_, fun L0 hl0 => let_spec hP hx hg.V, ?_⟩ | (refine SCall.mono (skip_spec hP) ?_; rintro v_ L_ ⟨hv_, hL_⟩; rw [hv_, hL_]; clear hv_ hL_ v_ L_) | refine ⟨_, skip_spec hP, ?_⟩ | refine ⟨_, fun L0 hl0 => skip_spec hP, ?_⟩ | (refine SCall.mono (flagged_spec hP hx hg.V) ?_; rintro v_ L_ ⟨hv_, hL_⟩; rw [hv_, hL_]; clear hv_ hL_ v_ L_) | refine ⟨_, flagged_spec hP hx hg.V, ?_⟩ | refine ⟨_, fun L0 hl0 => flagged_spec hP hx hg.V, ?_⟩ | (refine SCall.mono (truth_spec hP _) ?_; rintro v_ L_ ⟨hv_, hL_⟩; rw [hv_, hL_]; clear hv_ hL_ v_ L_) | refine ⟨_, truth_spec hP _, ?_⟩ | refine ⟨_, fun L0 hl0 => truth_spec hP _, ?_⟩ | (refine SCall.mono (down_spec (i := 0) hP rfl hx hg.Vb) ?_; rintro v_ L_ ⟨hv_, hL_⟩; rw [hv_, hL_]; clear hv_ hL_ v_ L_) | refine ⟨_, down_spec (i := 0) hP rfl hx hg.Vb, ?_⟩ | refine ⟨_, fun L0 hl0 => down_spec (i := 0) hP rfl hx hg.Vb, ?_⟩ | (refine SCall.mono (behind_spec hP hx) ?_; rintro v_ L_ ⟨hv_, hL_⟩; rw [hv_, hL_]; clear hv_ hL_ v_ L_) | refine ⟨_, behind_spec hP hx, ?_⟩ | refine ⟨_, fun L0 hl0 => behind_spec hP hx, ?_⟩ | refine And.intro (by omega) ?_ | fail); try (with_reducible refine stI ?_); try simp (maxSteps:=1000000)(dsimp:=false)(disch:=omega) only [go_sem, Φa, hP, hops])
  refine hK2 _ _ ?_
  try clear hK2 K2
  refine SX.seq_k fun K3 hK3 => ?_
  refine SX.region_d [some 2] rfl (fun ops hops => ?_)
  unfold Dsts at hops
  simp (maxSteps:=1000000)(dsimp:=false)(disch:=omega) only [go_sem, Φa, hP, hops]
  repeat' ((first | refine ⟨_, Cell.at 0 rfl rfl, ?_⟩ | refine ⟨0, _, _, _, rfl, (by rw [pcells_length]; omega), .inr (by first | decide | exact Nat.zero_le _), ?_⟩ | fail); try (with_reducible refine stI ?_); try simp (maxSteps:=1000000)(dsimp:=false)(disch:=omega) only [go_sem, Φa, hP, hops])
  refine hK3 _ _ ?_
  try clear hK3 K3
  refine SX.ret ?_
  simp only [andThen_normal, andThen_ret, andThen_exit, inBlk_normal, inBlk_ret, inBlk_exit, Nat.reduceEqDiff, if_true, if_false, ↓reduceIte, retQ_ret]
  try simp only [res0, res1, res2, res3, stK_e, go_sem, Φa, hP]
  exact ⟨_, _, Less.refl _, rfl, rfl, sv, pv, mv, q1, q2, q3, rfl, ⟨hr.st, hr.pg, hr.mm⟩⟩

end Go.Proofs.Ytgioegdjeodpiaa
set_option linter.unusedVariables false
set_option linter.unusedSimpArgs false
namespace Go.Proofs.Ytgioegdjeodpiaa
open Go.RowKit Go.SX

def plusG (g : GM) (o : Ord) : Int × GM := flagG g o (IntKind.u8.wrap (vG g o.x + vG g o.y)) (truthI (decide (255 < vG g o.x + vG g o.y)))
def minusG (g : GM) (o : Ord) : Int × GM := flagG g o (IntKind.u8.wrap (vG g o.x - vG g o.y)) (truthI (decide (vG g o.y ≤ vG g o.x)))
def keyG (g : GM) (o : Ord) (d : Feed) : Int × GM := if d.key < 0 then (2, g) else letG g o (IntKind.u8.wrap d.key)
def backG (g : GM) : Int × GM := if g.st.length = 0 then (6, g) else (1, { g with PC := g.st.getD (g.st.length - 1) 0, st := g.st.take (g.st.length - 1) })
def callG (g : GM) (o : Ord) : Int × GM := if g.st.length = 12 then (5, g) else (1, { g with st := g.st ++ [g.PC], PC := (o.a : Int) })
set_option maxHeartbeats 1000000 in
set_option maxRecDepth 100000 in
theorem plus_spec {Γ : Ctx} (hP : Γ.P = Try.prog) {L : Hp} {gp : Nat} {g : GM} {sv pv mv : Value} {o : Ord} {f : Fnt} {fv : Value} {d : Feed} {q1 q2 q3 : Slot} (hg : OkG g) (hr : Rows g sv pv mv q1 q2 q3) (ho : OkO o) (hx : o.x < 16) (hy : o.y < 16) (hd : OkD d) :
    SCall Γ 59 #[(.pointer (some ⟨gp, 0, none⟩))] (PS gp g sv pv mv o f fv d :: q1 :: q2 :: q3 :: L) (mres gp o f fv d L (plusG g o)) := by
  have hbx := byte_at hg.Vb o.x
  have hby := byte_at hg.Vb o.y
  have hob := ho.b
  have hoa := ho.a
  have hox := ho.x
  have hPCb := hg.PC
  have hIb := hg.I
  have hrb := hd.rnd
  have hkb := hd.keys
  have hdl := hg.dl
  have hsd := hg.sd
  refine SCall.enter (n := 21) (res1 2) (hP ▸ Try.func59) rfl rfl (by simp) (res1_ok rfl) ?_
  refine SX.seq_k fun K1 hK1 => ?_
  refine SX.region_d [some 2] rfl (fun ops hops => ?_)
  unfold Dsts at hops
  simp (maxSteps:=1000000)(dsimp:=false)(disch:=omega) only [go_sem, ia_someH, hP, hops]
  repeat' ((first | refine ⟨_, Cell.at 0 rfl rfl, ?_⟩ | refine ⟨0, _, _, _, rfl, (by rw [pcells_length]; omega), .inr (by first | decide | exact Nat.zero_le _), ?_⟩ | fail); try (with_reducible refine stI ?_); try simp (maxSteps:=1000000)(dsimp:=false)(disch:=omega) only [go_sem, ia_someH, hP, hops])
  refine hK1 _ _ ?_
  try clear hK1 K1
  refine SX.seq_k fun K2 hK2 => ?_
  refine SX.region_d [some 5, some 6, some 7, some 8, some 3, some 4] rfl (fun ops hops => ?_)
  unfold Dsts at hops
  simp (maxSteps:=1000000)(dsimp:=false)(disch:=omega) only [go_sem, ia_someH, hP, hops]
  repeat' ((first | refine ⟨_, Cell.at 0 rfl rfl, ?_⟩ | refine ⟨0, _, _, _, rfl, (by rw [pcells_length]; omega), .inr (by first | decide | exact Nat.zero_le _), ?_⟩ | (refine SCall.mono (x_spec (i := 0) hP rfl hx) ?_; rintro v_ L_ ⟨hv_, hL_⟩; rw [hv_, hL_]; clear hv_ hL_ v_ L_) | refine ⟨_, x_spec (i := 0) hP rfl hx, ?_⟩ | refine ⟨_, fun L0 hl0 => x_spec (i := 0) hP rfl hx, ?_⟩ | (refine SCall.mono (y_spec (i := 0) hP rfl hy) ?_; rintro v_ L_ ⟨hv_, hL_⟩; rw [hv_, hL_]; clear hv_ hL_ v_ L_) | refine ⟨_, y_spec (i := 0) hP rfl hy, ?_⟩ | refine ⟨_, fun L0 hl0 => y_spec (i := 0) hP rfl hy, ?_⟩ | (refine SCall.mono (let_spec hP hx hg.V) ?_; rintro v_ L_ ⟨hv_, hL_⟩; rw [hv_, hL_]; clear hv_ hL_ v_ L_) | refine ⟨_, let_spec hP hx hg.V, ?_⟩ | refine ⟨_, fun L0 hl0 => let_spec hP hx hg.V, ?_⟩ | (refine SCall.mono (skip_spec hP) ?_; rintro v_ L_ ⟨hv_, hL_⟩; rw [hv_, hL_]; clear hv_ hL_ v_ L_) | refine ⟨_, skip_spec hP, ?_⟩ | refine ⟨_, fun L0 hl0 => skip_spec hP, ?_⟩ | (refine SCall.mono (flagged_spec hP hx hg.V) ?_; rintro v_ L_ ⟨hv_, hL_⟩; rw [hv_, hL_]; clear hv_ hL_ v_ L_) | refine ⟨_, flagged_spec hP hx hg.V, ?_⟩ | refine ⟨_, fun L0 hl0 => flagged_spec hP hx hg.V, ?_⟩ | (refine SCall.mono (truth_spec hP _) ?_; rintro v_ L_ ⟨hv_, hL_⟩; rw [hv_, hL_]; clear hv_ hL_ v_ L_) | refine ⟨_, truth_spec hP _, ?_⟩ | refine ⟨_, fun L0 hl0 => truth_spec hP _, ?_⟩ | (refine SCall.mono (down_spec (i := 0) hP rfl hx hg.Vb) ?_; rintro v_ L_ ⟨hv_, hL_⟩; rw [hv_, hL_]; clear hv_ hL_ v_ L_) | refine ⟨_, down_spec (i := 0) hP rfl hx hg.Vb, ?_⟩ | refine ⟨_, fun L0 hl0 => down_spec (i := 0) hP rfl hx hg.Vb, ?_⟩ | (refine SCall.mono (behind_spec hP hx) ?_; rintro v_ L_ ⟨hv_, hL_⟩; rw [hv_, hL_]; clear hv_ hL_ v_ L_) | refine ⟨_, behind_spec hP hx, ?_⟩ | refine ⟨_, fun L0 hl0 => behind_spec hP hx, ?_⟩ | refine And.intro (by omega) ?_ | fail); try (with_reducible refine stI ?_); try simp (maxSteps:=1000000)(dsimp:=false)(disch:=omega) only [go_sem, ia_someH, hP, hops])
  refine hK2 _ _ ?_
  try clear hK2 K2
  refine SX.seq_k fun K3 hK3 => ?_
  refine SX.region_d [some 9, some 10, some 11, some 12, some 13, some 14, some 15, some 16, some 17, some 18, some 19, some 20, some 2] rfl (fun ops hops => ?_)
  unfold Dsts at hops
  simp (maxSteps:=1000000)(dsimp:=false)(disch:=omega) only [go_sem, ia_someH, hP, hops]
  repeat' ((first | refine ⟨_, Cell.at 0 rfl rfl, ?_⟩ | refine ⟨0, _, _, _, rfl, (by rw [pcells_length]; omega), .inr (by first | decide | exact Nat.zero_le _), ?_⟩ | (refine SCall.mono (x_spec (i := 0) hP rfl hx) ?_; rintro v_ L_ ⟨hv_, hL_⟩; rw [hv_, hL_]; clear hv_ hL_ v_ L_) | refine ⟨_, x_spec (i := 0) hP rfl hx, ?_⟩ | refine ⟨_, fun L0 hl0 => x_spec (i := 0) hP rfl hx, ?_⟩ | (refine SCall.mono (y_spec (i := 0) hP rfl hy) ?_; rintro v_ L_ ⟨hv_, hL_⟩; rw [hv_, hL_]; clear hv_ hL_ v_ L_) | refine ⟨_, y_spec (i := 0) hP rfl hy, ?_⟩ | refine ⟨_, fun L0 hl0 => y_spec (i := 0) hP rfl hy, ?_⟩ | (refine SCall.mono (let_spec hP hx hg.V) ?_; rintro v_ L_ ⟨hv_, hL_⟩; rw [hv_, hL_]; clear hv_ hL_ v_ L_) | refine ⟨_, let_spec hP hx hg.V, ?_⟩ | refine ⟨_, fun L0 hl0 => let_spec hP hx hg.V, ?_⟩ | (refine SCall.mono (skip_spec hP) ?_; rintro v_ L_ ⟨hv_, hL_⟩; rw [hv_, hL_]; clear hv_ hL_ v_ L_) | refine ⟨_, skip_spec hP, ?_⟩ | refine ⟨_, fun L0 hl0 => skip_spec hP, ?_⟩ | (refine SCall.mono (flagged_spec hP hx hg.V) ?_; rintro v_ L_ ⟨hv_, hL_⟩; rw [hv_, hL_]; clear hv_ hL_ v_ L_) | refine ⟨_, flagged_spec hP hx hg.V, ?_⟩ | refine ⟨_, fun L0 hl0 => flagged_spec hP hx hg.V, ?_⟩ | (refine SCall.mono (truth_spec hP _) ?_; rintro v_ L_ ⟨hv_, hL_⟩; rw [hv_, hL_]; clear hv_ hL_ v_ L_) | refine ⟨_, truth_spec hP _, ?_⟩ | refine ⟨_, fun L0 hl0 => truth_spec hP _, ?_⟩ | (refine SCall.mono (down_spec (i := 0) hP rfl hx hg.Vb) ?_; rintro v_ L_ ⟨hv_, hL_⟩; rw [hv_, hL_]; clear hv_ hL_ v_ L_) | refine ⟨_, down_spec (i := 0) hP rfl hx hg.Vb, ?_⟩ | refine ⟨_, fun L0 hl0 => down_spec (i := 0) hP rfl hx hg.Vb, ?_⟩ | (refine SCall.mono (behind_spec hP hx) ?_; rintro v_ L_ ⟨hv_, hL_⟩; rw [hv_, hL_]; clear hv_ hL_ v_ L_) | refine ⟨_, behind_spec hP hx, ?_⟩ | refine ⟨_, fun L0 hl0 => behind_spec hP hx, ?_⟩ | refine And.intro (by omega) ?_ | fail); try (with_reducible refine stI ?_); try simp (maxSteps:=1000000)(dsimp:=false)(disch:=omega) only [go_sem, ia_someH, hP, hops])
  refine hK3 _ _ ?_
  try clear hK3 K3
  refine SX.ret ?_
  simp only [andThen_normal, andThen_ret, andThen_exit, inBlk_normal, inBlk_ret, inBlk_exit, Nat.reduceEqDiff, if_true, if_false, ↓reduceIte, retQ_ret]
  try simp only [res0, res1, res2, res3, stK_e, go_sem, ia_someH, hP]
  refine ⟨_, _, Less.refl _, rfl, rfl, sv, pv, mv, q1, q2, q3, ?_, ?_⟩
  · unfold plusG flagG truthI vG; simp only [decide_eq_true_eq]
  · exact ⟨hr.st, hr.pg, hr.mm⟩
set_option maxHeartbeats 1000000 in
set_option maxRecDepth 100000 in
theorem minus_spec {Γ : Ctx} (hP : Γ.P = Try.prog) {L : Hp} {gp : Nat} {g : GM} {sv pv mv : Value} {o : Ord} {f : Fnt} {fv : Value} {d : Feed} {q1 q2 q3 : Slot} (hg : OkG g) (hr : Rows g sv pv mv q1 q2 q3) (ho : OkO o) (hx : o.x < 16) (hy : o.y < 16) (hd : OkD d) :
    SCall Γ 60 #[(.pointer (some ⟨gp, 0, none⟩))] (PS gp g sv pv mv o f fv d :: q1 :: q2 :: q3 :: L) (mres gp o f fv d L (minusG g o)) := by
  have hbx := byte_at hg.Vb o.x
  have hby := byte_at hg.Vb o.y
  have hob := ho.b
  have hoa := ho.a
  have hox := ho.x
  have hPCb := hg.PC
  have hIb := hg.I
  have hrb := hd.rnd
  have hkb := hd.keys
  have hdl := hg.dl
  have hsd := hg.sd
  refine SCall.enter (n := 18) (res1 2) (hP ▸ Try.func60) rfl rfl (by simp) (res1_ok rfl) ?_
  refine SX.seq_k fun K1 hK1 => ?_
  refine SX.region_d [some 2] rfl (fun ops hops => ?_)
  unfold Dsts at hops
  simp (maxSteps:=1000000)(dsimp:=false)(disch:=omega) only [go_sem, ia_someH, hP, hops]
  repeat' ((first | refine ⟨_, Cell.at 0 rfl rfl, ?_⟩ | refine ⟨0, _, _, _, rfl, (by rw [pcells_length]; omega), .inr (by first | decide | exact Nat.zero_le _), ?_⟩ | fail); try (with_reducible refine stI ?_); try simp (maxSteps:=1000000)(dsimp:=false)(disch:=omega) only [go_sem, ia_someH, hP, hops])
  refine hK1 _ _ ?_
  try clear hK1 K1
  refine SX.seq_k fun K2 hK2 => ?_
  refine SX.region_d [some 5, some 6, some 7, some 8, some 3, some 4] rfl (fun ops hops => ?_)
  unfold Dsts at hops
  simp (maxSteps:=1000000)(dsimp:=false)(disch:=omega) only [go_sem, ia_someH, hP, hops]
  repeat' ((first | refine ⟨_, Cell.at 0 rfl rfl, ?_⟩ | refine ⟨0, _, _, _, rfl, (by rw [pcells_length]; omega), .inr (by first | decide | exact Nat.zero_le _), ?_⟩ | (refine SCall.mono (x_spec (i := 0) hP rfl hx) ?_; rintro v_ L_ ⟨hv_, hL_⟩; rw [hv_, hL_]; clear hv_ hL_ v_ L_) | refine ⟨_, x_spec (i := 0) hP rfl hx, ?_⟩ | refine ⟨_, fun L0 hl0 => x_spec (i := 0) hP rfl hx, ?_⟩ | (refine SCall.mono (y_spec (i := 0) hP rfl hy) ?_; rintro v_ L_ ⟨hv_, hL_⟩; rw [hv_, hL_]; clear hv_ hL_ v_ L_) | refine ⟨_, y_spec (i := 0) hP rfl hy, ?_⟩ | refine ⟨_, fun L0 hl0 => y_spec (i := 0) hP rfl hy, ?_⟩ | (refine SCall.mono (let_spec hP hx hg.V) ?_; rintro v_ L_ ⟨hv_, hL_⟩; rw [hv_, hL_]; clear hv_ hL_ v_ L_) | refine ⟨_, let_spec hP hx hg.V, ?_⟩ | refine ⟨_, fun L0 hl0 => let_spec hP hx hg.V, ?_⟩ | (refine SCall.mono (skip_spec hP) ?_; rintro v_ L_ ⟨hv_, hL_⟩; rw [hv_, hL_]; clear hv_ hL_ v_ L_) | refine ⟨_, skip_spec hP, ?_⟩ | refine ⟨_, fun L0 hl0 => skip_spec hP, ?_⟩ | (refine SCall.mono (flagged_spec hP hx hg.V) ?_; rintro v_ L_ ⟨hv_, hL_⟩; rw [hv_, hL_]; clear hv_ hL_ v_ L_) | refine ⟨_, flagged_spec hP hx hg.V, ?_⟩ | refine ⟨_, fun L0 hl0 => flagged_spec hP hx hg.V, ?_⟩ | (refine SCall.mono (truth_spec hP _) ?_; rintro v_ L_ ⟨hv_, hL_⟩; rw [hv_, hL_]; clear hv_ hL_ v_ L_) | refine ⟨_, truth_spec hP _, ?_⟩ | refine ⟨_, fun L0 hl0 => truth_spec hP _, ?_⟩ | (refine SCall.mono (down_spec (i := 0) hP rfl hx hg.Vb) ?_; rintro v_ L_ ⟨hv_, hL_⟩; rw [hv_, hL_]; clear hv_ hL_ v_ L_) | refine ⟨_, down_spec (i := 0) hP rfl hx hg.Vb, ?_⟩ | refine ⟨_, fun L0 hl0 => down_spec (i := 0) hP rfl hx hg.Vb, ?_⟩ | (refine SCall.mono (behind_spec hP hx) ?_; rintro v_ L_ ⟨hv_, hL_⟩; rw [hv_, hL_]; clear hv_ hL_ v_ L_) | refine ⟨_, behind_spec hP hx, ?_⟩ | refine ⟨_, fun L0 hl0 => behind_spec hP hx, ?_⟩ | refine And.intro (by omega) ?_ | fail); try (with_reducible refine stI ?_); try simp (maxSteps:=1000000)(dsimp:=false)(disch:=omega) only [go_sem, ia_someH, hP, hops])
  refine hK2 _ _ ?_
  try clear hK2 K2
  refine SX.seq_k fun K3 hK3 => ?_
  refine SX.region_d [some 9, some 10, some 11, some 12, some 13, some 14, some 15, some 16, some 17, some 2] rfl (fun ops hops => ?_)
  unfold Dsts at hops
  simp (maxSteps:=1000000)(dsimp:=false)(disch:=omega) only [go_sem, ia_someH, hP, hops]
  repeat' ((first | refine ⟨_, Cell.at 0 rfl rfl, ?_⟩ | refine ⟨0, _, _, _, rfl, (by rw [pcells_length]; omega), .inr (by first | decide | exact Nat.zero_le _), ?_⟩ | (refine SCall.mono (x_spec (i := 0) hP rfl hx) ?_; rintro v_ L_ ⟨hv_, hL_⟩; rw [hv_, hL_]; clear hv_ hL_ v_ L_) | refine ⟨_, x_spec (i := 0) hP rfl hx, ?_⟩ | refine ⟨_, fun L0 hl0 => x_spec (i := 0) hP rfl hx, ?_⟩ | (refine SCall.mono (y_spec (i := 0) hP rfl hy) ?_; rintro v_ L_ ⟨hv_, hL_⟩; rw [hv_, hL_]; clear hv_ hL_ v_ L_) | refine ⟨_, y_spec (i := 0) hP rfl hy, ?_⟩ | refine ⟨_, fun L0 hl0 => y_spec (i := 0) hP rfl hy, ?_⟩ | (refine SCall.mono (let_spec hP hx hg.V) ?_; rintro v_ L_ ⟨hv_, hL_⟩; rw [hv_, hL_]; clear hv_ hL_ v_ L_) | refine ⟨_, let_spec hP hx hg.V, ?_⟩ | refine ⟨_, fun L0 hl0 => let_spec hP hx hg.V, ?_⟩ | (refine SCall.mono (skip_spec hP) ?_; rintro v_ L_ ⟨hv_, hL_⟩; rw [hv_, hL_]; clear hv_ hL_ v_ L_) | refine ⟨_, skip_spec hP, ?_⟩ | refine ⟨_, fun L0 hl0 => skip_spec hP, ?_⟩ | (refine SCall.mono (flagged_spec hP hx hg.V) ?_; rintro v_ L_ ⟨hv_, hL_⟩; rw [hv_, hL_]; clear hv_ hL_ v_ L_) | refine ⟨_, flagged_spec hP hx hg.V, ?_⟩ | refine ⟨_, fun L0 hl0 => flagged_spec hP hx hg.V, ?_⟩ | (refine SCall.mono (truth_spec hP _) ?_; rintro v_ L_ ⟨hv_, hL_⟩; rw [hv_, hL_]; clear hv_ hL_ v_ L_) | refine ⟨_, truth_spec hP _, ?_⟩ | refine ⟨_, fun L0 hl0 => truth_spec hP _, ?_⟩ | (refine SCall.mono (down_spec (i := 0) hP rfl hx hg.Vb) ?_; rintro v_ L_ ⟨hv_, hL_⟩; rw [hv_, hL_]; clear hv_ hL_ v_ L_) | refine ⟨_, down_spec (i := 0) hP rfl hx hg.Vb, ?_⟩ | refine ⟨_, fun L0 hl0 => down_spec (i := 0) hP rfl hx hg.Vb, ?_⟩ | (refine SCall.mono (behind_spec hP hx) ?_; rintro v_ L_ ⟨hv_, hL_⟩; rw [hv_, hL_]; clear hv_ hL_ v_ L_) | refine ⟨_, behind_spec hP hx, ?_⟩ | refine ⟨_, fun L0 hl0 => behind_spec hP hx, ?_⟩ | refine And.intro (by omega) ?_ | fail); try (with_reducible refine stI ?_); try simp (maxSteps:=1000000)(dsimp:=false)(disch:=omega) only [go_sem, ia_someH, hP, hops])
  refine hK3 _ _ ?_
  try clear hK3 K3
  refine SX.ret ?_
  simp only [andThen_normal, andThen_ret, andThen_exit, inBlk_normal, inBlk_ret, inBlk_exit, Nat.reduceEqDiff, if_true, if_false, ↓reduceIte, retQ_ret]
  try simp only [res0, res1, res2, res3, stK_e, go_sem, ia_someH, hP]
  refine ⟨_, _, Less.refl _, rfl, rfl, sv, pv, mv, q1, q2, q3, ?_, ?_⟩
  · unfold minusG flagG truthI vG; simp only [decide_eq_true_eq]
  · exact ⟨hr.st, hr.pg, hr.mm⟩
set_option maxHeartbeats 1000000 in
set_option maxRecDepth 100000 in
theorem jumpBy_spec {Γ : Ctx} (hP : Γ.P = Try.prog) {L : Hp} {gp : Nat} {g : GM} {sv pv mv : Value} {o : Ord} {f : Fnt} {fv : Value} {d : Feed} {q1 q2 q3 : Slot} (hg : OkG g) (hr : Rows g sv pv mv q1 q2 q3) (ho : OkO o) (hx : o.x < 16) (hy : o.y < 16) (hd : OkD d) :
    SCall Γ 63 #[(.pointer (some ⟨gp, 0, none⟩))] (PS gp g sv pv mv o f fv d :: q1 :: q2 :: q3 :: L) (mres gp o f fv d L (1, { g with PC := IntKind.u16.wrap ((o.a : Int) + vG g 0) })) := by
  have hbx := byte_at hg.Vb o.x
  have hby := byte_at hg.Vb o.y
  have hob := ho.b
  have hoa := ho.a
  have hox := ho.x
  have hPCb := hg.PC
  have hIb := hg.I
  have hrb := hd.rnd
  have hkb := hd.keys
  have hdl := hg.dl
  have hsd := hg.sd
  refine SCall.enter (n := 20) (res1 2) (hP ▸ Try.func63) rfl rfl (by simp) (res1_ok rfl) ?_
  refine SX.seq_k fun K1 hK1 => ?_
  refine SX.region_d [some 2] rfl (fun ops hops => ?_)
  unfold Dsts at hops
  simp (maxSteps:=1000000)(dsimp:=false)(disch:=omega) only [go_sem, ia_someH, hP, hops]
  repeat' ((first | refine ⟨_, Cell.at 0 rfl rfl, ?_⟩ | refine ⟨0, _, _, _, rfl, (by rw [pcells_length]; omega), .inr (by first | decide | exact Nat.zero_le _), ?_⟩ | fail); try (with_reducible refine stI ?_); try simp (maxSteps:=1000000)(dsimp:=false)(disch:=omega) only [go_sem, ia_someH, hP, hops])
  refine hK1 _ _ ?_
  try clear hK1 K1
  refine SX.seq_k fun K2 hK2 => ?_
  have hb0 := byte_at hg.Vb 0
  refine SX.drawn_d [(0, .q), (1, .q), (2, .q), (3, .q), (4, .q), (5, .q), (6, .q), (7, .q), (8, .q), (9, .q), (10, .q), (11, .q), (12, .q), (13, .q), (14, .q), (15, .q), (16, .q), (17, .t)] (fun L => L) (hP ▸ T.mixed) (by kernel_rfl) (by exact Less.refl _) [some 3, some 4, some 5, some 6, some 7, some 8, some 9, some 10, some 11, some 12, some 13, some 14, some 15, some 16, some 17, some 18, some 19, none] rfl (fun ops hops hopl => ?_)
  unfold Dsts at hops
  simp (maxSteps:=1000000)(dsimp:=false)(disch:=omega) only [go_sem, ia_someH, hP, hops, hopl]
  repeat' ((first | refine ⟨_, Cell.at 0 rfl (pV (x := 0) (by decide)), ?_⟩ | refine ⟨_, Cell.at 0 rfl rfl, ?_⟩ | refine ⟨0, _, _, _, rfl, (by rw [pcells_length]; omega), .inr (by first | decide | exact Nat.zero_le _), ?_⟩ | refine And.intro (by omega) ?_ | fail); try (with_reducible refine stI ?_); try simp (maxSteps:=1000000)(dsimp:=false)(disch:=omega) only [go_sem, ia_someH, hP, hops, hopl])
  refine hK2 _ _ ?_
  try clear hK2 K2
  refine SX.live [] (fun T1 hT1 => ?_)
  clear hT1
  refine SX.seq_k fun K3 hK3 => ?_
  refine SX.region_d [some 2] rfl (fun ops hops => ?_)
  unfold Dsts at hops
  simp (maxSteps:=1000000)(dsimp:=false)(disch:=omega) only [go_sem, ia_someH, hP, hops]
  repeat' ((first | refine ⟨_, Cell.at 0 rfl rfl, ?_⟩ | refine ⟨0, _, _, _, rfl, (by rw [pcells_length]; omega), .inr (by first | decide | exact Nat.zero_le _), ?_⟩ | fail); try (with_reducible refine stI ?_); try simp (maxSteps:=1000000)(dsimp:=false)(disch:=omega) only [go_sem, ia_someH, hP, hops])
  refine hK3 _ _ ?_
  try clear hK3 K3
  refine SX.ret ?_
  simp only [andThen_normal, andThen_ret, andThen_exit, inBlk_normal, inBlk_ret, inBlk_exit, Nat.reduceEqDiff, if_true, if_false, ↓reduceIte, retQ_ret]
  try simp only [res0, res1, res2, res3, stK_e, go_sem, ia_someH, hP]
  exact ⟨_, _, Less.refl _, rfl, rfl, sv, pv, mv, q1, q2, q3, rfl, ⟨hr.st, hr.pg, hr.mm⟩⟩
set_option maxHeartbeats 1000000 in
set_option maxRecDepth 100000 in
theorem on_spec {Γ : Ctx} (hP : Γ.P = Try.prog) {L : Hp} {gp : Nat} {g : GM} {sv pv mv : Value} {o : Ord} {f : Fnt} {fv : Value} {d : Feed} {q1 q2 q3 : Slot} (hg : OkG g) (hr : Rows g sv pv mv q1 q2 q3) (ho : OkO o) (hx : o.x < 16) (hy : o.y < 16) (hd : OkD d) :
    SCall Γ 72 #[(.pointer (some ⟨gp, 0, none⟩))] (PS gp g sv pv mv o f fv d :: q1 :: q2 :: q3 :: L) (mres gp o f fv d L (1, { g with I := IntKind.u16.wrap (g.I + vG g o.x) })) := by
  have hbx := byte_at hg.Vb o.x
  have hby := byte_at hg.Vb o.y
  have hob := ho.b
  have hoa := ho.a
  have hox := ho.x
  have hPCb := hg.PC
  have hIb := hg.I
  have hrb := hd.rnd
  have hkb := hd.keys
  have hdl := hg.dl
  have hsd := hg.sd
  refine SCall.enter (n := 15) (res1 2) (hP ▸ Try.func72) rfl rfl (by simp) (res1_ok rfl) ?_
  refine SX.seq_k fun K1 hK1 => ?_
  refine SX.region_d [some 2] rfl (fun ops hops => ?_)
  unfold Dsts at hops
  simp (maxSteps:=1000000)(dsimp:=false)(disch:=omega) only [go_sem, ia_someH, hP, hops]
  repeat' ((first | refine ⟨_, Cell.at 0 rfl rfl, ?_⟩ | refine ⟨0, _, _, _, rfl, (by rw [pcells_length]; omega), .inr (by first | decide | exact Nat.zero_le _), ?_⟩ | fail); try (with_reducible refine stI ?_); try simp (maxSteps:=1000000)(dsimp:=false)(disch:=omega) only [go_sem, ia_someH, hP, hops])
  refine hK1 _ _ ?_
  try clear hK1 K1
  refine SX.seq_k fun K2 hK2 => ?_
  refine SX.drawn_d [(0, .q), (1, .q), (2, .q), (3, .q), (4, .q), (5, .q), (6, .e), (7, .q), (8, .q), (9, .q), (10, .q), (11, .q), (12, .t)] (fun L => L) (hP ▸ T.mixed) (by kernel_rfl) (by exact Less.refl _) [some 3, some 4, some 5, some 6, some 7, some 8, some 9, some 10, some 11, some 12, some 13, some 14, none] rfl (fun ops hops hopl => ?_)
  unfold Dsts at hops
  simp (maxSteps:=1000000)(dsimp:=false)(disch:=omega) only [go_sem, ia_someH, hP, hops, hopl]
  repeat' ((first | refine ⟨_, Cell.at 0 rfl rfl, ?_⟩ | refine ⟨0, _, _, _, rfl, (by rw [pcells_length]; omega), .inr (by first | decide | exact Nat.zero_le _), ?_⟩ | (refine SCall.mono (x_spec (i := 0) hP rfl hx) ?_; rintro v_ L_ ⟨hv_, hL_⟩; rw [hv_, hL_]; clear hv_ hL_ v_ L_) | refine ⟨_, x_spec (i := 0) hP rfl hx, ?_⟩ | refine ⟨_, fun L0 hl0 => x_spec (i := 0) hP rfl hx, ?_⟩ | (refine SCall.mono (y_spec (i := 0) hP rfl hy) ?_; rintro v_ L_ ⟨hv_, hL_⟩; rw [hv_, hL_]; clear hv_ hL_ v_ L_) | refine ⟨_, y_spec (i := 0) hP rfl hy, ?_⟩ | refine ⟨_, fun L0 hl0 => y_spec (i := 0) hP rfl hy, ?_⟩ | (refine SCall.mono (let_spec hP hx hg.V) ?_; rintro v_ L_ ⟨hv_, hL_⟩; rw [hv_, hL_]; clear hv_ hL_ v_ L_) | refine ⟨_, let_spec hP hx hg.V, ?_⟩ | refine ⟨_, fun L0 hl0 => let_spec hP hx hg.V, ?_⟩ | (refine SCall.mono (skip_spec hP) ?_; rintro v_ L_ ⟨hv_, hL_⟩; rw [hv_, hL_]; clear hv_ hL_ v_ L_) | refine ⟨_, skip_spec hP, ?_⟩ | refine ⟨_, fun L0 hl0 => skip_spec hP, ?_⟩ | (refine SCall.mono (flagged_spec hP hx hg.V) ?_; rintro v_ L_ ⟨hv_, hL_⟩; rw [hv_, hL_]; clear hv_ hL_ v_ L_) | refine ⟨_, flagged_spec hP hx hg.V, ?_⟩ | refine ⟨_, fun L0 hl0 => flagged_spec hP hx hg.V, ?_⟩ | (refine SCall.mono (truth_spec hP _) ?_; rintro v_ L_ ⟨hv_, hL_⟩; rw [hv_, hL_]; clear hv_ hL_ v_ L_) | refine ⟨_, truth_spec hP _, ?_⟩ | refine ⟨_, fun L0 hl0 => truth_spec hP _, ?_⟩ | (refine SCall.mono (down_spec (i := 0) hP rfl hx hg.Vb) ?_; rintro v_ L_ ⟨hv_, hL_⟩; rw [hv_, hL_]; clear hv_ hL_ v_ L_) | refine ⟨_, down_spec (i := 0) hP rfl hx hg.Vb, ?_⟩ | refine ⟨_, fun L0 hl0 => down_spec (i := 0) hP rfl hx hg.Vb, ?_⟩ | (refine SCall.mono (behind_spec hP hx) ?_; rintro v_ L_ ⟨hv_, hL_⟩; rw [hv_, hL_]; clear hv_ hL_ v_ L_) | refine ⟨_, behind_spec hP hx, ?_⟩ | refine ⟨_, fun L0 hl0 => behind_spec hP hx, ?_⟩ | refine And.intro (by omega) ?_ | fail); try (with_reducible refine stI ?_); try simp (maxSteps:=1000000)(dsimp:=false)(disch:=omega) only [go_sem, ia_someH, hP, hops, hopl])
  refine hK2 _ _ ?_
  try clear hK2 K2
  refine SX.live [] (fun T1 hT1 => ?_)
  clear hT1
  refine SX.seq_k fun K3 hK3 => ?_
  refine SX.region_d [some 2] rfl (fun ops hops => ?_)
  unfold Dsts at hops
  simp (maxSteps:=1000000)(dsimp:=false)(disch:=omega) only [go_sem, ia_someH, hP, hops]
  repeat' ((first | refine ⟨_, Cell.at 0 rfl rfl, ?_⟩ | refine ⟨0, _, _, _, rfl, (by rw [pcells_length]; omega), .inr (by first | decide | exact Nat.zero_le _), ?_⟩ | fail); try (with_reducible refine stI ?_); try simp (maxSteps:=1000000)(dsimp:=false)(disch:=omega) only [go_sem, ia_someH, hP, hops])
  refine hK3 _ _ ?_
  try clear hK3 K3
  refine SX.ret ?_
  simp only [andThen_normal, andThen_ret, andThen_exit, inBlk_normal, inBlk_ret, inBlk_exit, Nat.reduceEqDiff, if_true, if_false, ↓reduceIte, retQ_ret]
  try simp only [res0, res1, res2, res3, stK_e, go_sem, ia_someH, hP]
  exact ⟨_, _, Less.refl _, rfl, rfl, sv, pv, mv, q1, q2, q3, rfl, ⟨hr.st, hr.pg, hr.mm⟩⟩
set_option maxHeartbeats 1000000 in
set_option maxRecDepth 100000 in
theorem digit_spec {Γ : Ctx} (hP : Γ.P = Try.prog) {L : Hp} {gp : Nat} {g : GM} {sv pv mv : Value} {o : Ord} {f : Fnt} {fv : Value} {d : Feed} {q1 q2 q3 : Slot} (hg : OkG g) (hr : Rows g sv pv mv q1 q2 q3) (ho : OkO o) (hx : o.x < 16) (hy : o.y < 16) (hd : OkD d) :
    SCall Γ 73 #[(.pointer (some ⟨gp, 0, none⟩))] (PS gp g sv pv mv o f fv d :: q1 :: q2 :: q3 :: L) (mres gp o f fv d L (1, { g with I := f.at_.getD (vG g o.x % 16).toNat 0 })) := by
  have hbx := byte_at hg.Vb o.x
  have hby := byte_at hg.Vb o.y
  have hob := ho.b
  have hoa := ho.a
  have hox := ho.x
  have hPCb := hg.PC
  have hIb := hg.I
  have hrb := hd.rnd
  have hkb := hd.keys
  have hdl := hg.dl
  have hsd := hg.sd
  refine SCall.enter (n := 16) (res1 2) (hP ▸ Try.func73) rfl rfl (by simp) (res1_ok rfl) ?_
  refine SX.seq_k fun K1 hK1 => ?_
  refine SX.region_d [some 2] rfl (fun ops hops => ?_)
  unfold Dsts at hops
  simp (maxSteps:=1000000)(dsimp:=false)(disch:=omega) only [go_sem, ia_someH, hP, hops]
  repeat' ((first | refine ⟨_, Cell.at 0 rfl rfl, ?_⟩ | refine ⟨0, _, _, _, rfl, (by rw [pcells_length]; omega), .inr (by first | decide | exact Nat.zero_le _), ?_⟩ | fail); try (with_reducible refine stI ?_); try simp (maxSteps:=1000000)(dsimp:=false)(disch:=omega) only [go_sem, ia_someH, hP, hops])
  refine hK1 _ _ ?_
  try clear hK1 K1
  refine SX.seq_k fun K2 hK2 => ?_
  have h15 := u8_and15 (g.V.getD o.x 0) hbx.1 (by omega)
  have hm16 : (g.V.getD o.x 0 % 16).toNat < 16 := by omega
  refine SX.drawn_d [(0, .q), (1, .q), (2, .q), (5, .q), (6, .q), (7, .q), (3, .e), (4, .q), (8, .q), (9, .q), (10, .q), (11, .q), (12, .q), (13, .t)] (fun L => L) (hP ▸ T.mixed) (by kernel_rfl) (by exact Less.refl _) [some 3, some 4, some 5, some 6, some 7, some 8, some 9, some 10, some 11, some 12, some 13, some 14, some 15, none] rfl (fun ops hops hopl => ?_)
  unfold Dsts at hops
  simp (maxSteps:=1000000)(dsimp:=false)(disch:=omega) only [go_sem, ia_someH, hP, hops, hopl, h15]
  repeat' ((first | refine ⟨_, Cell.at 0 rfl (pAt hm16), ?_⟩ | refine ⟨_, Cell.at 0 rfl rfl, ?_⟩ | refine ⟨0, _, _, _, rfl, (by rw [pcells_length]; omega), .inr (by first | decide | exact Nat.zero_le _), ?_⟩ | (refine SCall.mono (x_spec (i := 0) hP rfl hx) ?_; rintro v_ L_ ⟨hv_, hL_⟩; rw [hv_, hL_]; clear hv_ hL_ v_ L_) | refine ⟨_, x_spec (i := 0) hP rfl hx, ?_⟩ | refine ⟨_, fun L0 hl0 => x_spec (i := 0) hP rfl hx, ?_⟩ | (refine SCall.mono (y_spec (i := 0) hP rfl hy) ?_; rintro v_ L_ ⟨hv_, hL_⟩; rw [hv_, hL_]; clear hv_ hL_ v_ L_) | refine ⟨_, y_spec (i := 0) hP rfl hy, ?_⟩ | refine ⟨_, fun L0 hl0 => y_spec (i := 0) hP rfl hy, ?_⟩ | (refine SCall.mono (let_spec hP hx hg.V) ?_; rintro v_ L_ ⟨hv_, hL_⟩; rw [hv_, hL_]; clear hv_ hL_ v_ L_) | refine ⟨_, let_spec hP hx hg.V, ?_⟩ | refine ⟨_, fun L0 hl0 => let_spec hP hx hg.V, ?_⟩ | (refine SCall.mono (skip_spec hP) ?_; rintro v_ L_ ⟨hv_, hL_⟩; rw [hv_, hL_]; clear hv_ hL_ v_ L_) | refine ⟨_, skip_spec hP, ?_⟩ | refine ⟨_, fun L0 hl0 => skip_spec hP, ?_⟩ | (refine SCall.mono (flagged_spec hP hx hg.V) ?_; rintro v_ L_ ⟨hv_, hL_⟩; rw [hv_, hL_]; clear hv_ hL_ v_ L_) | refine ⟨_, flagged_spec hP hx hg.V, ?_⟩ | refine ⟨_, fun L0 hl0 => flagged_spec hP hx hg.V, ?_⟩ | (refine SCall.mono (truth_spec hP _) ?_; rintro v_ L_ ⟨hv_, hL_⟩; rw [hv_, hL_]; clear hv_ hL_ v_ L_) | refine ⟨_, truth_spec hP _, ?_⟩ | refine ⟨_, fun L0 hl0 => truth_spec hP _, ?_⟩ | (refine SCall.mono (down_spec (i := 0) hP rfl hx hg.Vb) ?_; rintro v_ L_ ⟨hv_, hL_⟩; rw [hv_, hL_]; clear hv_ hL_ v_ L_) | refine ⟨_, down_spec (i := 0) hP rfl hx hg.Vb, ?_⟩ | refine ⟨_, fun L0 hl0 => down_spec (i := 0) hP rfl hx hg.Vb, ?_⟩ | (refine SCall.mono (behind_spec hP hx) ?_; rintro v_ L_ ⟨hv_, hL_⟩; rw [hv_, hL_]; clear hv_ hL_ v_ L_) | refine ⟨_, behind_spec hP hx, ?_⟩ | refine ⟨_, fun L0 hl0 => behind_spec hP hx, ?_⟩ | refine And.intro (by omega) ?_ | fail); try (with_reducible refine stI ?_); try simp (maxSteps:=1000000)(dsimp:=false)(disch:=omega) only [go_sem, ia_someH, hP, hops, hopl, h15])
  refine hK2 _ _ ?_
  try clear hK2 K2
  refine SX.live [] (fun T1 hT1 => ?_)
  clear hT1
  refine SX.seq_k fun K3 hK3 => ?_
  refine SX.region_d [some 2] rfl (fun ops hops => ?_)
  unfold Dsts at hops
  simp (maxSteps:=1000000)(dsimp:=false)(disch:=omega) only [go_sem, ia_someH, hP, hops]
  repeat' ((first | refine ⟨_, Cell.at 0 rfl rfl, ?_⟩ | refine ⟨0, _, _, _, rfl, (by rw [pcells_length]; omega), .inr (by first | decide | exact Nat.zero_le _), ?_⟩ | fail); try (with_reducible refine stI ?_); try simp (maxSteps:=1000000)(dsimp:=false)(disch:=omega) only [go_sem, ia_someH, hP, hops])
  refine hK3 _ _ ?_
  try clear hK3 K3
  refine SX.ret ?_
  simp only [andThen_normal, andThen_ret, andThen_exit, inBlk_normal, inBlk_ret, inBlk_exit, Nat.reduceEqDiff, if_true, if_false, ↓reduceIte, retQ_ret]
  try simp only [res0, res1, res2, res3, stK_e, go_sem, ia_someH, hP]
  exact ⟨_, _, Less.refl _, rfl, rfl, sv, pv, mv, q1, q2, q3, rfl, ⟨hr.st, hr.pg, hr.mm⟩⟩
set_option maxHeartbeats 1000000 in
set_option maxRecDepth 100000 in
theorem key_spec {Γ : Ctx} (hP : Γ.P = Try.prog) {L : Hp} {gp : Nat} {g : GM} {sv pv mv : Value} {o : Ord} {f : Fnt} {fv : Value} {d : Feed} {q1 q2 q3 : Slot} (hg : OkG g) (hr : Rows g sv pv mv q1 q2 q3) (ho : OkO o) (hx : o.x < 16) (hy : o.y < 16) (hd : OkD d) :
    SCall Γ 69 #[(.pointer (some ⟨gp, 0, none⟩))] (PS gp g sv pv mv o f fv d :: q1 :: q2 :: q3 :: L) (mres gp o f fv d L (keyG g o d)) := by
  have hbx := byte_at hg.Vb o.x
  have hby := byte_at hg.Vb o.y
  have hob := ho.b
  have hoa := ho.a
  have hox := ho.x
  have hPCb := hg.PC
  have hIb := hg.I
  have hrb := hd.rnd
  have hkb := hd.keys
  have hdl := hg.dl
  have hsd := hg.sd
  refine SCall.enter (n := 17) (res1 2) (hP ▸ Try.func69) rfl rfl (by simp) (res1_ok rfl) ?_
  refine SX.seq_k fun K1 hK1 => ?_
  refine SX.region_d [some 2] rfl (fun ops hops => ?_)
  unfold Dsts at hops
  simp (maxSteps:=1000000)(dsimp:=false)(disch:=omega) only [go_sem, ia_someH, hP, hops]
  repeat' ((first | refine ⟨_, Cell.at 0 rfl rfl, ?_⟩ | refine ⟨0, _, _, _, rfl, (by rw [pcells_length]; omega), .inr (by first | decide | exact Nat.zero_le _), ?_⟩ | fail); try (with_reducible refine stI ?_); try simp (maxSteps:=1000000)(dsimp:=false)(disch:=omega) only [go_sem, ia_someH, hP, hops])
  refine hK1 _ _ ?_
  try clear hK1 K1
  refine SX.seq_k fun K2 hK2 => ?_
  refine SX.seq_k fun K3 hK3 => ?_
  refine SX.region_d [some 3, some 4, some 5, some 6, some 7, some 8] rfl (fun ops hops => ?_)
  unfold Dsts at hops
  simp (maxSteps:=1000000)(dsimp:=false)(disch:=omega) only [go_sem, ia_someH, hP, hops]
  repeat' ((first | refine ⟨_, Cell.at 0 rfl rfl, ?_⟩ | refine ⟨0, _, _, _, rfl, (by rw [pcells_length]; omega), .inr (by first | decide | exact Nat.zero_le _), ?_⟩ | refine And.intro (by omega) ?_ | fail); try (with_reducible refine stI ?_); try simp (maxSteps:=1000000)(dsimp:=false)(disch:=omega) only [go_sem, ia_someH, hP, hops])
  refine hK3 _ _ ?_
  try clear hK3 K3
  refine SX.cond_k fun X4 Y4 hX4 hY4 => ?_
  simp (maxSteps:=1000000)(dsimp:=false)(disch:=omega) only [go_sem, ia_someH, hP, condVC]
  refine ⟨fun hc8 => hX4 ?_, fun hc8 => hY4 ?_⟩
  · clear hX4 hY4 X4 Y4
    refine SX.seq_k fun K5 hK5 => ?_
    refine SX.region_d [some 2] rfl (fun ops hops => ?_)
    unfold Dsts at hops
    simp (maxSteps:=1000000)(dsimp:=false)(disch:=omega) only [go_sem, ia_someH, hP, hops]
    repeat' ((first | refine ⟨_, Cell.at 0 rfl rfl, ?_⟩ | refine ⟨0, _, _, _, rfl, (by rw [pcells_length]; omega), .inr (by first | decide | exact Nat.zero_le _), ?_⟩ | fail); try (with_reducible refine stI ?_); try simp (maxSteps:=1000000)(dsimp:=false)(disch:=omega) only [go_sem, ia_someH, hP, hops])
    refine hK5 _ _ ?_
    try clear hK5 K5
    refine SX.ret ?_
    simp only [andThen_normal, andThen_ret, andThen_exit, inBlk_normal, inBlk_ret, inBlk_exit, Nat.reduceEqDiff, if_true, if_false, ↓reduceIte, retQ_ret]
    try simp only [res0, res1, res2, res3, stK_e, go_sem, ia_someH, hP]
    refine ⟨_, _, Less.refl _, rfl, ?_⟩
    unfold keyG
    rw [if_pos (by first | exact hc7 | omega)]
    exact ⟨rfl, sv, pv, mv, q1, q2, q3, rfl, hr⟩
  · clear hX4 hY4 X4 Y4
    refine SX.skip ?_
    try simp only [andThen_normal, andThen_ret, andThen_exit, inBlk_normal, inBlk_ret, inBlk_exit, Nat.reduceEqDiff, if_true, if_false, ↓reduceIte]
    refine hK2 _ _ ?_
    try clear hK2 K2
    refine SX.seq_k fun K6 hK6 => ?_
    refine SX.region_d [some 9, some 10, some 11, some 12, some 13, some 14, some 15, some 16] rfl (fun ops hops => ?_)
    unfold Dsts at hops
    simp (maxSteps:=1000000)(dsimp:=false)(disch:=omega) only [go_sem, ia_someH, hP, hops]
    repeat' ((first | refine ⟨_, Cell.at 0 rfl rfl, ?_⟩ | refine ⟨0, _, _, _, rfl, (by rw [pcells_length]; omega), .inr (by first | decide | exact Nat.zero_le _), ?_⟩ | (refine SCall.mono (x_spec (i := 0) hP rfl hx) ?_; rintro v_ L_ ⟨hv_, hL_⟩; rw [hv_, hL_]; clear hv_ hL_ v_ L_) | refine ⟨_, x_spec (i := 0) hP rfl hx, ?_⟩ | refine ⟨_, fun L0 hl0 => x_spec (i := 0) hP rfl hx, ?_⟩ | (refine SCall.mono (y_spec (i := 0) hP rfl hy) ?_; rintro v_ L_ ⟨hv_, hL_⟩; rw [hv_, hL_]; clear hv_ hL_ v_ L_) | refine ⟨_, y_spec (i := 0) hP rfl hy, ?_⟩ | refine ⟨_, fun L0 hl0 => y_spec (i := 0) hP rfl hy, ?_⟩ | (refine SCall.mono (let_spec hP hx hg.V) ?_; rintro v_ L_ ⟨hv_, hL_⟩; rw [hv_, hL_]; clear hv_ hL_ v_ L_) | refine ⟨_, let_spec hP hx hg.V, ?_⟩ | refine ⟨_, fun L0 hl0 => let_spec hP hx hg.V, ?_⟩ | (refine SCall.mono (skip_spec hP) ?_; rintro v_ L_ ⟨hv_, hL_⟩; rw [hv_, hL_]; clear hv_ hL_ v_ L_) | refine ⟨_, skip_spec hP, ?_⟩ | refine ⟨_, fun L0 hl0 => skip_spec hP, ?_⟩ | (refine SCall.mono (flagged_spec hP hx hg.V) ?_; rintro v_ L_ ⟨hv_, hL_⟩; rw [hv_, hL_]; clear hv_ hL_ v_ L_) | refine ⟨_, flagged_spec hP hx hg.V, ?_⟩ | refine ⟨_, fun L0 hl0 => flagged_spec hP hx hg.V, ?_⟩ | (refine SCall.mono (truth_spec hP _) ?_; rintro v_ L_ ⟨hv_, hL_⟩; rw [hv_, hL_]; clear hv_ hL_ v_ L_) | refine ⟨_, truth_spec hP _, ?_⟩ | refine ⟨_, fun L0 hl0 => truth_spec hP _, ?_⟩ | (refine SCall.mono (down_spec (i := 0) hP rfl hx hg.Vb) ?_; rintro v_ L_ ⟨hv_, hL_⟩; rw [hv_, hL_]; clear hv_ hL_ v_ L_) | refine ⟨_, down_spec (i := 0) hP rfl hx hg.Vb, ?_⟩ | refine ⟨_, fun L0 hl0 => down_spec (i := 0) hP rfl hx hg.Vb, ?_⟩ | (refine SCall.mono (behind_spec hP hx) ?_; rintro v_ L_ ⟨hv_, hL_⟩; rw [hv_, hL_]; clear hv_ hL_ v_ L_) | refine ⟨_, behind_spec hP hx, ?_⟩ | refine ⟨_, fun L0 hl0 => behind_spec hP hx, ?_⟩ | refine And.intro (by omega) ?_ | fail); try (with_reducible refine stI ?_); try simp (maxSteps:=1000000)(dsimp:=false)(disch:=omega) only [go_sem, ia_someH, hP, hops])
    refine hK6 _ _ ?_
    try clear hK6 K6
    refine SX.live [] (fun T1 hT1 => ?_)
    clear hT1
    refine SX.seq_k fun K7 hK7 => ?_
    refine SX.region_d [some 2] rfl (fun ops hops => ?_)
    unfold Dsts at hops
    simp (maxSteps:=1000000)(dsimp:=false)(disch:=omega) only [go_sem, ia_someH, hP, hops]
    repeat' ((first | refine ⟨_, Cell.at 0 rfl rfl, ?_⟩ | refine ⟨0, _, _, _, rfl, (by rw [pcells_length]; omega), .inr (by first | decide | exact Nat.zero_le _), ?_⟩ | fail); try (with_reducible refine stI ?_); try simp (maxSteps:=1000000)(dsimp:=false)(disch:=omega) only [go_sem, ia_someH, hP, hops])
    refine hK7 _ _ ?_
    try clear hK7 K7
    refine SX.ret ?_
    simp only [andThen_normal, andThen_ret, andThen_exit, inBlk_normal, inBlk_ret, inBlk_exit, Nat.reduceEqDiff, if_true, if_false, ↓reduceIte, retQ_ret]
    try simp only [res0, res1, res2, res3, stK_e, go_sem, ia_someH, hP]
    refine ⟨_, _, Less.refl _, rfl, ?_⟩
    unfold keyG
    rw [if_neg (by first | exact hc7 | omega)]
    exact ⟨rfl, sv, pv, mv, q1, q2, q3, rfl, ⟨hr.st, hr.pg, hr.mm⟩⟩

end Go.Proofs.Ytgioegdjeodpiaa
set_option linter.unusedVariables false
set_option linter.unusedSimpArgs false
namespace Go.Proofs.Ytgioegdjeodpiaa
open Go.RowKit Go.SX
open Go.SX renaming ia_someH → Φa

theorem lessPut (p : Slot) (i : Nat) (L : Hp) : Less (p :: L) (L.set i p) := fun _ _ h => h.put i
theorem rowMade (k : IntKind) (e b n : Nat) (hb : n ≤ 9223372036854775807) : RowI k e (.slice (some ⟨b, 0, none⟩) (List.replicate n (0 : Int)).length n) (List.replicate n 0) (some (b, .cells (zerosV [.int k 0] n).toArray e (0, 0))) := by
  have h : zerosV [.int k 0] n = ints k (List.replicate n 0) ++ [] := by simp [zerosV, ints]
  exact ⟨by rw [ints_length, Nat.mul_one], .inr ⟨b, n, [], rfl, by rw [h], ⟨by simp, hb⟩, by simp [ints_length]⟩⟩
theorem rowShape {k : IntKind} {e : Nat} {v : Value} {l : List Int} {s : Slot} (h : RowI k e v l s) : ∃ A c, v = .slice A l.length c ∧ l.length ≤ c := by
  rcases h with ⟨_, ⟨rfl, hn, _⟩ | ⟨r, cap, junk, rfl, _, h3, _⟩⟩
  · exact ⟨none, 0, by rw [hn], by omega⟩
  · exact ⟨_, _, rfl, h3.1⟩
theorem takeSplit {k : IntKind} {l : List Int} {n : Nat} {js : List Value} : ints k l ++ js = ints k (l.take n) ++ (ints k (l.drop n) ++ js) := by rw [← List.append_assoc, ← ints_app, List.take_append_drop]
theorem slTake {Γ : Ctx} {L : Hp} {k : IntKind} {xs : List Int} {js : List Value} {b n c : Nat} {e : TypeId} {fr : Nat × Nat} (i : Nat) (hL : L[i]? = some (some (b, .cells (ints k xs ++ js).toArray e fr))) (hn : n ≤ xs.length) (hc : n ≤ c) : SlI k (Cell Γ L) (.slice (some ⟨b, 0, none⟩) n c) (xs.take n) :=
  SlI.row i (by rw [hL, takeSplit (n := n)]) (by simp; omega) hc
theorem lessOne (p : Slot) : ∀ L : Hp, Less (p :: L) [p]
  | [] => Less.refl _
  | q :: L => (lessPut p 0 (q :: L)).trans (lessOne p L)
def cloneR (k : IntKind) (e : Nat) (L : Hp) (l : List Int) (v : Value) (L' : Hp) : Prop := ∃ s, L' = s :: L ∧ RowI k e v l s
theorem rowEmpty (k : IntKind) (e b : Nat) : RowI k e (.slice (some ⟨b, 0, none⟩) 0 0) [] (some (b, .cells #[] e (0, 0))) := ⟨rfl, .inr ⟨b, 0, [], rfl, rfl, ⟨Nat.le_refl _, by decide⟩, rfl⟩⟩
theorem wd_app {l : List Int} (h : Wd l) {x : Int} (hx : 0 ≤ x ∧ x ≤ 65535) : Wd (l ++ [x]) := fun y hy => by
  rcases List.mem_append.1 hy with h1 | h1
  · exact h y h1
  · rw [List.mem_singleton.1 h1]; exact hx
set_option maxHeartbeats 1000000 in
set_option maxRecDepth 100000 in
theorem cloneW_spec {Γ : Ctx} (hP : Γ.P = Try.prog) {L : Hp} {v : Value} {l : List Int} (hx : SlI .u16 (Cell Γ L) v l) (hl : l.length ≤ 1000000) :
    SCall Γ 45 #[v] L (cloneR .u16 26 L l) := by
  obtain ⟨A, c, rfl, hc, hA⟩ := id hx
  refine SCall.enter (n := 8) (res1 2) (hP ▸ Try.func45) rfl rfl (by simp) (res1_ok rfl) ?_
  refine SX.seq_k fun K1 hK1 => ?_
  refine SX.region_d [some 2] rfl (fun ops hops => ?_)
  unfold Dsts at hops
  simp (maxSteps:=1000000)(dsimp:=false)(disch:=omega) only [go_sem, Φa, hP, hops]
  refine hK1 _ _ ?_
  try clear hK1 K1
  refine SX.seq_k fun K2 hK2 => ?_
  refine SX.seq_k fun K3 hK3 => ?_
  refine SX.region_d [some 3, some 4] rfl (fun ops hops => ?_)
  unfold Dsts at hops
  simp (maxSteps:=1000000)(dsimp:=false)(disch:=omega) only [go_sem, Φa, hP, hops]
  repeat' ((first | refine And.intro (by omega) ?_ | fail); try (with_reducible refine stI ?_); try simp (maxSteps:=1000000)(dsimp:=false)(disch:=omega) only [go_sem, Φa, hP, hops])
  refine hK3 _ _ ?_
  try clear hK3 K3
  refine SX.cond_k fun X4 Y4 hX4 hY4 => ?_
  simp (maxSteps:=1000000)(dsimp:=false)(disch:=omega) only [go_sem, Φa, hP, condVC]
  refine ⟨fun hc4 => hX4 ?_, fun hc4 => hY4 ?_⟩
  · clear hX4 hY4 X4 Y4
    refine SX.seq_k fun K5 hK5 => ?_
    refine SX.region_d [some 2] rfl (fun ops hops => ?_)
    unfold Dsts at hops
    simp (maxSteps:=1000000)(dsimp:=false)(disch:=omega) only [go_sem, Φa, hP, hops]
    refine hK5 _ _ ?_
    try clear hK5 K5
    refine SX.ret ?_
    simp only [andThen_normal, andThen_ret, andThen_exit, inBlk_normal, inBlk_ret, inBlk_exit, Nat.reduceEqDiff, if_true, if_false, ↓reduceIte, retQ_ret]
    try simp only [res0, res1, res2, res3, stK_e, go_sem, Φa, hP]
    rcases A with _ | A
    · obtain rfl : l = [] := by
        cases l with
        | nil => rfl
        | cons x xs =>
          obtain ⟨a, h, _⟩ := hA 0 x rfl
          cases h
      exact ⟨_, _, Less.none _, rfl, none, rfl, RowI.nil _ _⟩
    · exact absurd hc4 (by simp)
  · clear hX4 hY4 X4 Y4
    refine SX.skip ?_
    try simp only [andThen_normal, andThen_ret, andThen_exit, inBlk_normal, inBlk_ret, inBlk_exit, Nat.reduceEqDiff, if_true, if_false, ↓reduceIte]
    refine hK2 _ _ ?_
    try clear hK2 K2
    refine SX.seq_k fun K6 hK6 => ?_
    rcases A with _ | A
    · exact absurd hc4 (by simp)
    refine SX.region_d [some 5, some 6, some 7, some 2] rfl (fun ops hops => ?_)
    unfold Dsts at hops
    simp (maxSteps:=1000000)(dsimp:=false)(disch:=omega) only [go_sem, Φa, hP, hops]
    intro bb
    try with_reducible refine stI ?_
    try simp (maxSteps:=1000000)(dsimp:=false)(disch:=omega) only [go_sem, Φa, hP, hops]
    refine YAppend.ints (i := 0) (hP ▸ T.elS_27) (hP ▸ T.zr_26) rfl rfl (rowEmpty .u16 26 bb) (SlI.cons _ hx) (by simp; omega) (by decide) (fun v_ s_ hr_ => ?_)
    try with_reducible refine stI ?_
    try simp (maxSteps:=1000000)(dsimp:=false)(disch:=omega) only [go_sem, Φa, hP, hops]
    refine hK6 _ _ ?_
    try clear hK6 K6
    refine SX.ret ?_
    simp only [andThen_normal, andThen_ret, andThen_exit, inBlk_normal, inBlk_ret, inBlk_exit, Nat.reduceEqDiff, if_true, if_false, ↓reduceIte, retQ_ret]
    try simp only [res0, res1, res2, res3, stK_e, go_sem, Φa, hP]
    exact ⟨_, _, Less.refl _, rfl, s_, rfl, hr_⟩
set_option maxHeartbeats 1000000 in
set_option maxRecDepth 100000 in
theorem cloneB_spec {Γ : Ctx} (hP : Γ.P = Try.prog) {L : Hp} {v : Value} {l : List Int} (hx : SlI .u8 (Cell Γ L) v l) (hl : l.length ≤ 1000000) :
    SCall Γ 46 #[v] L (cloneR .u8 5 L l) := by
  obtain ⟨A, c, rfl, hc, hA⟩ := id hx
  refine SCall.enter (n := 8) (res1 2) (hP ▸ Try.func46) rfl rfl (by simp) (res1_ok rfl) ?_
  refine SX.seq_k fun K1 hK1 => ?_
  refine SX.region_d [some 2] rfl (fun ops hops => ?_)
  unfold Dsts at hops
  simp (maxSteps:=1000000)(dsimp:=false)(disch:=omega) only [go_sem, Φa, hP, hops]
  refine hK1 _ _ ?_
  try clear hK1 K1
  refine SX.seq_k fun K2 hK2 => ?_
  refine SX.seq_k fun K3 hK3 => ?_
  refine SX.region_d [some 3, some 4] rfl (fun ops hops => ?_)
  unfold Dsts at hops
  simp (maxSteps:=1000000)(dsimp:=false)(disch:=omega) only [go_sem, Φa, hP, hops]
  repeat' ((first | refine And.intro (by omega) ?_ | fail); try (with_reducible refine stI ?_); try simp (maxSteps:=1000000)(dsimp:=false)(disch:=omega) only [go_sem, Φa, hP, hops])
  refine hK3 _ _ ?_
  try clear hK3 K3
  refine SX.cond_k fun X4 Y4 hX4 hY4 => ?_
  simp (maxSteps:=1000000)(dsimp:=false)(disch:=omega) only [go_sem, Φa, hP, condVC]
  refine ⟨fun hc4 => hX4 ?_, fun hc4 => hY4 ?_⟩
  · clear hX4 hY4 X4 Y4
    refine SX.seq_k fun K5 hK5 => ?_
    refine SX.region_d [some 2] rfl (fun ops hops => ?_)
    unfold Dsts at hops
    simp (maxSteps:=1000000)(dsimp:=false)(disch:=omega) only [go_sem, Φa, hP, hops]
    refine hK5 _ _ ?_
    try clear hK5 K5
    refine SX.ret ?_
    simp only [andThen_normal, andThen_ret, andThen_exit, inBlk_normal, inBlk_ret, inBlk_exit, Nat.reduceEqDiff, if_true, if_false, ↓reduceIte, retQ_ret]
    try simp only [res0, res1, res2, res3, stK_e, go_sem, Φa, hP]
    rcases A with _ | A
    · obtain rfl : l = [] := by
        cases l with
        | nil => rfl
        | cons x xs =>
          obtain ⟨a, h, _⟩ := hA 0 x rfl
          cases h
      exact ⟨_, _, Less.none _, rfl, none, rfl, RowI.nil _ _⟩
    · exact absurd hc4 (by simp)
  · clear hX4 hY4 X4 Y4
    refine SX.skip ?_
    try simp only [andThen_normal, andThen_ret, andThen_exit, inBlk_normal, inBlk_ret, inBlk_exit, Nat.reduceEqDiff, if_true, if_false, ↓reduceIte]
    refine hK2 _ _ ?_
    try clear hK2 K2
    refine SX.seq_k fun K6 hK6 => ?_
    rcases A with _ | A
    · exact absurd hc4 (by simp)
    refine SX.region_d [some 5, some 6, some 7, some 2] rfl (fun ops hops => ?_)
    unfold Dsts at hops
    simp (maxSteps:=1000000)(dsimp:=false)(disch:=omega) only [go_sem, Φa, hP, hops]
    intro bb
    try with_reducible refine stI ?_
    try simp (maxSteps:=1000000)(dsimp:=false)(disch:=omega) only [go_sem, Φa, hP, hops]
    refine YAppend.ints (i := 0) (hP ▸ T.elS_23) (hP ▸ T.zr_5) rfl rfl (rowEmpty .u8 5 bb) (SlI.cons _ hx) (by simp; omega) (by decide) (fun v_ s_ hr_ => ?_)
    try with_reducible refine stI ?_
    try simp (maxSteps:=1000000)(dsimp:=false)(disch:=omega) only [go_sem, Φa, hP, hops]
    refine hK6 _ _ ?_
    try clear hK6 K6
    refine SX.ret ?_
    simp only [andThen_normal, andThen_ret, andThen_exit, inBlk_normal, inBlk_ret, inBlk_exit, Nat.reduceEqDiff, if_true, if_false, ↓reduceIte, retQ_ret]
    try simp only [res0, res1, res2, res3, stK_e, go_sem, Φa, hP]
    exact ⟨_, _, Less.refl _, rfl, s_, rfl, hr_⟩
set_option maxHeartbeats 1000000 in
set_option maxRecDepth 100000 in
theorem clear_spec {Γ : Ctx} (hP : Γ.P = Try.prog) {L : Hp} {gp : Nat} {g : GM} {sv pv mv : Value} {o : Ord} {f : Fnt} {fv : Value} {d : Feed} {q1 q2 q3 : Slot} (hg : OkG g) (hr : Rows g sv pv mv q1 q2 q3) (ho : OkO o) (hx : o.x < 16) (hy : o.y < 16) (hd : OkD d) :
    SCall Γ 47 #[(.pointer (some ⟨gp, 0, none⟩))] (PS gp g sv pv mv o f fv d :: q1 :: q2 :: q3 :: L) (mres gp o f fv d L (1, { g with pg := List.replicate 256 0 })) := by
  have hbx := byte_at hg.Vb o.x
  have hby := byte_at hg.Vb o.y
  have hob := ho.b
  have hoa := ho.a
  have hox := ho.x
  have hPCb := hg.PC
  have hIb := hg.I
  have hrb := hd.rnd
  have hkb := hd.keys
  have hdl := hg.dl
  have hsd := hg.sd
  refine SCall.enter (n := 8) (res1 2) (hP ▸ Try.func47) rfl rfl (by simp) (res1_ok rfl) ?_
  refine SX.seq_k fun K1 hK1 => ?_
  refine SX.region_d [some 2] rfl (fun ops hops => ?_)
  unfold Dsts at hops
  simp (maxSteps:=1000000)(dsimp:=false)(disch:=omega) only [go_sem, Φa, hP, hops]
  repeat' ((first | refine ⟨_, Cell.at 0 rfl rfl, ?_⟩ | refine ⟨0, _, _, _, rfl, (by rw [pcells_length]; omega), .inr (by first | decide | exact Nat.zero_le _), ?_⟩ | fail); try (with_reducible refine stI ?_); try simp (maxSteps:=1000000)(dsimp:=false)(disch:=omega) only [go_sem, Φa, hP, hops])
  refine hK1 _ _ ?_
  try clear hK1 K1
  refine SX.seq_k fun K2 hK2 => ?_
  refine SX.region_d [some 3, some 4, some 5, some 6, some 7, none] rfl (fun ops hops => ?_)
  unfold Dsts at hops
  simp (maxSteps:=1000000)(dsimp:=false)(disch:=omega) only [go_sem, Φa, hP, hops]
  intro bb
  try with_reducible refine stI ?_
  try simp (maxSteps:=1000000)(dsimp:=false)(disch:=omega) only [go_sem, Φa, hP, hops]
  refine ⟨1, _, _, _, rfl, (by rw [pcells_length]; omega), .inr (by decide), ?_⟩
  try with_reducible refine stI ?_
  try simp (maxSteps:=1000000)(dsimp:=false)(disch:=omega) only [go_sem, Φa, hP, hops]
  refine hK2 _ _ ?_
  try clear hK2 K2
  refine SX.seq_k fun K3 hK3 => ?_
  refine SX.region_d [some 2] rfl (fun ops hops => ?_)
  unfold Dsts at hops
  simp (maxSteps:=1000000)(dsimp:=false)(disch:=omega) only [go_sem, Φa, hP, hops]
  repeat' ((first | refine ⟨_, Cell.at 0 rfl rfl, ?_⟩ | refine ⟨0, _, _, _, rfl, (by rw [pcells_length]; omega), .inr (by first | decide | exact Nat.zero_le _), ?_⟩ | fail); try (with_reducible refine stI ?_); try simp (maxSteps:=1000000)(dsimp:=false)(disch:=omega) only [go_sem, Φa, hP, hops])
  refine hK3 _ _ ?_
  try clear hK3 K3
  refine SX.ret ?_
  simp only [andThen_normal, andThen_ret, andThen_exit, inBlk_normal, inBlk_ret, inBlk_exit, Nat.reduceEqDiff, if_true, if_false, ↓reduceIte, retQ_ret]
  try simp only [res0, res1, res2, res3, stK_e, go_sem, Φa, hP]
  refine ⟨_, _, lessPut _ 2 _, rfl, rfl, sv, _, mv, q1, _, q3, rfl, ⟨hr.st, rowMade .u8 5 bb 256 (by decide), hr.mm⟩⟩
set_option maxHeartbeats 1000000 in
set_option maxRecDepth 100000 in
theorem back_spec {Γ : Ctx} (hP : Γ.P = Try.prog) {L : Hp} {gp : Nat} {g : GM} {sv pv mv : Value} {o : Ord} {f : Fnt} {fv : Value} {d : Feed} {q1 q2 q3 : Slot} (hg : OkG g) (hr : Rows g sv pv mv q1 q2 q3) (ho : OkO o) (hx : o.x < 16) (hy : o.y < 16) (hd : OkD d) (hst : g.st.length ≤ 12) :
    SCall Γ 48 #[(.pointer (some ⟨gp, 0, none⟩))] (PS gp g sv pv mv o f fv d :: q1 :: q2 :: q3 :: L) (mres gp o f fv d L (backG g)) := by
  have hbx := byte_at hg.Vb o.x
  have hby := byte_at hg.Vb o.y
  have hob := ho.b
  have hoa := ho.a
  have hox := ho.x
  have hPCb := hg.PC
  have hIb := hg.I
  have hrb := hd.rnd
  have hkb := hd.keys
  have hdl := hg.dl
  have hsd := hg.sd
  obtain ⟨sb, scap, rfl, hsc⟩ := rowShape hr.st
  refine SCall.enter (n := 38) (res1 2) (hP ▸ Try.func48) rfl rfl (by simp) (res1_ok rfl) ?_
  refine SX.seq_k fun K1 hK1 => ?_
  refine SX.region_d [some 2] rfl (fun ops hops => ?_)
  unfold Dsts at hops
  simp (maxSteps:=1000000)(dsimp:=false)(disch:=omega) only [go_sem, Φa, hP, hops]
  repeat' ((first | refine ⟨_, Cell.at 0 rfl rfl, ?_⟩ | refine ⟨0, _, _, _, rfl, (by rw [pcells_length]; omega), .inr (by first | decide | exact Nat.zero_le _), ?_⟩ | fail); try (with_reducible refine stI ?_); try simp (maxSteps:=1000000)(dsimp:=false)(disch:=omega) only [go_sem, Φa, hP, hops])
  refine hK1 _ _ ?_
  try clear hK1 K1
  refine SX.seq_k fun K2 hK2 => ?_
  refine SX.region_d [some 4, some 5, some 6, some 7, some 8, some 9, some 3] rfl (fun ops hops => ?_)
  unfold Dsts at hops
  simp (maxSteps:=1000000)(dsimp:=false)(disch:=omega) only [go_sem, Φa, hP, hops]
  repeat' ((first | refine ⟨_, Cell.at 0 rfl rfl, ?_⟩ | refine ⟨0, _, _, _, rfl, (by rw [pcells_length]; omega), .inr (by first | decide | exact Nat.zero_le _), ?_⟩ | (refine SCall.mono (x_spec (i := 0) hP rfl hx) ?_; rintro v_ L_ ⟨hv_, hL_⟩; rw [hv_, hL_]; clear hv_ hL_ v_ L_) | refine ⟨_, x_spec (i := 0) hP rfl hx, ?_⟩ | refine ⟨_, fun L0 hl0 => x_spec (i := 0) hP rfl hx, ?_⟩ | (refine SCall.mono (y_spec (i := 0) hP rfl hy) ?_; rintro v_ L_ ⟨hv_, hL_⟩; rw [hv_, hL_]; clear hv_ hL_ v_ L_) | refine ⟨_, y_spec (i := 0) hP rfl hy, ?_⟩ | refine ⟨_, fun L0 hl0 => y_spec (i := 0) hP rfl hy, ?_⟩ | (refine SCall.mono (let_spec hP hx hg.V) ?_; rintro v_ L_ ⟨hv_, hL_⟩; rw [hv_, hL_]; clear hv_ hL_ v_ L_) | refine ⟨_, let_spec hP hx hg.V, ?_⟩ | refine ⟨_, fun L0 hl0 => let_spec hP hx hg.V, ?_⟩ | (refine SCall.mono (skip_spec hP) ?_; rintro v_ L_ ⟨hv_, hL_⟩; rw [hv_, hL_]; clear hv_ hL_ v_ L_) | refine ⟨_, skip_spec hP, ?_⟩ | refine ⟨_, fun L0 hl0 => skip_spec hP, ?_⟩ | (refine SCall.mono (flagged_spec hP hx hg.V) ?_; rintro v_ L_ ⟨hv_, hL_⟩; rw [hv_, hL_]; clear hv_ hL_ v_ L_) | refine ⟨_, flagged_spec hP hx hg.V, ?_⟩ | refine ⟨_, fun L0 hl0 => flagged_spec hP hx hg.V, ?_⟩ | (refine SCall.mono (truth_spec hP _) ?_; rintro v_ L_ ⟨hv_, hL_⟩; rw [hv_, hL_]; clear hv_ hL_ v_ L_) | refine ⟨_, truth_spec hP _, ?_⟩ | refine ⟨_, fun L0 hl0 => truth_spec hP _, ?_⟩ | (refine SCall.mono (down_spec (i := 0) hP rfl hx hg.Vb) ?_; rintro v_ L_ ⟨hv_, hL_⟩; rw [hv_, hL_]; clear hv_ hL_ v_ L_) | refine ⟨_, down_spec (i := 0) hP rfl hx hg.Vb, ?_⟩ | refine ⟨_, fun L0 hl0 => down_spec (i := 0) hP rfl hx hg.Vb, ?_⟩ | (refine SCall.mono (behind_spec hP hx) ?_; rintro v_ L_ ⟨hv_, hL_⟩; rw [hv_, hL_]; clear hv_ hL_ v_ L_) | refine ⟨_, behind_spec hP hx, ?_⟩ | refine ⟨_, fun L0 hl0 => behind_spec hP hx, ?_⟩ | refine And.intro (by omega) ?_ | fail); try (with_reducible refine stI ?_); try simp (maxSteps:=1000000)(dsimp:=false)(disch:=omega) only [go_sem, Φa, hP, hops])
  refine hK2 _ _ ?_
  try clear hK2 K2
  refine SX.seq_k fun K3 hK3 => ?_
  refine SX.seq_k fun K4 hK4 => ?_
  refine SX.region_d [some 10, some 11] rfl (fun ops hops => ?_)
  unfold Dsts at hops
  simp (maxSteps:=1000000)(dsimp:=false)(disch:=omega) only [go_sem, Φa, hP, hops]
  repeat' ((first | refine ⟨_, Cell.at 0 rfl rfl, ?_⟩ | refine ⟨0, _, _, _, rfl, (by rw [pcells_length]; omega), .inr (by first | decide | exact Nat.zero_le _), ?_⟩ | refine And.intro (by omega) ?_ | fail); try (with_reducible refine stI ?_); try simp (maxSteps:=1000000)(dsimp:=false)(disch:=omega) only [go_sem, Φa, hP, hops])
  refine hK4 _ _ ?_
  try clear hK4 K4
  refine SX.live [0, 3, 11] (fun T1 hT1 => ?_)
  simp only [forall_mem_cons', forall_mem_nil', go_sem, Φa, hP] at hT1
  obtain ⟨h1_0, h1_3, h1_11⟩ := hT1
  refine SX.cond_k fun X5 Y5 hX5 hY5 => ?_
  simp (maxSteps:=1000000)(dsimp:=false)(disch:=omega) only [go_sem, Φa, hP, h1_0, h1_3, h1_11, condVC]
  refine ⟨fun hc11 => hX5 ?_, fun hc11 => hY5 ?_⟩
  · clear hX5 hY5 X5 Y5
    refine SX.seq_k fun K6 hK6 => ?_
    refine SX.region_d [some 2] rfl (fun ops hops => ?_)
    unfold Dsts at hops
    simp (maxSteps:=1000000)(dsimp:=false)(disch:=omega) only [go_sem, Φa, hP, h1_0, h1_3, h1_11, hops]
    repeat' ((first | refine ⟨_, Cell.at 0 rfl rfl, ?_⟩ | refine ⟨0, _, _, _, rfl, (by rw [pcells_length]; omega), .inr (by first | decide | exact Nat.zero_le _), ?_⟩ | fail); try (with_reducible refine stI ?_); try simp (maxSteps:=1000000)(dsimp:=false)(disch:=omega) only [go_sem, Φa, hP, h1_0, h1_3, h1_11, hops])
    refine hK6 _ _ ?_
    try clear hK6 K6
    refine SX.ret ?_
    simp only [andThen_normal, andThen_ret, andThen_exit, inBlk_normal, inBlk_ret, inBlk_exit, Nat.reduceEqDiff, if_true, if_false, ↓reduceIte, retQ_ret]
    try simp only [res0, res1, res2, res3, stK_e, go_sem, Φa, hP, h1_0, h1_3, h1_11]
    refine ⟨_, _, Less.refl _, rfl, ?_⟩
    unfold backG
    rw [if_pos (by first | exact hc11 | omega)]
    exact ⟨rfl, _, pv, mv, q1, q2, q3, rfl, hr⟩
  · clear hX5 hY5 X5 Y5
    refine SX.skip ?_
    try simp only [andThen_normal, andThen_ret, andThen_exit, inBlk_normal, inBlk_ret, inBlk_exit, Nat.reduceEqDiff, if_true, if_false, ↓reduceIte]
    refine hK3 _ _ ?_
    try clear hK3 K3
    refine SX.seq_k fun K7 hK7 => ?_
    have hn : 0 < g.st.length := by omega
    obtain ⟨rs, caps, js, hsv, rfl, hcs, hjs⟩ := RowI.form2 hr.st hn
    cases hsv
    have hw64 : IntKind.i64.wrap ((g.st.length : Int) - 1) = ((g.st.length - 1 : Nat) : Int) := by rw [w64 (by omega)]; omega
    have hlt : ((g.st.length - 1 : Nat) : Int) < (g.st.length : Int) := by omega
    have hlast : (ints .u16 g.st ++ js)[g.st.length - 1]? = some (.int .u16 (g.st.getD (g.st.length - 1) 0)) := ints_app_at (by omega)
    refine SX.region_d [some 12, some 13, some 14, some 15, some 16, some 17, some 18, some 19, some 20, some 21, some 22, some 23, some 24, none] rfl (fun ops hops => ?_)
    unfold Dsts at hops
    simp (maxSteps:=1000000)(dsimp:=false)(disch:=omega) only [go_sem, Φa, hP, h1_0, h1_3, h1_11, hops, hw64]
    refine ⟨_, Cell.at 0 rfl (show (pcells _ _ _ _ _ _ _ _)[18]? = _ from rfl), ?_⟩
    try with_reducible refine stI ?_
    try simp (maxSteps:=1000000)(dsimp:=false)(disch:=omega) only [go_sem, Φa, hP, h1_0, h1_3, h1_11, hops, hw64]
    refine ⟨_, Cell.at 1 rfl hlast, ?_⟩
    try with_reducible refine stI ?_
    try simp (maxSteps:=1000000)(dsimp:=false)(disch:=omega) only [go_sem, Φa, hP, h1_0, h1_3, h1_11, hops, hw64]
    refine ⟨0, _, _, _, rfl, (by rw [pcells_length]; omega), .inr (by first | decide | exact Nat.zero_le _), ?_⟩
    try with_reducible refine stI ?_
    try simp (maxSteps:=1000000)(dsimp:=false)(disch:=omega) only [go_sem, Φa, hP, h1_0, h1_3, h1_11, hops, hw64]
    refine hK7 _ _ ?_
    try clear hK7 K7
    refine SX.live [0, 3] (fun T2 hT2 => ?_)
    simp only [forall_mem_cons', forall_mem_nil', go_sem, Φa, hP, h1_0, h1_3, h1_11] at hT2
    obtain ⟨h2_0, h2_3⟩ := hT2
    clear h1_0 h1_3 h1_11 T1
    refine SX.seq_k fun K8 hK8 => ?_
    have hcap0 : 0 < scap := by omega
    refine SX.region_d [some 25, some 26, some 27, some 28, some 29, some 30, some 31, some 32, some 33, some 34, some 35, some 36, some 37, none] rfl (fun ops hops => ?_)
    unfold Dsts at hops
    simp (maxSteps:=1000000)(dsimp:=false)(disch:=omega) only [go_sem, Φa, hP, h2_0, h2_3, hops, hw64, cutA_lt hcap0, Nat.sub_zero]
    refine ⟨_, Cell.at 0 rfl (show (pcells _ _ _ _ _ _ _ _)[18]? = _ from rfl), ?_⟩
    try with_reducible refine stI ?_
    try simp (maxSteps:=1000000)(dsimp:=false)(disch:=omega) only [go_sem, Φa, hP, h2_0, h2_3, hops, hw64, cutA_lt hcap0, Nat.sub_zero]
    refine SCall.mono (cloneW_spec hP (slTake (xs := g.st) 1 rfl (by omega) (by omega)) (by simp; omega)) ?_
    rintro v_ L_ ⟨s_, rfl, hr_⟩
    obtain ⟨A_, c_, rfl, hc_⟩ := rowShape hr_
    try with_reducible refine stI ?_
    try simp (maxSteps:=1000000)(dsimp:=false)(disch:=omega) only [go_sem, Φa, hP, h2_0, h2_3, hops, hw64, cutA_lt hcap0, Nat.sub_zero]
    refine ⟨1, _, _, _, rfl, (by simp [pcells_length]), .inr (by decide), ?_⟩
    try with_reducible refine stI ?_
    try simp (maxSteps:=1000000)(dsimp:=false)(disch:=omega) only [go_sem, Φa, hP, h2_0, h2_3, hops, hw64, cutA_lt hcap0, Nat.sub_zero]
    refine hK8 _ _ ?_
    try clear hK8 K8
    refine SX.live [] (fun T3 hT3 => ?_)
    clear hT3
    clear h2_0 h2_3 T2
    refine SX.seq_k fun K9 hK9 => ?_
    refine SX.region_d [some 2] rfl (fun ops hops => ?_)
    unfold Dsts at hops
    simp (maxSteps:=1000000)(dsimp:=false)(disch:=omega) only [go_sem, Φa, hP, hops]
    repeat' ((first | refine ⟨_, Cell.at 0 rfl rfl, ?_⟩ | refine ⟨0, _, _, _, rfl, (by rw [pcells_length]; omega), .inr (by first | decide | exact Nat.zero_le _), ?_⟩ | fail); try (with_reducible refine stI ?_); try simp (maxSteps:=1000000)(dsimp:=false)(disch:=omega) only [go_sem, Φa, hP, hops])
    refine hK9 _ _ ?_
    try clear hK9 K9
    refine SX.ret ?_
    simp only [andThen_normal, andThen_ret, andThen_exit, inBlk_normal, inBlk_ret, inBlk_exit, Nat.reduceEqDiff, if_true, if_false, ↓reduceIte, retQ_ret]
    try simp only [res0, res1, res2, res3, stK_e, go_sem, Φa, hP]
    refine ⟨_, _, lessPut _ 1 _, rfl, ?_⟩
    unfold backG
    rw [if_neg (by omega)]
    exact ⟨rfl, _, pv, mv, _, q2, q3, rfl, ⟨hr_, hr.pg, hr.mm⟩⟩
set_option maxHeartbeats 1000000 in
set_option maxRecDepth 100000 in
theorem call_spec {Γ : Ctx} (hP : Γ.P = Try.prog) {L : Hp} {gp : Nat} {g : GM} {sv pv mv : Value} {o : Ord} {f : Fnt} {fv : Value} {d : Feed} {q1 q2 q3 : Slot} (hg : OkG g) (hr : Rows g sv pv mv q1 q2 q3) (ho : OkO o) (hx : o.x < 16) (hy : o.y < 16) (hd : OkD d) (hst : g.st.length ≤ 12) :
    SCall Γ 50 #[(.pointer (some ⟨gp, 0, none⟩))] (PS gp g sv pv mv o f fv d :: q1 :: q2 :: q3 :: L) (mres gp o f fv d L (callG g o)) := by
  have hbx := byte_at hg.Vb o.x
  have hby := byte_at hg.Vb o.y
  have hob := ho.b
  have hoa := ho.a
  have hox := ho.x
  have hPCb := hg.PC
  have hIb := hg.I
  have hrb := hd.rnd
  have hkb := hd.keys
  have hdl := hg.dl
  have hsd := hg.sd
  obtain ⟨sb, scap, rfl, hsc⟩ := rowShape hr.st
  refine SCall.enter (n := 28) (res1 2) (hP ▸ Try.func50) rfl rfl (by simp) (res1_ok rfl) ?_
  refine SX.seq_k fun K1 hK1 => ?_
  refine SX.region_d [some 2] rfl (fun ops hops => ?_)
  unfold Dsts at hops
  simp (maxSteps:=1000000)(dsimp:=false)(disch:=omega) only [go_sem, Φa, hP, hops]
  repeat' ((first | refine ⟨_, Cell.at 0 rfl rfl, ?_⟩ | refine ⟨0, _, _, _, rfl, (by rw [pcells_length]; omega), .inr (by first | decide | exact Nat.zero_le _), ?_⟩ | fail); try (with_reducible refine stI ?_); try simp (maxSteps:=1000000)(dsimp:=false)(disch:=omega) only [go_sem, Φa, hP, hops])
  refine hK1 _ _ ?_
  try clear hK1 K1
  refine SX.seq_k fun K2 hK2 => ?_
  refine SX.seq_k fun K3 hK3 => ?_
  refine SX.region_d [some 3, some 4, some 5, some 6, some 7, some 8, some 9] rfl (fun ops hops => ?_)
  unfold Dsts at hops
  simp (maxSteps:=1000000)(dsimp:=false)(disch:=omega) only [go_sem, Φa, hP, hops]
  repeat' ((first | refine ⟨_, Cell.at 0 rfl rfl, ?_⟩ | refine ⟨0, _, _, _, rfl, (by rw [pcells_length]; omega), .inr (by first | decide | exact Nat.zero_le _), ?_⟩ | (refine SCall.mono (x_spec (i := 0) hP rfl hx) ?_; rintro v_ L_ ⟨hv_, hL_⟩; rw [hv_, hL_]; clear hv_ hL_ v_ L_) | refine ⟨_, x_spec (i := 0) hP rfl hx, ?_⟩ | refine ⟨_, fun L0 hl0 => x_spec (i := 0) hP rfl hx, ?_⟩ | (refine SCall.mono (y_spec (i := 0) hP rfl hy) ?_; rintro v_ L_ ⟨hv_, hL_⟩; rw [hv_, hL_]; clear hv_ hL_ v_ L_) | refine ⟨_, y_spec (i := 0) hP rfl hy, ?_⟩ | refine ⟨_, fun L0 hl0 => y_spec (i := 0) hP rfl hy, ?_⟩ | (refine SCall.mono (let_spec hP hx hg.V) ?_; rintro v_ L_ ⟨hv_, hL_⟩; rw [hv_, hL_]; clear hv_ hL_ v_ L_) | refine ⟨_, let_spec hP hx hg.V, ?_⟩ | refine ⟨_, fun L0 hl0 => let_spec hP hx hg.V, ?_⟩ | (refine SCall.mono (skip_spec hP) ?_; rintro v_ L_ ⟨hv_, hL_⟩; rw [hv_, hL_]; clear hv_ hL_ v_ L_) | refine ⟨_, skip_spec hP, ?_⟩ | refine ⟨_, fun L0 hl0 => skip_spec hP, ?_⟩ | (refine SCall.mono (flagged_spec hP hx hg.V) ?_; rintro v_ L_ ⟨hv_, hL_⟩; rw [hv_, hL_]; clear hv_ hL_ v_ L_) | refine ⟨_, flagged_spec hP hx hg.V, ?_⟩ | refine ⟨_, fun L0 hl0 => flagged_spec hP hx hg.V, ?_⟩ | (refine SCall.mono (truth_spec hP _) ?_; rintro v_ L_ ⟨hv_, hL_⟩; rw [hv_, hL_]; clear hv_ hL_ v_ L_) | refine ⟨_, truth_spec hP _, ?_⟩ | refine ⟨_, fun L0 hl0 => truth_spec hP _, ?_⟩ | (refine SCall.mono (down_spec (i := 0) hP rfl hx hg.Vb) ?_; rintro v_ L_ ⟨hv_, hL_⟩; rw [hv_, hL_]; clear hv_ hL_ v_ L_) | refine ⟨_, down_spec (i := 0) hP rfl hx hg.Vb, ?_⟩ | refine ⟨_, fun L0 hl0 => down_spec (i := 0) hP rfl hx hg.Vb, ?_⟩ | (refine SCall.mono (behind_spec hP hx) ?_; rintro v_ L_ ⟨hv_, hL_⟩; rw [hv_, hL_]; clear hv_ hL_ v_ L_) | refine ⟨_, behind_spec hP hx, ?_⟩ | refine ⟨_, fun L0 hl0 => behind_spec hP hx, ?_⟩ | refine And.intro (by omega) ?_ | fail); try (with_reducible refine stI ?_); try simp (maxSteps:=1000000)(dsimp:=false)(disch:=omega) only [go_sem, Φa, hP, hops])
  refine hK3 _ _ ?_
  try clear hK3 K3
  refine SX.cond_k fun X4 Y4 hX4 hY4 => ?_
  simp (maxSteps:=1000000)(dsimp:=false)(disch:=omega) only [go_sem, Φa, hP, condVC]
  refine ⟨fun hc9 => hX4 ?_, fun hc9 => hY4 ?_⟩
  · clear hX4 hY4 X4 Y4
    refine SX.seq_k fun K5 hK5 => ?_
    refine SX.region_d [some 2] rfl (fun ops hops => ?_)
    unfold Dsts at hops
    simp (maxSteps:=1000000)(dsimp:=false)(disch:=omega) only [go_sem, Φa, hP, hops]
    repeat' ((first | refine ⟨_, Cell.at 0 rfl rfl, ?_⟩ | refine ⟨0, _, _, _, rfl, (by rw [pcells_length]; omega), .inr (by first | decide | exact Nat.zero_le _), ?_⟩ | fail); try (with_reducible refine stI ?_); try simp (maxSteps:=1000000)(dsimp:=false)(disch:=omega) only [go_sem, Φa, hP, hops])
    refine hK5 _ _ ?_
    try clear hK5 K5
    refine SX.ret ?_
    simp only [andThen_normal, andThen_ret, andThen_exit, inBlk_normal, inBlk_ret, inBlk_exit, Nat.reduceEqDiff, if_true, if_false, ↓reduceIte, retQ_ret]
    try simp only [res0, res1, res2, res3, stK_e, go_sem, Φa, hP]
    refine ⟨_, _, Less.refl _, rfl, ?_⟩
    unfold callG
    rw [if_pos (by first | exact hc9 | omega)]
    exact ⟨rfl, _, pv, mv, q1, q2, q3, rfl, hr⟩
  · clear hX4 hY4 X4 Y4
    refine SX.skip ?_
    try simp only [andThen_normal, andThen_ret, andThen_exit, inBlk_normal, inBlk_ret, inBlk_exit, Nat.reduceEqDiff, if_true, if_false, ↓reduceIte]
    refine hK2 _ _ ?_
    try clear hK2 K2
    refine SX.seq_k fun K6 hK6 => ?_
    refine SX.drawn_d [(0, .q), (1, .q), (2, .q), (3, .q), (4, .q), (5, .q), (6, .q), (7, .q), (8, .q), (9, .q), (10, .q), (11, .e), (12, .e), (13, .q), (14, .q), (15, .q), (16, .t)] (fun _ => [PS gp g (.slice sb g.st.length scap) pv mv o f fv d]) (hP ▸ T.mixed) (by kernel_rfl) (by exact lessOne _ _) [some 10, some 11, some 12, some 13, some 14, some 15, some 16, some 17, some 18, some 19, some 20, some 21, some 22, some 23, some 24, some 25, none] rfl (fun ops hops hopl => ?_)
    unfold Dsts at hops
    simp (maxSteps:=1000000)(dsimp:=false)(disch:=omega) only [go_sem, Φa, hP, hops, hopl]
    refine ⟨_, Cell.at 0 rfl (show (pcells _ _ _ _ _ _ _ _)[18]? = _ from rfl), ?_⟩
    try with_reducible refine stI ?_
    try simp (maxSteps:=1000000)(dsimp:=false)(disch:=omega) only [go_sem, Φa, hP, hops, hopl]
    refine ⟨_, Cell.at 0 rfl (show (pcells _ _ _ _ _ _ _ _)[17]? = _ from rfl), ?_⟩
    try with_reducible refine stI ?_
    try simp (maxSteps:=1000000)(dsimp:=false)(disch:=omega) only [go_sem, Φa, hP, hops, hopl]
    intro bb
    try with_reducible refine stI ?_
    try simp (maxSteps:=1000000)(dsimp:=false)(disch:=omega) only [go_sem, Φa, hP, hops, hopl]
    refine And.intro (Less.drops (lessOne _ _)) ?_
    try with_reducible refine stI ?_
    try simp (maxSteps:=1000000)(dsimp:=false)(disch:=omega) only [go_sem, Φa, hP, hops, hopl]
    refine YAppend.int1 (i := 1) (hP ▸ T.elS_27) (hP ▸ T.zr_26) rfl rfl hr.st (by omega) (by decide) (fun v_ s_ hr_ => ?_)
    try with_reducible refine stI ?_
    try simp (maxSteps:=1000000)(dsimp:=false)(disch:=omega) only [go_sem, Φa, hP, hops, hopl]
    obtain ⟨A_, c_, rfl, hc_⟩ := rowShape hr_
    try with_reducible refine stI ?_
    try simp (maxSteps:=1000000)(dsimp:=false)(disch:=omega) only [go_sem, Φa, hP, hops, hopl]
    refine And.intro (Less.drops (lessOne _ _)) ?_
    try with_reducible refine stI ?_
    try simp (maxSteps:=1000000)(dsimp:=false)(disch:=omega) only [go_sem, Φa, hP, hops, hopl]
    refine ⟨1, _, _, _, rfl, (by simp [pcells_length]), .inr (by decide), ?_⟩
    try with_reducible refine stI ?_
    try simp (maxSteps:=1000000)(dsimp:=false)(disch:=omega) only [go_sem, Φa, hP, hops, hopl]
    refine hK6 _ _ ?_
    try clear hK6 K6
    refine SX.live [0] (fun T1 hT1 => ?_)
    simp only [forall_mem_cons', forall_mem_nil', go_sem, Φa, hP] at hT1
    have h1_0 := hT1; clear hT1
    refine SX.seq_k fun K7 hK7 => ?_
    refine SX.less (Less.drop _ _) ?_
    have hg' : OkG { g with st := g.st ++ [g.PC] } := ⟨hg.V, hg.Vb, hg.I, hg.PC, wd_app hg.st hg.PC, hg.dl, hg.sd, hg.pg, hg.mm⟩
    refine SX.region_d [some 26, some 27, some 2] rfl (fun ops hops => ?_)
    unfold Dsts at hops
    simp (maxSteps:=1000000)(dsimp:=false)(disch:=omega) only [go_sem, Φa, hP, h1_0, hops]
    refine SCall.mono (jump_spec (g := { g with st := g.st ++ [g.PC] }) hP hg' ⟨hr_, hr.pg, hr.mm⟩ ho hx hy hd) ?_
    rintro v_ L_ ⟨rfl, sv', pv', mv', p1, p2, p3, rfl, hr'⟩
    try with_reducible refine stI ?_
    try simp (maxSteps:=1000000)(dsimp:=false)(disch:=omega) only [go_sem, Φa, hP, h1_0, hops]
    refine hK7 _ _ ?_
    try clear hK7 K7
    refine SX.ret ?_
    simp only [andThen_normal, andThen_ret, andThen_exit, inBlk_normal, inBlk_ret, inBlk_exit, Nat.reduceEqDiff, if_true, if_false, ↓reduceIte, retQ_ret]
    try simp only [res0, res1, res2, res3, stK_e, go_sem, Φa, hP, h1_0]
    refine ⟨_, _, Less.refl _, rfl, ?_⟩
    unfold callG
    rw [if_neg (by omega)]
    exact ⟨rfl, _, _, _, _, _, _, rfl, hr'⟩

end Go.Proofs.Ytgioegdjeodpiaa
/-! Slots in another order. -/
namespace Go.SX
theorem SCall.of_less {Γ : Ctx} {f : FuncId} {args : Array Value} {L L0 : Hp} {R : Value → Hp → Prop} (hl : Less L L0) (h : SCall Γ f args L0 R) : SCall Γ f args L R := fun w hi => h w (hl _ _ hi)
/-- A slot behind four others. -/
theorem Less.behind4 (p a b c d : Slot) (L : Hp) : Less (p :: a :: b :: c :: d :: L) (a :: b :: c :: d :: p :: L) := Less.perm (List.perm_middle (l₁ := [a, b, c, d])).symm
theorem Less.front4 (p a b c d : Slot) (L : Hp) : Less (a :: b :: c :: d :: p :: L) (p :: a :: b :: c :: d :: L) := Less.perm (List.perm_middle (l₁ := [a, b, c, d]))
/-- A slot behind four others is let go. -/
theorem Less.drop4 (p a b c d : Slot) (L : Hp) : Less (a :: b :: c :: d :: p :: L) (a :: b :: c :: d :: L) := (Less.front4 p a b c d L).trans (Less.drop _ _)
end Go.SX
set_option linter.unusedVariables false
set_option linter.unusedSimpArgs false
namespace Go.Proofs.Ytgioegdjeodpiaa
open Go.RowKit Go.SX

def threeL (g : GM) (o : Ord) : List Int := [g.V.getD o.x 0 / 100, g.V.getD o.x 0 / 10 % 10, g.V.getD o.x 0 % 10]
def threeG (g : GM) (o : Ord) : Int × GM := match layG g (threeL g o) with
  | some g' => (1, g')
  | none => (7, g)
def storeG (g : GM) (o : Ord) : Int × GM := match layG g (g.V.take (o.x + 1)) with
  | some g' => (1, behindG g' o)
  | none => (7, g)
def drawG (g : GM) (o : Ord) (f : Fnt) : Int × GM := match rowG g f o.n with
  | none => (7, g)
  | some rows => (1, { g with pg := (drawn g.pg (vG g o.x).toNat (vG g o.y).toNat rows).2, V := g.V.set 15 (truthI (drawn g.pg (vG g o.x).toNat (vG g o.y).toNat rows).1) })
def fillG (g : GM) (o : Ord) (f : Fnt) : Int × GM := match rowG g f (o.x + 1) with
  | none => (7, g)
  | some l => (1, behindG { g with V := spliceL g.V 0 l } o)
theorem layG_fields {g g' : GM} {bs : List Int} (h : layG g bs = some g') : g' = { g with mm := spliceL g.mm (g.I - 512).toNat bs } := by
  unfold layG at h
  split at h
  · cases h; rfl
  · cases h
theorem sliceV {Γ : Ctx} {L : Hp} {gp i n c : Nat} {g : GM} {sv pv mv : Value} {o : Ord} {f : Fnt} {fv : Value} {d : Feed} (hV : g.V.length = 16) (hi : L[i]? = some (PS gp g sv pv mv o f fv d)) (hn : n ≤ 16) (hc : n ≤ c) : SlI .u8 (Cell Γ L) (.slice (some ⟨gp, 0, none⟩) n c) (g.V.take n) := by
  refine ⟨_, c, by rw [List.length_take, hV, Nat.min_eq_left hn], by rw [List.length_take, hV]; omega, fun j x hj => ⟨_, rfl, ?_⟩⟩
  show Cell Γ L _ _
  rw [Nat.mul_one, Addr.add_lit, Nat.zero_add]
  have hj' := (List.getElem?_eq_some_iff.1 hj).1
  rw [List.length_take] at hj'
  have hx : g.V.getD j 0 = x := by
    rw [List.getElem?_take_of_lt (by omega)] at hj
    rw [List.getD_eq_getElem?_getD, hj]; rfl
  rw [← hx]
  exact Cell.at i hi (pV (by omega))
set_option maxHeartbeats 1000000 in
set_option maxRecDepth 100000 in
theorem three_spec {Γ : Ctx} (hP : Γ.P = Try.prog) {L : Hp} {gp : Nat} {g : GM} {sv pv mv : Value} {o : Ord} {f : Fnt} {fv : Value} {d : Feed} {q1 q2 q3 : Slot} (hg : OkG g) (hr : Rows g sv pv mv q1 q2 q3) (ho : OkO o) (hx : o.x < 16) (hy : o.y < 16) (hd : OkD d) (hml : g.mm.length = 3232) :
    SCall Γ 74 #[(.pointer (some ⟨gp, 0, none⟩))] (PS gp g sv pv mv o f fv d :: q1 :: q2 :: q3 :: L) (mres gp o f fv d L (threeG g o)) := by
  have hbx := byte_at hg.Vb o.x
  have hby := byte_at hg.Vb o.y
  have hob := ho.b
  have hoa := ho.a
  have hox := ho.x
  have hPCb := hg.PC
  have hIb := hg.I
  have hrb := hd.rnd
  have hkb := hd.keys
  have hdl := hg.dl
  have hsd := hg.sd
  refine SCall.enter (n := 17) (res1 2) (hP ▸ Try.func74) rfl rfl (by simp) (res1_ok rfl) ?_
  refine SX.seq_k fun K1 hK1 => ?_
  refine SX.region_d [some 2] rfl (fun ops hops => ?_)
  unfold Dsts at hops
  simp (maxSteps := 1000000) (dsimp := false) (disch := omega) only [go_sem, ia_someH, hP, hops]
  repeat' ((first | refine ⟨_, Cell.at 0 rfl rfl, ?_⟩ | refine ⟨0, _, _, _, rfl, (by rw [pcells_length]; omega), .inr (by first | decide | exact Nat.zero_le _), ?_⟩ | fail); try (with_reducible refine stI ?_); try simp (maxSteps := 1000000) (dsimp := false) (disch := omega) only [go_sem, ia_someH, hP, hops])
  refine hK1 _ _ ?_
  try clear hK1 K1
  refine SX.seq_k fun K2 hK2 => ?_
  refine SX.region_d [some 4, some 5, some 3] rfl (fun ops hops => ?_)
  unfold Dsts at hops
  simp (maxSteps := 1000000) (dsimp := false) (disch := omega) only [go_sem, ia_someH, hP, hops]
  repeat' ((first | refine ⟨_, Cell.at 0 rfl rfl, ?_⟩ | refine ⟨0, _, _, _, rfl, (by rw [pcells_length]; omega), .inr (by first | decide | exact Nat.zero_le _), ?_⟩ | (refine SCall.mono (x_spec (i := 0) hP rfl hx) ?_; rintro v_ L_ ⟨hv_, hL_⟩; rw [hv_, hL_]; clear hv_ hL_ v_ L_) | refine ⟨_, x_spec (i := 0) hP rfl hx, ?_⟩ | refine ⟨_, fun L0 hl0 => x_spec (i := 0) hP rfl hx, ?_⟩ | (refine SCall.mono (y_spec (i := 0) hP rfl hy) ?_; rintro v_ L_ ⟨hv_, hL_⟩; rw [hv_, hL_]; clear hv_ hL_ v_ L_) | refine ⟨_, y_spec (i := 0) hP rfl hy, ?_⟩ | refine ⟨_, fun L0 hl0 => y_spec (i := 0) hP rfl hy, ?_⟩ | (refine SCall.mono (let_spec hP hx hg.V) ?_; rintro v_ L_ ⟨hv_, hL_⟩; rw [hv_, hL_]; clear hv_ hL_ v_ L_) | refine ⟨_, let_spec hP hx hg.V, ?_⟩ | refine ⟨_, fun L0 hl0 => let_spec hP hx hg.V, ?_⟩ | (refine SCall.mono (skip_spec hP) ?_; rintro v_ L_ ⟨hv_, hL_⟩; rw [hv_, hL_]; clear hv_ hL_ v_ L_) | refine ⟨_, skip_spec hP, ?_⟩ | refine ⟨_, fun L0 hl0 => skip_spec hP, ?_⟩ | (refine SCall.mono (flagged_spec hP hx hg.V) ?_; rintro v_ L_ ⟨hv_, hL_⟩; rw [hv_, hL_]; clear hv_ hL_ v_ L_) | refine ⟨_, flagged_spec hP hx hg.V, ?_⟩ | refine ⟨_, fun L0 hl0 => flagged_spec hP hx hg.V, ?_⟩ | (refine SCall.mono (truth_spec hP _) ?_; rintro v_ L_ ⟨hv_, hL_⟩; rw [hv_, hL_]; clear hv_ hL_ v_ L_) | refine ⟨_, truth_spec hP _, ?_⟩ | refine ⟨_, fun L0 hl0 => truth_spec hP _, ?_⟩ | (refine SCall.mono (down_spec (i := 0) hP rfl hx hg.Vb) ?_; rintro v_ L_ ⟨hv_, hL_⟩; rw [hv_, hL_]; clear hv_ hL_ v_ L_) | refine ⟨_, down_spec (i := 0) hP rfl hx hg.Vb, ?_⟩ | refine ⟨_, fun L0 hl0 => down_spec (i := 0) hP rfl hx hg.Vb, ?_⟩ | (refine SCall.mono (behind_spec hP hx) ?_; rintro v_ L_ ⟨hv_, hL_⟩; rw [hv_, hL_]; clear hv_ hL_ v_ L_) | refine ⟨_, behind_spec hP hx, ?_⟩ | refine ⟨_, fun L0 hl0 => behind_spec hP hx, ?_⟩ | refine And.intro (by omega) ?_ | fail); try (with_reducible refine stI ?_); try simp (maxSteps := 1000000) (dsimp := false) (disch := omega) only [go_sem, ia_someH, hP, hops])
  refine hK2 _ _ ?_
  try clear hK2 K2
  refine SX.seq_k fun K3 hK3 => ?_
  refine SX.seq_k fun K4 hK4 => ?_
  have hd1 : (g.V.getD o.x 0).tdiv 100 = g.V.getD o.x 0 / 100 := Int.tdiv_eq_ediv_of_nonneg hbx.1
  have hd2 : (g.V.getD o.x 0).tdiv 10 = g.V.getD o.x 0 / 10 := Int.tdiv_eq_ediv_of_nonneg hbx.1
  have hd3 : (g.V.getD o.x 0 / 10).tmod 10 = g.V.getD o.x 0 / 10 % 10 := Int.tmod_eq_emod_of_nonneg (by omega)
  have hd4 : (g.V.getD o.x 0).tmod 10 = g.V.getD o.x 0 % 10 := Int.tmod_eq_emod_of_nonneg hbx.1
  refine SX.region_d [some 6, some 7, some 8, some 9, some 10, some 11, some 12, some 13, some 14, some 15, some 16] rfl (fun ops hops => ?_)
  unfold Dsts at hops
  simp (maxSteps := 1000000) (dsimp := false) (disch := omega) only [go_sem, ia_someH, hP, hops, hd1, hd2, hd3, hd4]
  intro bb
  try with_reducible refine stI ?_
  try simp (maxSteps := 1000000) (dsimp := false) (disch := omega) only [go_sem, ia_someH, hP, hops, hd1, hd2, hd3, hd4]
  refine SCall.mono (SCall.of_less (Less.behind4 _ _ _ _ _ _) (lay_spec (bs := threeL g o) hP hg (SlI.own (xs := threeL g o) 4 rfl rfl (Nat.le_refl 3)) (by simp [threeL]) (by simp [threeL]) hr.mm hml)) ?_
  intro v_ L_ hl_
  try with_reducible refine stI ?_
  try simp (maxSteps := 1000000) (dsimp := false) (disch := omega) only [go_sem, ia_someH, hP, hops, hd1, hd2, hd3, hd4]
  unfold layR at hl_
  rcases hlay : layG g (threeL g o) with _ | g'
  · skip
    try with_reducible refine stI ?_
    rw [hlay] at hl_
    obtain ⟨rfl, rfl⟩ := hl_
    try with_reducible refine stI ?_
    try simp (maxSteps := 1000000) (dsimp := false) (disch := omega) only [go_sem, ia_someH, hP, hops, hd1, hd2, hd3, hd4]
    refine hK4 _ _ ?_
    try clear hK4 K4
    refine SX.live [16] (fun T1 hT1 => ?_)
    simp only [forall_mem_cons', forall_mem_nil', go_sem, ia_someH, hP] at hT1
    have h1_16 := hT1; clear hT1
    refine SX.cond_k fun X5 Y5 hX5 hY5 => ?_
    simp (maxSteps := 1000000) (dsimp := false) (disch := omega) only [go_sem, ia_someH, hP, h1_16, condVC]
    refine hX5 ?_
    clear hX5 hY5 X5 Y5
    refine SX.seq_k fun K6 hK6 => ?_
    refine SX.region_d [some 2] rfl (fun ops hops => ?_)
    unfold Dsts at hops
    simp (maxSteps := 1000000) (dsimp := false) (disch := omega) only [go_sem, ia_someH, hP, h1_16, hops]
    repeat' ((first | refine ⟨_, Cell.at 0 rfl rfl, ?_⟩ | refine ⟨0, _, _, _, rfl, (by rw [pcells_length]; omega), .inr (by first | decide | exact Nat.zero_le _), ?_⟩ | fail); try (with_reducible refine stI ?_); try simp (maxSteps := 1000000) (dsimp := false) (disch := omega) only [go_sem, ia_someH, hP, h1_16, hops])
    refine hK6 _ _ ?_
    try clear hK6 K6
    refine SX.ret ?_
    simp only [andThen_normal, andThen_ret, andThen_exit, inBlk_normal, inBlk_ret, inBlk_exit, Nat.reduceEqDiff, if_true, if_false, ↓reduceIte, retQ_ret]
    try simp only [res0, res1, res2, res3, stK_e, go_sem, ia_someH, hP, h1_16]
    refine ⟨_, _, Less.drop4 _ _ _ _ _ _, rfl, ?_⟩
    unfold threeG
    rw [hlay]
    exact ⟨rfl, sv, pv, mv, q1, q2, q3, rfl, hr⟩
  · skip
    try with_reducible refine stI ?_
    rw [hlay] at hl_
    obtain ⟨rfl, q3', rfl, hr3⟩ := hl_
    try with_reducible refine stI ?_
    try simp (maxSteps := 1000000) (dsimp := false) (disch := omega) only [go_sem, ia_someH, hP, hops, hd1, hd2, hd3, hd4]
    refine hK4 _ _ ?_
    try clear hK4 K4
    refine SX.live [16] (fun T2 hT2 => ?_)
    simp only [forall_mem_cons', forall_mem_nil', go_sem, ia_someH, hP] at hT2
    have h2_16 := hT2; clear hT2
    refine SX.cond_k fun X7 Y7 hX7 hY7 => ?_
    simp (maxSteps := 1000000) (dsimp := false) (disch := omega) only [go_sem, ia_someH, hP, h2_16, condVC]
    refine hY7 ?_
    clear hX7 hY7 X7 Y7
    refine SX.skip ?_
    try simp only [andThen_normal, andThen_ret, andThen_exit, inBlk_normal, inBlk_ret, inBlk_exit, Nat.reduceEqDiff, if_true, if_false, ↓reduceIte]
    refine hK3 _ _ ?_
    try clear hK3 K3
    refine SX.seq_k fun K8 hK8 => ?_
    refine SX.region_d [some 2] rfl (fun ops hops => ?_)
    unfold Dsts at hops
    simp (maxSteps := 1000000) (dsimp := false) (disch := omega) only [go_sem, ia_someH, hP, h2_16, hops]
    repeat' ((first | refine ⟨_, Cell.at 0 rfl rfl, ?_⟩ | refine ⟨0, _, _, _, rfl, (by rw [pcells_length]; omega), .inr (by first | decide | exact Nat.zero_le _), ?_⟩ | fail); try (with_reducible refine stI ?_); try simp (maxSteps := 1000000) (dsimp := false) (disch := omega) only [go_sem, ia_someH, hP, h2_16, hops])
    refine hK8 _ _ ?_
    try clear hK8 K8
    refine SX.ret ?_
    simp only [andThen_normal, andThen_ret, andThen_exit, inBlk_normal, inBlk_ret, inBlk_exit, Nat.reduceEqDiff, if_true, if_false, ↓reduceIte, retQ_ret]
    try simp only [res0, res1, res2, res3, stK_e, go_sem, ia_someH, hP, h2_16]
    refine ⟨_, _, Less.drop4 _ _ _ _ _ _, rfl, ?_⟩
    unfold threeG
    rw [hlay]
    have hf := layG_fields hlay
    exact ⟨rfl, sv, pv, mv, q1, q2, _, rfl, ⟨by rw [hf]; exact hr.st, by rw [hf]; exact hr.pg, hr3⟩⟩
set_option maxHeartbeats 1000000 in
set_option maxRecDepth 100000 in
theorem store_spec {Γ : Ctx} (hP : Γ.P = Try.prog) {L : Hp} {gp : Nat} {g : GM} {sv pv mv : Value} {o : Ord} {f : Fnt} {fv : Value} {d : Feed} {q1 q2 q3 : Slot} (hg : OkG g) (hr : Rows g sv pv mv q1 q2 q3) (ho : OkO o) (hx : o.x < 16) (hy : o.y < 16) (hd : OkD d) (hml : g.mm.length = 3232) :
    SCall Γ 75 #[(.pointer (some ⟨gp, 0, none⟩))] (PS gp g sv pv mv o f fv d :: q1 :: q2 :: q3 :: L) (mres gp o f fv d L (storeG g o)) := by
  have hbx := byte_at hg.Vb o.x
  have hby := byte_at hg.Vb o.y
  have hob := ho.b
  have hoa := ho.a
  have hox := ho.x
  have hPCb := hg.PC
  have hIb := hg.I
  have hrb := hd.rnd
  have hkb := hd.keys
  have hdl := hg.dl
  have hsd := hg.sd
  refine SCall.enter (n := 19) (res1 2) (hP ▸ Try.func75) rfl rfl (by simp) (res1_ok rfl) ?_
  refine SX.seq_k fun K1 hK1 => ?_
  refine SX.region_d [some 2] rfl (fun ops hops => ?_)
  unfold Dsts at hops
  simp (maxSteps := 1000000) (dsimp := false) (disch := omega) only [go_sem, ia_someH, hP, hops]
  repeat' ((first | refine ⟨_, Cell.at 0 rfl rfl, ?_⟩ | refine ⟨0, _, _, _, rfl, (by rw [pcells_length]; omega), .inr (by first | decide | exact Nat.zero_le _), ?_⟩ | fail); try (with_reducible refine stI ?_); try simp (maxSteps := 1000000) (dsimp := false) (disch := omega) only [go_sem, ia_someH, hP, hops])
  refine hK1 _ _ ?_
  try clear hK1 K1
  refine SX.seq_k fun K2 hK2 => ?_
  refine SX.seq_k fun K3 hK3 => ?_
  have hc16 : cutA (some ⟨gp, 0, none⟩) 1 16 0 = some ⟨gp, 0, none⟩ := cutA_lt (by omega)
  have hx1 : ((o.x : Int) + 1).toNat = o.x + 1 := by omega
  refine SX.drawn_d [(0, .q), (1, .q), (2, .q), (3, .q), (4, .q), (5, .q), (6, .q), (7, .q), (8, .q), (9, .q), (10, .q), (11, .q), (12, .t), (13, .t)] (fun L => L) (hP ▸ T.mixed) (by kernel_rfl) (by exact Less.refl _) [some 3, some 4, some 5, some 6, some 7, some 8, some 9, some 10, some 11, some 12, some 13, some 14, some 15, some 16] rfl (fun ops hops hopl => ?_)
  unfold Dsts at hops
  simp (maxSteps := 1000000) (dsimp := false) (disch := omega) only [go_sem, ia_someH, hP, hops, hopl, hc16, Nat.sub_zero, hx1]
  refine ⟨_, Cell.at 0 rfl (show (pcells _ _ _ _ _ _ _ _)[24]? = _ from rfl), ?_⟩
  try with_reducible refine stI ?_
  try simp (maxSteps := 1000000) (dsimp := false) (disch := omega) only [go_sem, ia_someH, hP, hops, hopl, hc16, Nat.sub_zero, hx1]
  refine SCall.mono (lay_spec (bs := g.V.take (o.x + 1)) hP hg (sliceV (i := 0) (n := o.x + 1) (c := 16) hg.V rfl (by omega) (by omega)) (by rw [List.length_take, hg.V]; omega) (by rw [List.length_take, hg.V]; omega) hr.mm hml) ?_
  intro v_ L_ hl_
  try with_reducible refine stI ?_
  try simp (maxSteps := 1000000) (dsimp := false) (disch := omega) only [go_sem, ia_someH, hP, hops, hopl, hc16, Nat.sub_zero, hx1]
  unfold layR at hl_
  rcases hlay : layG g (g.V.take (o.x + 1)) with _ | g'
  · skip
    try with_reducible refine stI ?_
    rw [hlay] at hl_
    obtain ⟨rfl, rfl⟩ := hl_
    try with_reducible refine stI ?_
    try simp (maxSteps := 1000000) (dsimp := false) (disch := omega) only [go_sem, ia_someH, hP, hops, hopl, hc16, Nat.sub_zero, hx1]
    refine hK3 _ _ ?_
    try clear hK3 K3
    refine SX.live [0, 16] (fun T1 hT1 => ?_)
    simp only [forall_mem_cons', forall_mem_nil', go_sem, ia_someH, hP] at hT1
    obtain ⟨h1_0, h1_16⟩ := hT1
    refine SX.cond_k fun X4 Y4 hX4 hY4 => ?_
    simp (maxSteps := 1000000) (dsimp := false) (disch := omega) only [go_sem, ia_someH, hP, h1_0, h1_16, condVC]
    refine hX4 ?_
    clear hX4 hY4 X4 Y4
    refine SX.seq_k fun K5 hK5 => ?_
    refine SX.region_d [some 2] rfl (fun ops hops => ?_)
    unfold Dsts at hops
    simp (maxSteps := 1000000) (dsimp := false) (disch := omega) only [go_sem, ia_someH, hP, h1_0, h1_16, hops]
    repeat' ((first | refine ⟨_, Cell.at 0 rfl rfl, ?_⟩ | refine ⟨0, _, _, _, rfl, (by rw [pcells_length]; omega), .inr (by first | decide | exact Nat.zero_le _), ?_⟩ | fail); try (with_reducible refine stI ?_); try simp (maxSteps := 1000000) (dsimp := false) (disch := omega) only [go_sem, ia_someH, hP, h1_0, h1_16, hops])
    refine hK5 _ _ ?_
    try clear hK5 K5
    refine SX.ret ?_
    simp only [andThen_normal, andThen_ret, andThen_exit, inBlk_normal, inBlk_ret, inBlk_exit, Nat.reduceEqDiff, if_true, if_false, ↓reduceIte, retQ_ret]
    try simp only [res0, res1, res2, res3, stK_e, go_sem, ia_someH, hP, h1_0, h1_16]
    refine ⟨_, _, Less.refl _, rfl, ?_⟩
    unfold storeG
    rw [hlay]
    exact ⟨rfl, sv, pv, mv, q1, q2, q3, rfl, hr⟩
  · skip
    try with_reducible refine stI ?_
    rw [hlay] at hl_
    obtain ⟨rfl, q3', rfl, hr3⟩ := hl_
    try with_reducible refine stI ?_
    try simp (maxSteps := 1000000) (dsimp := false) (disch := omega) only [go_sem, ia_someH, hP, hops, hopl, hc16, Nat.sub_zero, hx1]
    refine hK3 _ _ ?_
    try clear hK3 K3
    refine SX.live [0, 16] (fun T2 hT2 => ?_)
    simp only [forall_mem_cons', forall_mem_nil', go_sem, ia_someH, hP] at hT2
    obtain ⟨h2_0, h2_16⟩ := hT2
    refine SX.cond_k fun X6 Y6 hX6 hY6 => ?_
    simp (maxSteps := 1000000) (dsimp := false) (disch := omega) only [go_sem, ia_someH, hP, h2_0, h2_16, condVC]
    refine hY6 ?_
    clear hX6 hY6 X6 Y6
    refine SX.skip ?_
    try simp only [andThen_normal, andThen_ret, andThen_exit, inBlk_normal, inBlk_ret, inBlk_exit, Nat.reduceEqDiff, if_true, if_false, ↓reduceIte]
    refine hK2 _ _ ?_
    try clear hK2 K2
    refine SX.seq_k fun K7 hK7 => ?_
    refine SX.region_d [some 17, some 18, some 2] rfl (fun ops hops => ?_)
    unfold Dsts at hops
    simp (maxSteps := 1000000) (dsimp := false) (disch := omega) only [go_sem, ia_someH, hP, h2_0, h2_16, hops]
    repeat' ((first | refine ⟨_, Cell.at 0 rfl rfl, ?_⟩ | refine ⟨0, _, _, _, rfl, (by rw [pcells_length]; omega), .inr (by first | decide | exact Nat.zero_le _), ?_⟩ | (refine SCall.mono (x_spec (i := 0) hP rfl hx) ?_; rintro v_ L_ ⟨hv_, hL_⟩; rw [hv_, hL_]; clear hv_ hL_ v_ L_) | refine ⟨_, x_spec (i := 0) hP rfl hx, ?_⟩ | refine ⟨_, fun L0 hl0 => x_spec (i := 0) hP rfl hx, ?_⟩ | (refine SCall.mono (y_spec (i := 0) hP rfl hy) ?_; rintro v_ L_ ⟨hv_, hL_⟩; rw [hv_, hL_]; clear hv_ hL_ v_ L_) | refine ⟨_, y_spec (i := 0) hP rfl hy, ?_⟩ | refine ⟨_, fun L0 hl0 => y_spec (i := 0) hP rfl hy, ?_⟩ | (refine SCall.mono (let_spec hP hx hg.V) ?_; rintro v_ L_ ⟨hv_, hL_⟩; rw [hv_, hL_]; clear hv_ hL_ v_ L_) | refine ⟨_, let_spec hP hx hg.V, ?_⟩ | refine ⟨_, fun L0 hl0 => let_spec hP hx hg.V, ?_⟩ | (refine SCall.mono (skip_spec hP) ?_; rintro v_ L_ ⟨hv_, hL_⟩; rw [hv_, hL_]; clear hv_ hL_ v_ L_) | refine ⟨_, skip_spec hP, ?_⟩ | refine ⟨_, fun L0 hl0 => skip_spec hP, ?_⟩ | (refine SCall.mono (flagged_spec hP hx hg.V) ?_; rintro v_ L_ ⟨hv_, hL_⟩; rw [hv_, hL_]; clear hv_ hL_ v_ L_) | refine ⟨_, flagged_spec hP hx hg.V, ?_⟩ | refine ⟨_, fun L0 hl0 => flagged_spec hP hx hg.V, ?_⟩ | (refine SCall.mono (truth_spec hP _) ?_; rintro v_ L_ ⟨hv_, hL_⟩; rw [hv_, hL_]; clear hv_ hL_ v_ L_) | refine ⟨_, truth_spec hP _, ?_⟩ | refine ⟨_, fun L0 hl0 => truth_spec hP _, ?_⟩ | (refine SCall.mono (down_spec (i := 0) hP rfl hx hg.Vb) ?_; rintro v_ L_ ⟨hv_, hL_⟩; rw [hv_, hL_]; clear hv_ hL_ v_ L_) | refine ⟨_, down_spec (i := 0) hP rfl hx hg.Vb, ?_⟩ | refine ⟨_, fun L0 hl0 => down_spec (i := 0) hP rfl hx hg.Vb, ?_⟩ | (refine SCall.mono (behind_spec hP hx) ?_; rintro v_ L_ ⟨hv_, hL_⟩; rw [hv_, hL_]; clear hv_ hL_ v_ L_) | refine ⟨_, behind_spec hP hx, ?_⟩ | refine ⟨_, fun L0 hl0 => behind_spec hP hx, ?_⟩ | refine And.intro (by omega) ?_ | fail); try (with_reducible refine stI ?_); try simp (maxSteps := 1000000) (dsimp := false) (disch := omega) only [go_sem, ia_someH, hP, h2_0, h2_16, hops])
    refine hK7 _ _ ?_
    try clear hK7 K7
    refine SX.ret ?_
    simp only [andThen_normal, andThen_ret, andThen_exit, inBlk_normal, inBlk_ret, inBlk_exit, Nat.reduceEqDiff, if_true, if_false, ↓reduceIte, retQ_ret]
    try simp only [res0, res1, res2, res3, stK_e, go_sem, ia_someH, hP, h2_0, h2_16]
    refine ⟨_, _, Less.refl _, rfl, ?_⟩
    unfold storeG
    rw [hlay]
    have hf := layG_fields hlay
    exact ⟨rfl, sv, pv, mv, q1, q2, _, rfl, ⟨by rw [hf]; exact hr.st, by rw [hf]; exact hr.pg, hr3⟩⟩

end Go.Proofs.Ytgioegdjeodpiaa
set_option linter.unusedVariables false
set_option linter.unusedSimpArgs false
namespace Go.Proofs.Ytgioegdjeodpiaa
open Go.RowKit Go.SX
open Go.SX renaming ia_someH → Φa

section
variable {g : GM} {sv pv mv : Value} {o : Ord} {f : Fnt} {fv : Value} {d : Feed}
theorem set_pg (pg' : List Int) (pv' : Value) : (pcells g sv pv mv o f fv d).set 21 pv' = pcells { g with pg := pg' } sv pv' mv o f fv d := rfl
theorem list16 {l : List Int} (h : l.length = 16) : l = [l.getD 0 0, l.getD 1 0, l.getD 2 0, l.getD 3 0, l.getD 4 0, l.getD 5 0, l.getD 6 0, l.getD 7 0, l.getD 8 0, l.getD 9 0, l.getD 10 0, l.getD 11 0, l.getD 12 0, l.getD 13 0, l.getD 14 0, l.getD 15 0] := by
  match l, h with
  | [_, _, _, _, _, _, _, _, _, _, _, _, _, _, _, _], _ => rfl
theorem pcells_V (hV : g.V.length = 16) : pcells g sv pv mv o f fv d = ints .u8 g.V ++ (.int .u16 g.I :: .int .u16 g.PC :: sv :: .int .u8 g.dl :: .int .u8 g.sd :: pv :: mv :: (o.cells ++ (f.cells fv ++ d.cells))) := by
  conv => rhs; rw [list16 hV]
  rfl
theorem pV_all {l : List Int} (hV : g.V.length = 16) (hl : l.length ≤ 16) : setN (pcells g sv pv mv o f fv d) 0 (ints .u8 l) = pcells { g with V := spliceL g.V 0 l } sv pv mv o f fv d := by
  rw [pcells_V hV, setN_splice (by omega), pcells_V (by show (spliceL g.V 0 l).length = 16; rw [spliceL_length (by omega)]; exact hV)]
end
theorem drawn_length (page : List Int) (x y : Nat) (rows : List Int) : (drawn page x y rows).2.length = page.length := eachK_length ..
set_option maxHeartbeats 1000000 in
set_option maxRecDepth 100000 in
theorem draw_spec {Γ : Ctx} (hP : Γ.P = Try.prog) {L : Hp} {gp : Nat} {g : GM} {sv pv mv : Value} {o : Ord} {f : Fnt} {fv : Value} {d : Feed} {q1 q2 q3 : Slot} (hg : OkG g) (hr : Rows g sv pv mv q1 q2 q3) (ho : OkO o) (hx : o.x < 16) (hy : o.y < 16) (hd : OkD d) (hn : o.n < 16) (hml : g.mm.length = 3232) (hpl : g.pg.length = 256) (hf : SlI .u8 (Cell Γ L) fv f.bs) (hfl : f.bs.length ≤ 65536) (hfr : 0 ≤ f.from_ ∧ f.from_ ≤ 65535) :
    SCall Γ 65 #[(.pointer (some ⟨gp, 0, none⟩))] (PS gp g sv pv mv o f fv d :: q1 :: q2 :: q3 :: L) (mres gp o f fv d L (drawG g o f)) := by
  have hbx := byte_at hg.Vb o.x
  have hby := byte_at hg.Vb o.y
  have hob := ho.b
  have hoa := ho.a
  have hox := ho.x
  have hPCb := hg.PC
  have hIb := hg.I
  have hrb := hd.rnd
  have hkb := hd.keys
  have hdl := hg.dl
  have hsd := hg.sd
  refine SCall.enter (n := 48) (res1 2) (hP ▸ Try.func65) rfl rfl (by simp) (res1_ok rfl) ?_
  refine SX.seq_k fun K1 hK1 => ?_
  refine SX.region_d [some 2] rfl (fun ops hops => ?_)
  unfold Dsts at hops
  simp (maxSteps:=1000000)(dsimp:=false)(disch:=omega) only [go_sem, Φa, hP, hops]
  repeat' ((first | refine ⟨_, Cell.at 0 rfl rfl, ?_⟩ | refine ⟨0, _, _, _, rfl, (by rw [pcells_length]; omega), .inr (by first | decide | exact Nat.zero_le _), ?_⟩ | fail); try (with_reducible refine stI ?_); try simp (maxSteps:=1000000)(dsimp:=false)(disch:=omega) only [go_sem, Φa, hP, hops])
  refine hK1 _ _ ?_
  try clear hK1 K1
  refine SX.seq_k fun K2 hK2 => ?_
  refine SX.region_d [some 9, some 10, some 11, some 12, some 13, some 14, some 15, some 16, some 8, some 17, some 18, some 3, some 4] rfl (fun ops hops => ?_)
  unfold Dsts at hops
  simp (maxSteps:=1000000)(dsimp:=false)(disch:=omega) only [go_sem, Φa, hP, hops]
  refine ⟨_, Cell.at 0 rfl (show (pcells _ _ _ _ _ _ _ _)[26]? = _ from rfl), ?_⟩
  try with_reducible refine stI ?_
  try simp (maxSteps:=1000000)(dsimp:=false)(disch:=omega) only [go_sem, Φa, hP, hops]
  refine SCall.mono (row_spec (n := o.n) hP (by omega) hg (RowI.sl (i := 3) hr.mm rfl) (SlI.cons _ (SlI.cons _ (SlI.cons _ (SlI.cons _ hf)))) hml hfl hfr) ?_
  intro v_ L_ hl_
  try with_reducible refine stI ?_
  try simp (maxSteps:=1000000)(dsimp:=false)(disch:=omega) only [go_sem, Φa, hP, hops]
  unfold rowR at hl_
  rcases hrow : rowG g f (o.n) with _ | rows
  · skip
    try with_reducible refine stI ?_
    rw [hrow] at hl_
    obtain ⟨rfl, rfl⟩ := hl_
    try with_reducible refine stI ?_
    try simp (maxSteps:=1000000)(dsimp:=false)(disch:=omega) only [go_sem, Φa, hP, hops]
    refine hK2 _ _ ?_
    try clear hK2 K2
    refine SX.live [0, 3, 4] (fun T1 hT1 => ?_)
    simp only [forall_mem_cons', forall_mem_nil', go_sem, Φa, hP] at hT1
    obtain ⟨h1_0, h1_3, h1_4⟩ := hT1
    refine SX.seq_k fun K3 hK3 => ?_
    refine SX.seq_k fun K4 hK4 => ?_
    refine SX.region_d [some 19, some 20] rfl (fun ops hops => ?_)
    unfold Dsts at hops
    simp (maxSteps:=1000000)(dsimp:=false)(disch:=omega) only [go_sem, Φa, hP, h1_0, h1_3, h1_4, hops]
    repeat' ((first | refine ⟨_, Cell.at 0 rfl rfl, ?_⟩ | refine ⟨0, _, _, _, rfl, (by rw [pcells_length]; omega), .inr (by first | decide | exact Nat.zero_le _), ?_⟩ | fail); try (with_reducible refine stI ?_); try simp (maxSteps:=1000000)(dsimp:=false)(disch:=omega) only [go_sem, Φa, hP, h1_0, h1_3, h1_4, hops])
    refine hK4 _ _ ?_
    try clear hK4 K4
    refine SX.cond_k fun X5 Y5 hX5 hY5 => ?_
    simp (maxSteps:=1000000)(dsimp:=false)(disch:=omega) only [go_sem, Φa, hP, h1_0, h1_3, h1_4, condVC]
    refine hX5 ?_
    clear hX5 hY5 X5 Y5
    refine SX.seq_k fun K6 hK6 => ?_
    refine SX.region_d [some 2] rfl (fun ops hops => ?_)
    unfold Dsts at hops
    simp (maxSteps:=1000000)(dsimp:=false)(disch:=omega) only [go_sem, Φa, hP, h1_0, h1_3, h1_4, hops]
    repeat' ((first | refine ⟨_, Cell.at 0 rfl rfl, ?_⟩ | refine ⟨0, _, _, _, rfl, (by rw [pcells_length]; omega), .inr (by first | decide | exact Nat.zero_le _), ?_⟩ | fail); try (with_reducible refine stI ?_); try simp (maxSteps:=1000000)(dsimp:=false)(disch:=omega) only [go_sem, Φa, hP, h1_0, h1_3, h1_4, hops])
    refine hK6 _ _ ?_
    try clear hK6 K6
    refine SX.ret ?_
    simp only [andThen_normal, andThen_ret, andThen_exit, inBlk_normal, inBlk_ret, inBlk_exit, Nat.reduceEqDiff, if_true, if_false, ↓reduceIte, retQ_ret]
    try simp only [res0, res1, res2, res3, stK_e, go_sem, Φa, hP, h1_0, h1_3, h1_4]
    refine ⟨_, _, Less.refl _, rfl, ?_⟩
    unfold drawG
    rw [hrow]
    exact ⟨rfl, sv, pv, mv, q1, q2, q3, rfl, hr⟩
  · skip
    try with_reducible refine stI ?_
    rw [hrow] at hl_
    obtain ⟨v1, s1, rfl, rfl, hr1⟩ := hl_
    try with_reducible refine stI ?_
    try simp (maxSteps:=1000000)(dsimp:=false)(disch:=omega) only [go_sem, Φa, hP, hops]
    refine hK2 _ _ ?_
    try clear hK2 K2
    refine SX.live [0, 3, 4] (fun T2 hT2 => ?_)
    simp only [forall_mem_cons', forall_mem_nil', go_sem, Φa, hP] at hT2
    obtain ⟨h2_0, h2_3, h2_4⟩ := hT2
    refine SX.seq_k fun K7 hK7 => ?_
    refine SX.seq_k fun K8 hK8 => ?_
    refine SX.region_d [some 19, some 20] rfl (fun ops hops => ?_)
    unfold Dsts at hops
    simp (maxSteps:=1000000)(dsimp:=false)(disch:=omega) only [go_sem, Φa, hP, h2_0, h2_3, h2_4, hops]
    repeat' ((first | refine ⟨_, Cell.at 0 rfl rfl, ?_⟩ | refine ⟨0, _, _, _, rfl, (by rw [pcells_length]; omega), .inr (by first | decide | exact Nat.zero_le _), ?_⟩ | fail); try (with_reducible refine stI ?_); try simp (maxSteps:=1000000)(dsimp:=false)(disch:=omega) only [go_sem, Φa, hP, h2_0, h2_3, h2_4, hops])
    refine hK8 _ _ ?_
    try clear hK8 K8
    refine SX.cond_k fun X9 Y9 hX9 hY9 => ?_
    simp (maxSteps:=1000000)(dsimp:=false)(disch:=omega) only [go_sem, Φa, hP, h2_0, h2_3, h2_4, condVC]
    refine hY9 ?_
    clear hX9 hY9 X9 Y9
    refine SX.skip ?_
    try simp only [andThen_normal, andThen_ret, andThen_exit, inBlk_normal, inBlk_ret, inBlk_exit, Nat.reduceEqDiff, if_true, if_false, ↓reduceIte]
    refine hK7 _ _ ?_
    try clear hK7 K7
    refine SX.seq_k fun K10 hK10 => ?_
    obtain ⟨X, hX⟩ : ∃ X : Nat, g.V.getD o.x 0 = (X : Int) := ⟨_, (Int.toNat_of_nonneg hbx.1).symm⟩
    obtain ⟨Y, hY⟩ : ∃ Y : Nat, g.V.getD o.y 0 = (Y : Int) := ⟨_, (Int.toNat_of_nonneg hby.1).symm⟩
    have hrl := rowG_length hrow
    refine SX.drawn_d [(0, .q), (1, .q), (2, .q), (3, .q), (4, .q), (5, .q), (7, .q), (9, .q), (6, .e), (8, .e), (10, .e), (11, .q), (12, .q), (13, .q), (14, .q), (15, .q), (16, .q), (17, .q)] (fun L => L) (hP ▸ T.mixed) (by kernel_rfl) (by exact Less.refl _) [some 22, some 23, some 24, some 25, some 26, some 27, some 28, some 29, some 30, some 31, some 32, some 21, some 33, some 34, some 35, some 5, some 6, some 7] rfl (fun ops hops hopl => ?_)
    unfold Dsts at hops
    simp (maxSteps:=1000000)(dsimp:=false)(disch:=omega) only [go_sem, Φa, hP, h2_0, h2_3, h2_4, hops, hopl, hX, hY]
    refine ⟨_, Cell.at 1 rfl (show (pcells _ _ _ _ _ _ _ _)[21]? = _ from rfl), ?_⟩
    try with_reducible refine stI ?_
    try simp (maxSteps:=1000000)(dsimp:=false)(disch:=omega) only [go_sem, Φa, hP, h2_0, h2_3, h2_4, hops, hopl, hX, hY]
    first | (refine SCall.mono (x_spec (i := 1) hP rfl hx) ?_; rintro v_ L_ ⟨hv_, hL_⟩; rw [hv_, hL_]; clear hv_ hL_ v_ L_) | refine ⟨_, x_spec (i := 1) hP rfl hx, ?_⟩ | refine ⟨_, fun L0 hl0 => x_spec (i := 1) hP rfl hx, ?_⟩
    try with_reducible refine stI ?_
    try simp (maxSteps:=1000000)(dsimp:=false)(disch:=omega) only [go_sem, Φa, hP, h2_0, h2_3, h2_4, hops, hopl, hX, hY]
    first | (refine SCall.mono (y_spec (i := 1) hP rfl hy) ?_; rintro v_ L_ ⟨hv_, hL_⟩; rw [hv_, hL_]; clear hv_ hL_ v_ L_) | refine ⟨_, y_spec (i := 1) hP rfl hy, ?_⟩ | refine ⟨_, fun L0 hl0 => y_spec (i := 1) hP rfl hy, ?_⟩
    try with_reducible refine stI ?_
    try simp (maxSteps:=1000000)(dsimp:=false)(disch:=omega) only [go_sem, Φa, hP, h2_0, h2_3, h2_4, hops, hopl, hX, hY]
    refine SCall.mono (Draw_spec (x := X) (y := Y) hP (by omega) (by omega) (RowI.sl (i := 3) hr.pg rfl) (RowI.sl (i := 0) hr1 rfl) (by omega)) ?_
    intro v_ L_ hl_
    try with_reducible refine stI ?_
    try simp (maxSteps:=1000000)(dsimp:=false)(disch:=omega) only [go_sem, Φa, hP, h2_0, h2_3, h2_4, hops, hopl, hX, hY]
    rw [drawR, if_pos (by omega)] at hl_
    obtain ⟨rr, cap, junk, hcap, hjl, rfl, rfl⟩ := hl_
    try with_reducible refine stI ?_
    try simp (maxSteps:=1000000)(dsimp:=false)(disch:=omega) only [go_sem, Φa, hP, h2_0, h2_3, h2_4, hops, hopl, hX, hY]
    refine hK10 _ _ ?_
    try clear hK10 K10
    refine SX.live [0, 5, 6] (fun T3 hT3 => ?_)
    simp only [forall_mem_cons', forall_mem_nil', go_sem, Φa, hP, h2_0, h2_3, h2_4] at hT3
    obtain ⟨h3_0, h3_5, h3_6⟩ := hT3
    clear h2_0 h2_3 h2_4 T2
    refine SX.seq_k fun K11 hK11 => ?_
    refine SX.region_d [some 36, some 37, some 38, some 39, some 40, none] rfl (fun ops hops => ?_)
    unfold Dsts at hops
    simp (maxSteps:=1000000)(dsimp:=false)(disch:=omega) only [go_sem, Φa, hP, h3_0, h3_5, h3_6, hops]
    refine ⟨2, _, _, _, rfl, (by rw [pcells_length]; omega), .inr (by decide), ?_⟩
    try with_reducible refine stI ?_
    try simp (maxSteps:=1000000)(dsimp:=false)(disch:=omega) only [go_sem, Φa, hP, h3_0, h3_5, h3_6, hops]
    rw [set_pg (drawn g.pg X Y rows).2]
    refine hK11 _ _ ?_
    try clear hK11 K11
    refine SX.seq_k fun K12 hK12 => ?_
    refine SX.drawn_d [(0, .q), (1, .q), (3, .q), (4, .q), (5, .q), (2, .e), (6, .q), (7, .t)] (fun L => L) (hP ▸ T.mixed) (by kernel_rfl) (by exact Less.refl _) [some 41, some 42, some 43, some 44, some 45, some 46, some 47, none] rfl (fun ops hops hopl => ?_)
    unfold Dsts at hops
    simp (maxSteps:=1000000)(dsimp:=false)(disch:=omega) only [go_sem, Φa, hP, h3_0, h3_5, h3_6, hops, hopl]
    first | (refine SCall.mono (truth_spec hP _) ?_; rintro v_ L_ ⟨hv_, hL_⟩; rw [hv_, hL_]; clear hv_ hL_ v_ L_) | refine ⟨_, truth_spec hP _, ?_⟩ | refine ⟨_, fun L0 hl0 => truth_spec hP _, ?_⟩
    try with_reducible refine stI ?_
    try simp (maxSteps:=1000000)(dsimp:=false)(disch:=omega) only [go_sem, Φa, hP, h3_0, h3_5, h3_6, hops, hopl]
    refine ⟨2, _, _, _, rfl, (by rw [pcells_length]; omega), .inr (by decide), ?_⟩
    try with_reducible refine stI ?_
    try simp (maxSteps:=1000000)(dsimp:=false)(disch:=omega) only [go_sem, Φa, hP, h3_0, h3_5, h3_6, hops, hopl]
    rw [pV_set (g := { g with pg := (drawn g.pg X Y rows).2 }) hg.V (by decide)]
    refine hK12 _ _ ?_
    try clear hK12 K12
    refine SX.live [] (fun T4 hT4 => ?_)
    clear hT4
    clear h3_0 h3_5 h3_6 T3
    refine SX.seq_k fun K13 hK13 => ?_
    refine SX.region_d [some 2] rfl (fun ops hops => ?_)
    unfold Dsts at hops
    simp (maxSteps:=1000000)(dsimp:=false)(disch:=omega) only [go_sem, Φa, hP, hops]
    repeat' ((first | refine ⟨_, Cell.at 0 rfl rfl, ?_⟩ | refine ⟨0, _, _, _, rfl, (by rw [pcells_length]; omega), .inr (by first | decide | exact Nat.zero_le _), ?_⟩ | fail); try (with_reducible refine stI ?_); try simp (maxSteps:=1000000)(dsimp:=false)(disch:=omega) only [go_sem, Φa, hP, hops])
    refine hK13 _ _ ?_
    try clear hK13 K13
    refine SX.ret ?_
    simp only [andThen_normal, andThen_ret, andThen_exit, inBlk_normal, inBlk_ret, inBlk_exit, Nat.reduceEqDiff, if_true, if_false, ↓reduceIte, retQ_ret]
    try simp only [res0, res1, res2, res3, stK_e, go_sem, Φa, hP]
    refine ⟨_, _, (lessPut _ 3 _).trans (Less.drop _ _), rfl, ?_⟩
    unfold drawG vG
    rw [hrow, hX, hY]
    refine ⟨rfl, sv, _, mv, q1, _, q3, rfl, ⟨hr.st, ?_, hr.mm⟩⟩
    have hd := drawn_length g.pg X Y rows
    have := RowI.mk2 (k := .u8) (e := 5) (l := (drawn g.pg X Y rows).2) (r := rr) (cap := cap) (junk := junk) (by omega) (by omega)
    rw [hd, hpl] at this
    exact this
set_option maxHeartbeats 1000000 in
set_option maxRecDepth 100000 in
theorem fill_spec {Γ : Ctx} (hP : Γ.P = Try.prog) {L : Hp} {gp : Nat} {g : GM} {sv pv mv : Value} {o : Ord} {f : Fnt} {fv : Value} {d : Feed} {q1 q2 q3 : Slot} (hg : OkG g) (hr : Rows g sv pv mv q1 q2 q3) (ho : OkO o) (hx : o.x < 16) (hy : o.y < 16) (hd : OkD d) (hn : o.n < 16) (hml : g.mm.length = 3232) (hpl : g.pg.length = 256) (hf : SlI .u8 (Cell Γ L) fv f.bs) (hfl : f.bs.length ≤ 65536) (hfr : 0 ≤ f.from_ ∧ f.from_ ≤ 65535) :
    SCall Γ 76 #[(.pointer (some ⟨gp, 0, none⟩))] (PS gp g sv pv mv o f fv d :: q1 :: q2 :: q3 :: L) (mres gp o f fv d L (fillG g o f)) := by
  have hbx := byte_at hg.Vb o.x
  have hby := byte_at hg.Vb o.y
  have hob := ho.b
  have hoa := ho.a
  have hox := ho.x
  have hPCb := hg.PC
  have hIb := hg.I
  have hrb := hd.rnd
  have hkb := hd.keys
  have hdl := hg.dl
  have hsd := hg.sd
  refine SCall.enter (n := 28) (res1 2) (hP ▸ Try.func76) rfl rfl (by simp) (res1_ok rfl) ?_
  refine SX.seq_k fun K1 hK1 => ?_
  refine SX.region_d [some 2] rfl (fun ops hops => ?_)
  unfold Dsts at hops
  simp (maxSteps:=1000000)(dsimp:=false)(disch:=omega) only [go_sem, Φa, hP, hops]
  repeat' ((first | refine ⟨_, Cell.at 0 rfl rfl, ?_⟩ | refine ⟨0, _, _, _, rfl, (by rw [pcells_length]; omega), .inr (by first | decide | exact Nat.zero_le _), ?_⟩ | fail); try (with_reducible refine stI ?_); try simp (maxSteps:=1000000)(dsimp:=false)(disch:=omega) only [go_sem, Φa, hP, hops])
  refine hK1 _ _ ?_
  try clear hK1 K1
  refine SX.seq_k fun K2 hK2 => ?_
  refine SX.region_d [some 6, some 7, some 8, some 9, some 10, some 11, some 12, some 13, some 14, some 5, some 15, some 16, some 3, some 4] rfl (fun ops hops => ?_)
  unfold Dsts at hops
  simp (maxSteps:=1000000)(dsimp:=false)(disch:=omega) only [go_sem, Φa, hP, hops]
  refine ⟨_, Cell.at 0 rfl (show (pcells _ _ _ _ _ _ _ _)[24]? = _ from rfl), ?_⟩
  try with_reducible refine stI ?_
  try simp (maxSteps:=1000000)(dsimp:=false)(disch:=omega) only [go_sem, Φa, hP, hops]
  refine SCall.mono (row_spec (n := o.x + 1) hP (by omega) hg (RowI.sl (i := 3) hr.mm rfl) (SlI.cons _ (SlI.cons _ (SlI.cons _ (SlI.cons _ hf)))) hml hfl hfr) ?_
  intro v_ L_ hl_
  try with_reducible refine stI ?_
  try simp (maxSteps:=1000000)(dsimp:=false)(disch:=omega) only [go_sem, Φa, hP, hops]
  unfold rowR at hl_
  rcases hrow : rowG g f (o.x + 1) with _ | rows
  · skip
    try with_reducible refine stI ?_
    rw [hrow] at hl_
    obtain ⟨rfl, rfl⟩ := hl_
    try with_reducible refine stI ?_
    try simp (maxSteps:=1000000)(dsimp:=false)(disch:=omega) only [go_sem, Φa, hP, hops]
    refine hK2 _ _ ?_
    try clear hK2 K2
    refine SX.live [0, 3, 4] (fun T1 hT1 => ?_)
    simp only [forall_mem_cons', forall_mem_nil', go_sem, Φa, hP] at hT1
    obtain ⟨h1_0, h1_3, h1_4⟩ := hT1
    refine SX.seq_k fun K3 hK3 => ?_
    refine SX.seq_k fun K4 hK4 => ?_
    refine SX.region_d [some 17, some 18] rfl (fun ops hops => ?_)
    unfold Dsts at hops
    simp (maxSteps:=1000000)(dsimp:=false)(disch:=omega) only [go_sem, Φa, hP, h1_0, h1_3, h1_4, hops]
    repeat' ((first | refine ⟨_, Cell.at 0 rfl rfl, ?_⟩ | refine ⟨0, _, _, _, rfl, (by rw [pcells_length]; omega), .inr (by first | decide | exact Nat.zero_le _), ?_⟩ | fail); try (with_reducible refine stI ?_); try simp (maxSteps:=1000000)(dsimp:=false)(disch:=omega) only [go_sem, Φa, hP, h1_0, h1_3, h1_4, hops])
    refine hK4 _ _ ?_
    try clear hK4 K4
    refine SX.cond_k fun X5 Y5 hX5 hY5 => ?_
    simp (maxSteps:=1000000)(dsimp:=false)(disch:=omega) only [go_sem, Φa, hP, h1_0, h1_3, h1_4, condVC]
    refine hX5 ?_
    clear hX5 hY5 X5 Y5
    refine SX.seq_k fun K6 hK6 => ?_
    refine SX.region_d [some 2] rfl (fun ops hops => ?_)
    unfold Dsts at hops
    simp (maxSteps:=1000000)(dsimp:=false)(disch:=omega) only [go_sem, Φa, hP, h1_0, h1_3, h1_4, hops]
    repeat' ((first | refine ⟨_, Cell.at 0 rfl rfl, ?_⟩ | refine ⟨0, _, _, _, rfl, (by rw [pcells_length]; omega), .inr (by first | decide | exact Nat.zero_le _), ?_⟩ | fail); try (with_reducible refine stI ?_); try simp (maxSteps:=1000000)(dsimp:=false)(disch:=omega) only [go_sem, Φa, hP, h1_0, h1_3, h1_4, hops])
    refine hK6 _ _ ?_
    try clear hK6 K6
    refine SX.ret ?_
    simp only [andThen_normal, andThen_ret, andThen_exit, inBlk_normal, inBlk_ret, inBlk_exit, Nat.reduceEqDiff, if_true, if_false, ↓reduceIte, retQ_ret]
    try simp only [res0, res1, res2, res3, stK_e, go_sem, Φa, hP, h1_0, h1_3, h1_4]
    refine ⟨_, _, Less.refl _, rfl, ?_⟩
    unfold fillG
    rw [hrow]
    exact ⟨rfl, sv, pv, mv, q1, q2, q3, rfl, hr⟩
  · skip
    try with_reducible refine stI ?_
    rw [hrow] at hl_
    obtain ⟨v1, s1, rfl, rfl, hr1⟩ := hl_
    try with_reducible refine stI ?_
    try simp (maxSteps:=1000000)(dsimp:=false)(disch:=omega) only [go_sem, Φa, hP, hops]
    refine hK2 _ _ ?_
    try clear hK2 K2
    refine SX.live [0, 3, 4] (fun T2 hT2 => ?_)
    simp only [forall_mem_cons', forall_mem_nil', go_sem, Φa, hP] at hT2
    obtain ⟨h2_0, h2_3, h2_4⟩ := hT2
    refine SX.seq_k fun K7 hK7 => ?_
    refine SX.seq_k fun K8 hK8 => ?_
    refine SX.region_d [some 17, some 18] rfl (fun ops hops => ?_)
    unfold Dsts at hops
    simp (maxSteps:=1000000)(dsimp:=false)(disch:=omega) only [go_sem, Φa, hP, h2_0, h2_3, h2_4, hops]
    repeat' ((first | refine ⟨_, Cell.at 0 rfl rfl, ?_⟩ | refine ⟨0, _, _, _, rfl, (by rw [pcells_length]; omega), .inr (by first | decide | exact Nat.zero_le _), ?_⟩ | fail); try (with_reducible refine stI ?_); try simp (maxSteps:=1000000)(dsimp:=false)(disch:=omega) only [go_sem, Φa, hP, h2_0, h2_3, h2_4, hops])
    refine hK8 _ _ ?_
    try clear hK8 K8
    refine SX.cond_k fun X9 Y9 hX9 hY9 => ?_
    simp (maxSteps:=1000000)(dsimp:=false)(disch:=omega) only [go_sem, Φa, hP, h2_0, h2_3, h2_4, condVC]
    refine hY9 ?_
    clear hX9 hY9 X9 Y9
    refine SX.skip ?_
    try simp only [andThen_normal, andThen_ret, andThen_exit, inBlk_normal, inBlk_ret, inBlk_exit, Nat.reduceEqDiff, if_true, if_false, ↓reduceIte]
    refine hK7 _ _ ?_
    try clear hK7 K7
    refine SX.seq_k fun K10 hK10 => ?_
    have hrl := rowG_length hrow
    have hc16 : cutA (some ⟨gp, 0, none⟩) 1 16 0 = some ⟨gp, 0, none⟩ := cutA_lt (by omega)
    obtain ⟨rr, cap, junk, rfl, rfl, hcap, hjl⟩ := RowI.form2 hr1 (by omega)
    have hmin : min rows.length 16 = rows.length := by omega
    refine SX.region_d [some 19, some 20, some 21, some 22, some 23, some 24, some 25] rfl (fun ops hops => ?_)
    unfold Dsts at hops
    simp (maxSteps:=1000000)(dsimp:=false)(disch:=omega) only [go_sem, Φa, hP, h2_0, h2_3, h2_4, hops, hc16, Nat.sub_zero]
    refine YCopy.cells (i := 1) (src := SX.ints .u8 rows) (sz := 1) (hP ▸ T.elS_23) (by rw [ints_length, Nat.mul_one]) (fun j u hj => ⟨_, rfl, by
        rw [Addr.add_lit, Nat.zero_add]
        exact Cell.at 0 rfl (by rw [List.getElem?_append_left (List.getElem?_eq_some_iff.1 hj).1]; exact hj)⟩) (ints_oneB _ _) rfl (by rw [hmin, pcells_length]; omega) (.inr (Nat.zero_le _)) ?_
    rw [hmin, Nat.mul_one, List.take_of_length_le (by rw [ints_length]; exact Nat.le_refl _), pV_all hg.V (by omega)]
    try with_reducible refine stI ?_
    try simp (maxSteps:=1000000)(dsimp:=false)(disch:=omega) only [go_sem, Φa, hP, h2_0, h2_3, h2_4, hops, hc16, Nat.sub_zero]
    refine hK10 _ _ ?_
    try clear hK10 K10
    refine SX.live [0] (fun T3 hT3 => ?_)
    simp only [forall_mem_cons', forall_mem_nil', go_sem, Φa, hP, h2_0, h2_3, h2_4] at hT3
    have h3_0 := hT3; clear hT3
    clear h2_0 h2_3 h2_4 T2
    refine SX.seq_k fun K11 hK11 => ?_
    refine SX.region_d [some 26, some 27, some 2] rfl (fun ops hops => ?_)
    unfold Dsts at hops
    simp (maxSteps:=1000000)(dsimp:=false)(disch:=omega) only [go_sem, Φa, hP, h3_0, hops]
    refine SCall.mono (SCall.of_less (Less.drop _ _) (behind_spec (g := { g with V := spliceL g.V 0 rows }) hP hx)) ?_
    rintro v_ L_ ⟨hv_, hL_⟩
    rw [hv_, hL_]
    clear hv_ hL_ v_ L_
    try with_reducible refine stI ?_
    try simp (maxSteps:=1000000)(dsimp:=false)(disch:=omega) only [go_sem, Φa, hP, h3_0, hops]
    refine hK11 _ _ ?_
    try clear hK11 K11
    refine SX.ret ?_
    simp only [andThen_normal, andThen_ret, andThen_exit, inBlk_normal, inBlk_ret, inBlk_exit, Nat.reduceEqDiff, if_true, if_false, ↓reduceIte, retQ_ret]
    try simp only [res0, res1, res2, res3, stK_e, go_sem, Φa, hP, h3_0]
    refine ⟨_, _, Less.refl _, rfl, ?_⟩
    unfold fillG
    rw [hrow]
    exact ⟨rfl, sv, pv, mv, q1, q2, q3, rfl, ⟨hr.st, hr.pg, hr.mm⟩⟩

end Go.Proofs.Ytgioegdjeodpiaa
set_option linter.unusedVariables false
set_option linter.unusedSimpArgs false
namespace Go.Proofs.Ytgioegdjeodpiaa
open Go.RowKit Go.SX

def doG (g : GM) (o : Ord) (f : Fnt) (d : Feed) : Int × GM := match o.op with
  | 2 => (1, { g with pg := List.replicate 256 0 })
  | 3 => backG g
  | 4 => (1, { g with PC := (o.a : Int) })
  | 5 => callG g o
  | 6 => skipG g (decide (vG g o.x = (o.b : Int)))
  | 7 => skipG g (!decide (vG g o.x = (o.b : Int)))
  | 8 => skipG g (decide (vG g o.x = vG g o.y))
  | 9 => letG g o (o.b : Int)
  | 10 => letG g o (IntKind.u8.wrap (vG g o.x + (o.b : Int)))
  | 11 => letG g o (vG g o.y)
  | 12 => flagG g o (bits .or .u8 (vG g o.x) (vG g o.y)) 0
  | 13 => flagG g o (bits .and .u8 (vG g o.x) (vG g o.y)) 0
  | 14 => plusG g o
  | 15 => minusG g o
  | 16 => skipG g (!decide (vG g o.x = vG g o.y))
  | 17 => (1, { g with I := (o.a : Int) })
  | 18 => (1, { g with PC := IntKind.u16.wrap ((o.a : Int) + vG g 0) })
  | 19 => letG g o (bits .and .u8 d.rnd (o.b : Int))
  | 20 => drawG g o f
  | 21 => skipG g (downG g o d)
  | 22 => skipG g (!downG g o d)
  | 23 => letG g o g.dl
  | 24 => keyG g o d
  | 25 => (1, { g with dl := vG g o.x })
  | 26 => (1, { g with sd := vG g o.x })
  | 27 => (1, { g with I := IntKind.u16.wrap (g.I + vG g o.x) })
  | 28 => (1, { g with I := f.at_.getD (vG g o.x % 16).toNat 0 })
  | 29 => threeG g o
  | 30 => storeG g o
  | 31 => fillG g o f
  | _ => (0, g)
theorem do_spec {Γ : Ctx} (hP : Γ.P = Try.prog) {L : Hp} {gp : Nat} {g : GM} {sv pv mv : Value} {o : Ord} {f : Fnt} {fv : Value} {d : Feed} {q1 q2 q3 : Slot} (hg : OkG g) (hr : Rows g sv pv mv q1 q2 q3) (ho : OkO o) (hx : o.x < 16) (hy : o.y < 16) (hd : OkD d) (hst : g.st.length ≤ 12) (hn : o.n < 16) (hml : g.mm.length = 3232) (hpl : g.pg.length = 256) (hf : SlI .u8 (Cell Γ L) fv f.bs) (hfl : f.bs.length ≤ 65536) (hfr : 0 ≤ f.from_ ∧ f.from_ ≤ 65535) (h2 : 2 ≤ o.op) (h31 : o.op ≤ 31) : SCall Γ (45 + o.op) #[(.pointer (some ⟨gp, 0, none⟩))] (PS gp g sv pv mv o f fv d :: q1 :: q2 :: q3 :: L) (mres gp o f fv d L (doG g o f d)) := by
  have h : o.op = 2 ∨ o.op = 3 ∨ o.op = 4 ∨ o.op = 5 ∨ o.op = 6 ∨ o.op = 7 ∨ o.op = 8 ∨ o.op = 9 ∨ o.op = 10 ∨ o.op = 11 ∨ o.op = 12 ∨ o.op = 13 ∨ o.op = 14 ∨ o.op = 15 ∨ o.op = 16 ∨ o.op = 17 ∨ o.op = 18 ∨ o.op = 19 ∨ o.op = 20 ∨ o.op = 21 ∨ o.op = 22 ∨ o.op = 23 ∨ o.op = 24 ∨ o.op = 25 ∨ o.op = 26 ∨ o.op = 27 ∨ o.op = 28 ∨ o.op = 29 ∨ o.op = 30 ∨ o.op = 31 := by omega
  unfold doG
  rcases h with h | h | h | h | h | h | h | h | h | h | h | h | h | h | h | h | h | h | h | h | h | h | h | h | h | h | h | h | h | h <;> rw [h]
  · exact clear_spec hP hg hr ho hx hy hd 
  · exact back_spec hP hg hr ho hx hy hd hst
  · exact jump_spec hP hg hr ho hx hy hd 
  · exact call_spec hP hg hr ho hx hy hd hst
  · exact skipIs_spec hP hg hr ho hx hy hd 
  · exact skipNot_spec hP hg hr ho hx hy hd 
  · exact skipSame_spec hP hg hr ho hx hy hd 
  · exact set_spec hP hg hr ho hx hy hd 
  · exact add_spec hP hg hr ho hx hy hd 
  · exact move_spec hP hg hr ho hx hy hd 
  · exact or_spec hP hg hr ho hx hy hd 
  · exact and_spec hP hg hr ho hx hy hd 
  · exact plus_spec hP hg hr ho hx hy hd 
  · exact minus_spec hP hg hr ho hx hy hd 
  · exact skipOther_spec hP hg hr ho hx hy hd 
  · exact point_spec hP hg hr ho hx hy hd 
  · exact jumpBy_spec hP hg hr ho hx hy hd 
  · exact random_spec hP hg hr ho hx hy hd 
  · exact draw_spec hP hg hr ho hx hy hd hn hml hpl hf hfl hfr
  · exact skipDown_spec hP hg hr ho hx hy hd 
  · exact skipUp_spec hP hg hr ho hx hy hd 
  · exact timer_spec hP hg hr ho hx hy hd 
  · exact key_spec hP hg hr ho hx hy hd 
  · exact delay_spec hP hg hr ho hx hy hd 
  · exact sound_spec hP hg hr ho hx hy hd 
  · exact on_spec hP hg hr ho hx hy hd 
  · exact digit_spec hP hg hr ho hx hy hd 
  · exact three_spec hP hg hr ho hx hy hd hml
  · exact store_spec hP hg hr ho hx hy hd hml
  · exact fill_spec hP hg hr ho hx hy hd hn hml hpl hf hfl hfr
def deedT : List MapEntry := [{ key := .int .u8 2, val := .func (.func 47) #[] #[], born := 0 }, { key := .int .u8 3, val := .func (.func 48) #[] #[], born := 1 }, { key := .int .u8 4, val := .func (.func 49) #[] #[], born := 2 }, { key := .int .u8 5, val := .func (.func 50) #[] #[], born := 3 }, { key := .int .u8 6, val := .func (.func 51) #[] #[], born := 4 }, { key := .int .u8 7, val := .func (.func 52) #[] #[], born := 5 }, { key := .int .u8 8, val := .func (.func 53) #[] #[], born := 6 }, { key := .int .u8 9, val := .func (.func 54) #[] #[], born := 7 }, { key := .int .u8 10, val := .func (.func 55) #[] #[], born := 8 }, { key := .int .u8 11, val := .func (.func 56) #[] #[], born := 9 }, { key := .int .u8 12, val := .func (.func 57) #[] #[], born := 10 }, { key := .int .u8 13, val := .func (.func 58) #[] #[], born := 11 }, { key := .int .u8 14, val := .func (.func 59) #[] #[], born := 12 }, { key := .int .u8 15, val := .func (.func 60) #[] #[], born := 13 }, { key := .int .u8 16, val := .func (.func 61) #[] #[], born := 14 }, { key := .int .u8 17, val := .func (.func 62) #[] #[], born := 15 }, { key := .int .u8 18, val := .func (.func 63) #[] #[], born := 16 }, { key := .int .u8 19, val := .func (.func 64) #[] #[], born := 17 }, { key := .int .u8 20, val := .func (.func 65) #[] #[], born := 18 }, { key := .int .u8 21, val := .func (.func 66) #[] #[], born := 19 }, { key := .int .u8 22, val := .func (.func 67) #[] #[], born := 20 }, { key := .int .u8 23, val := .func (.func 68) #[] #[], born := 21 }, { key := .int .u8 24, val := .func (.func 69) #[] #[], born := 22 }, { key := .int .u8 25, val := .func (.func 70) #[] #[], born := 23 }, { key := .int .u8 26, val := .func (.func 71) #[] #[], born := 24 }, { key := .int .u8 27, val := .func (.func 72) #[] #[], born := 25 }, { key := .int .u8 28, val := .func (.func 73) #[] #[], born := 26 }, { key := .int .u8 29, val := .func (.func 74) #[] #[], born := 27 }, { key := .int .u8 30, val := .func (.func 75) #[] #[], born := 28 }, { key := .int .u8 31, val := .func (.func 76) #[] #[], born := 29 }]
set_option maxHeartbeats 1000000 in
set_option maxRecDepth 100000 in
theorem deeds_spec {Γ : Ctx} (hP : Γ.P = Try.prog) {L : Hp}  :
    SCall Γ 39 #[] L (fun v L' => ∃ b, v = .map (some b) ∧ L' = some (b, .map deedT.toArray 30) :: L) := by
  refine SCall.enter (n := 3) (res1 0) (hP ▸ Try.func39) rfl rfl (by simp) (res1_ok rfl) ?_
  refine SX.seq_k fun K1 hK1 => ?_
  refine SX.region_d [some 0] rfl (fun ops hops => ?_)
  unfold Dsts at hops
  simp (maxSteps := 1000000) (dsimp := false) (disch := omega) only [go_sem, ia_someH, hP, hops]
  refine hK1 _ _ ?_
  try clear hK1 K1
  refine SX.seq_k fun K2 hK2 => ?_
  refine SX.region_d [some 1, none, none, none, none, none, none, none, none, none, none, none, none, none, none, none, none, none, none, none, none, none, none, none, none, none, none, none, none, none, none, some 2, some 0] rfl (fun ops hops => ?_)
  unfold Dsts at hops
  simp (maxSteps := 1000000) (dsimp := false) (disch := omega) only [go_sem, ia_someH, hP, hops, mapPut, List.nil_append, List.cons_append]
  intro bm
  try with_reducible refine stI ?_
  try simp (maxSteps := 1000000) (dsimp := false) (disch := omega) only [go_sem, ia_someH, hP, hops, mapPut, List.nil_append, List.cons_append]
  refine ⟨_, _, rfl, 0, _, _, rfl, _, rfl, ?_⟩
  try with_reducible refine stI ?_
  try simp (maxSteps := 1000000) (dsimp := false) (disch := omega) only [go_sem, ia_someH, hP, hops, mapPut, List.nil_append, List.cons_append]
  refine ⟨_, _, rfl, 0, _, _, rfl, _, rfl, ?_⟩
  try with_reducible refine stI ?_
  try simp (maxSteps := 1000000) (dsimp := false) (disch := omega) only [go_sem, ia_someH, hP, hops, mapPut, List.nil_append, List.cons_append]
  refine ⟨_, _, rfl, 0, _, _, rfl, _, rfl, ?_⟩
  try with_reducible refine stI ?_
  try simp (maxSteps := 1000000) (dsimp := false) (disch := omega) only [go_sem, ia_someH, hP, hops, mapPut, List.nil_append, List.cons_append]
  refine ⟨_, _, rfl, 0, _, _, rfl, _, rfl, ?_⟩
  try with_reducible refine stI ?_
  try simp (maxSteps := 1000000) (dsimp := false) (disch := omega) only [go_sem, ia_someH, hP, hops, mapPut, List.nil_append, List.cons_append]
  refine ⟨_, _, rfl, 0, _, _, rfl, _, rfl, ?_⟩
  try with_reducible refine stI ?_
  try simp (maxSteps := 1000000) (dsimp := false) (disch := omega) only [go_sem, ia_someH, hP, hops, mapPut, List.nil_append, List.cons_append]
  refine ⟨_, _, rfl, 0, _, _, rfl, _, rfl, ?_⟩
  try with_reducible refine stI ?_
  try simp (maxSteps := 1000000) (dsimp := false) (disch := omega) only [go_sem, ia_someH, hP, hops, mapPut, List.nil_append, List.cons_append]
  refine ⟨_, _, rfl, 0, _, _, rfl, _, rfl, ?_⟩
  try with_reducible refine stI ?_
  try simp (maxSteps := 1000000) (dsimp := false) (disch := omega) only [go_sem, ia_someH, hP, hops, mapPut, List.nil_append, List.cons_append]
  refine ⟨_, _, rfl, 0, _, _, rfl, _, rfl, ?_⟩
  try with_reducible refine stI ?_
  try simp (maxSteps := 1000000) (dsimp := false) (disch := omega) only [go_sem, ia_someH, hP, hops, mapPut, List.nil_append, List.cons_append]
  refine ⟨_, _, rfl, 0, _, _, rfl, _, rfl, ?_⟩
  try with_reducible refine stI ?_
  try simp (maxSteps := 1000000) (dsimp := false) (disch := omega) only [go_sem, ia_someH, hP, hops, mapPut, List.nil_append, List.cons_append]
  refine ⟨_, _, rfl, 0, _, _, rfl, _, rfl, ?_⟩
  try with_reducible refine stI ?_
  try simp (maxSteps := 1000000) (dsimp := false) (disch := omega) only [go_sem, ia_someH, hP, hops, mapPut, List.nil_append, List.cons_append]
  refine ⟨_, _, rfl, 0, _, _, rfl, _, rfl, ?_⟩
  try with_reducible refine stI ?_
  try simp (maxSteps := 1000000) (dsimp := false) (disch := omega) only [go_sem, ia_someH, hP, hops, mapPut, List.nil_append, List.cons_append]
  refine ⟨_, _, rfl, 0, _, _, rfl, _, rfl, ?_⟩
  try with_reducible refine stI ?_
  try simp (maxSteps := 1000000) (dsimp := false) (disch := omega) only [go_sem, ia_someH, hP, hops, mapPut, List.nil_append, List.cons_append]
  refine ⟨_, _, rfl, 0, _, _, rfl, _, rfl, ?_⟩
  try with_reducible refine stI ?_
  try simp (maxSteps := 1000000) (dsimp := false) (disch := omega) only [go_sem, ia_someH, hP, hops, mapPut, List.nil_append, List.cons_append]
  refine ⟨_, _, rfl, 0, _, _, rfl, _, rfl, ?_⟩
  try with_reducible refine stI ?_
  try simp (maxSteps := 1000000) (dsimp := false) (disch := omega) only [go_sem, ia_someH, hP, hops, mapPut, List.nil_append, List.cons_append]
  refine ⟨_, _, rfl, 0, _, _, rfl, _, rfl, ?_⟩
  try with_reducible refine stI ?_
  try simp (maxSteps := 1000000) (dsimp := false) (disch := omega) only [go_sem, ia_someH, hP, hops, mapPut, List.nil_append, List.cons_append]
  refine ⟨_, _, rfl, 0, _, _, rfl, _, rfl, ?_⟩
  try with_reducible refine stI ?_
  try simp (maxSteps := 1000000) (dsimp := false) (disch := omega) only [go_sem, ia_someH, hP, hops, mapPut, List.nil_append, List.cons_append]
  refine ⟨_, _, rfl, 0, _, _, rfl, _, rfl, ?_⟩
  try with_reducible refine stI ?_
  try simp (maxSteps := 1000000) (dsimp := false) (disch := omega) only [go_sem, ia_someH, hP, hops, mapPut, List.nil_append, List.cons_append]
  refine ⟨_, _, rfl, 0, _, _, rfl, _, rfl, ?_⟩
  try with_reducible refine stI ?_
  try simp (maxSteps := 1000000) (dsimp := false) (disch := omega) only [go_sem, ia_someH, hP, hops, mapPut, List.nil_append, List.cons_append]
  refine ⟨_, _, rfl, 0, _, _, rfl, _, rfl, ?_⟩
  try with_reducible refine stI ?_
  try simp (maxSteps := 1000000) (dsimp := false) (disch := omega) only [go_sem, ia_someH, hP, hops, mapPut, List.nil_append, List.cons_append]
  refine ⟨_, _, rfl, 0, _, _, rfl, _, rfl, ?_⟩
  try with_reducible refine stI ?_
  try simp (maxSteps := 1000000) (dsimp := false) (disch := omega) only [go_sem, ia_someH, hP, hops, mapPut, List.nil_append, List.cons_append]
  refine ⟨_, _, rfl, 0, _, _, rfl, _, rfl, ?_⟩
  try with_reducible refine stI ?_
  try simp (maxSteps := 1000000) (dsimp := false) (disch := omega) only [go_sem, ia_someH, hP, hops, mapPut, List.nil_append, List.cons_append]
  refine ⟨_, _, rfl, 0, _, _, rfl, _, rfl, ?_⟩
  try with_reducible refine stI ?_
  try simp (maxSteps := 1000000) (dsimp := false) (disch := omega) only [go_sem, ia_someH, hP, hops, mapPut, List.nil_append, List.cons_append]
  refine ⟨_, _, rfl, 0, _, _, rfl, _, rfl, ?_⟩
  try with_reducible refine stI ?_
  try simp (maxSteps := 1000000) (dsimp := false) (disch := omega) only [go_sem, ia_someH, hP, hops, mapPut, List.nil_append, List.cons_append]
  refine ⟨_, _, rfl, 0, _, _, rfl, _, rfl, ?_⟩
  try with_reducible refine stI ?_
  try simp (maxSteps := 1000000) (dsimp := false) (disch := omega) only [go_sem, ia_someH, hP, hops, mapPut, List.nil_append, List.cons_append]
  refine ⟨_, _, rfl, 0, _, _, rfl, _, rfl, ?_⟩
  try with_reducible refine stI ?_
  try simp (maxSteps := 1000000) (dsimp := false) (disch := omega) only [go_sem, ia_someH, hP, hops, mapPut, List.nil_append, List.cons_append]
  refine ⟨_, _, rfl, 0, _, _, rfl, _, rfl, ?_⟩
  try with_reducible refine stI ?_
  try simp (maxSteps := 1000000) (dsimp := false) (disch := omega) only [go_sem, ia_someH, hP, hops, mapPut, List.nil_append, List.cons_append]
  refine ⟨_, _, rfl, 0, _, _, rfl, _, rfl, ?_⟩
  try with_reducible refine stI ?_
  try simp (maxSteps := 1000000) (dsimp := false) (disch := omega) only [go_sem, ia_someH, hP, hops, mapPut, List.nil_append, List.cons_append]
  refine ⟨_, _, rfl, 0, _, _, rfl, _, rfl, ?_⟩
  try with_reducible refine stI ?_
  try simp (maxSteps := 1000000) (dsimp := false) (disch := omega) only [go_sem, ia_someH, hP, hops, mapPut, List.nil_append, List.cons_append]
  refine ⟨_, _, rfl, 0, _, _, rfl, _, rfl, ?_⟩
  try with_reducible refine stI ?_
  try simp (maxSteps := 1000000) (dsimp := false) (disch := omega) only [go_sem, ia_someH, hP, hops, mapPut, List.nil_append, List.cons_append]
  refine ⟨_, _, rfl, 0, _, _, rfl, _, rfl, ?_⟩
  try with_reducible refine stI ?_
  try simp (maxSteps := 1000000) (dsimp := false) (disch := omega) only [go_sem, ia_someH, hP, hops, mapPut, List.nil_append, List.cons_append]
  refine hK2 _ _ ?_
  try clear hK2 K2
  refine SX.ret ?_
  simp only [andThen_normal, andThen_ret, andThen_exit, inBlk_normal, inBlk_ret, inBlk_exit, Nat.reduceEqDiff, if_true, if_false, ↓reduceIte, retQ_ret]
  try simp only [res0, res1, res2, res3, stK_e, go_sem, ia_someH, hP]
  exact ⟨_, _, Less.refl _, rfl, bm, rfl, rfl⟩

end Go.Proofs.Ytgioegdjeodpiaa
set_option linter.unusedVariables false
set_option linter.unusedSimpArgs false
namespace Go.Proofs.Ytgioegdjeodpiaa
open Go.RowKit Go.SX

theorem lessThree (a b c p q : Slot) (L : Hp) : Less (c :: b :: a :: p :: q :: L) (a :: b :: c :: L) :=
  (Less.sublist (.cons_cons _ (.cons_cons _ (.cons_cons _ (.cons _ (.cons _ (List.Sublist.refl _))))))).trans (Less.perm ((List.reverse_perm [a, b, c]).append_right L))
def cloneG (g : GM) (L : Hp) (v : Value) (L' : Hp) : Prop := ∃ sv pv mv s1 s2 s3, v = .agg (g.cells sv pv mv).toArray ∧ L' = s1 :: s2 :: s3 :: L ∧ Rows g sv pv mv s1 s2 s3
def checkE (g : GM) : Int := if g.pg.length = 256 ∧ g.mm.length = 3232 ∧ g.st.length ≤ 12 then 0 else 180
theorem slShape {k : IntKind} {C : Addr → Value → Prop} {v : Value} {l : List Int} (h : SlI k C v l) : ∃ A c, v = .slice A l.length c ∧ l.length ≤ c := let ⟨A, c, h1, h2, _⟩ := h; ⟨A, c, h1, h2⟩
set_option maxHeartbeats 1000000 in
set_option maxRecDepth 100000 in
theorem clone_spec {Γ : Ctx} (hP : Γ.P = Try.prog) {L : Hp} {g : GM} {sv pv mv : Value} (hs : SlI .u16 (Cell Γ L) sv g.st) (hp : SlI .u8 (Cell Γ L) pv g.pg) (hm : SlI .u8 (Cell Γ L) mv g.mm) (hsl : g.st.length ≤ 1000000) (hpl : g.pg.length ≤ 1000000) (hml : g.mm.length ≤ 1000000) :
    SCall Γ 38 #[(.agg (g.cells sv pv mv).toArray)] L (cloneG g L) := by
  refine SCall.enter (n := 16) (resX Γ [.cell 2 29]) (hP ▸ Try.func38) rfl rfl (by simp) (resX_ok rfl) ?_
  refine SX.seq_k fun K1 hK1 => ?_
  refine SX.region_d [some 1, some 2] rfl (fun ops hops => ?_)
  unfold Dsts at hops
  simp (maxSteps := 1000000) (dsimp := false) (disch := omega) only [go_sem, ia_someH, hP, hops]
  intro b0
  try with_reducible refine stI ?_
  try simp (maxSteps := 1000000) (dsimp := false) (disch := omega) only [go_sem, ia_someH, hP, hops]
  intro b1
  try with_reducible refine stI ?_
  try simp (maxSteps := 1000000) (dsimp := false) (disch := omega) only [go_sem, ia_someH, hP, hops]
  refine hK1 _ _ ?_
  try clear hK1 K1
  refine SX.seq_k fun K2 hK2 => ?_
  refine SX.drawn_d [(0, .q), (1, .q), (3, .q), (4, .q), (6, .q), (7, .q), (2, .e), (9, .q), (5, .e), (8, .e), (10, .t), (11, .t), (12, .t), (13, .t), (14, .t)] (fun L => L) (hP ▸ T.mixed) (by kernel_rfl) (by exact Less.refl _) [some 3, some 4, some 5, some 6, some 7, some 8, some 9, some 10, some 11, some 12, none, some 13, none, some 14, none] rfl (fun ops hops hopl => ?_)
  unfold Dsts at hops
  simp (maxSteps := 1000000) (dsimp := false) (disch := omega) only [go_sem, ia_someH, hP, hops, hopl]
  refine ⟨_, Cell.at 1 rfl (show (g.cells _ _ _)[18]? = _ from rfl), ?_⟩
  try with_reducible refine stI ?_
  try simp (maxSteps := 1000000) (dsimp := false) (disch := omega) only [go_sem, ia_someH, hP, hops, hopl]
  refine ⟨_, Cell.at 1 rfl (show (g.cells _ _ _)[21]? = _ from rfl), ?_⟩
  try with_reducible refine stI ?_
  try simp (maxSteps := 1000000) (dsimp := false) (disch := omega) only [go_sem, ia_someH, hP, hops, hopl]
  refine ⟨_, Cell.at 1 rfl (show (g.cells _ _ _)[22]? = _ from rfl), ?_⟩
  try with_reducible refine stI ?_
  try simp (maxSteps := 1000000) (dsimp := false) (disch := omega) only [go_sem, ia_someH, hP, hops, hopl]
  refine SCall.mono (cloneW_spec hP (SlI.cons _ (SlI.cons _ hs)) hsl) ?_
  rintro v_ L_ ⟨s1, rfl, hr1⟩
  obtain ⟨A1, c1, rfl, hc1⟩ := rowShape hr1
  try with_reducible refine stI ?_
  try simp (maxSteps := 1000000) (dsimp := false) (disch := omega) only [go_sem, ia_someH, hP, hops, hopl]
  refine SCall.mono (cloneB_spec hP (SlI.cons _ (SlI.cons _ (SlI.cons _ hp))) hpl) ?_
  rintro v_ L_ ⟨s2, rfl, hr2⟩
  obtain ⟨A2, c2, rfl, hc2⟩ := rowShape hr2
  try with_reducible refine stI ?_
  try simp (maxSteps := 1000000) (dsimp := false) (disch := omega) only [go_sem, ia_someH, hP, hops, hopl]
  refine SCall.mono (cloneB_spec hP (SlI.cons _ (SlI.cons _ (SlI.cons _ (SlI.cons _ hm)))) hml) ?_
  rintro v_ L_ ⟨s3, rfl, hr3⟩
  obtain ⟨A3, c3, rfl, hc3⟩ := rowShape hr3
  try with_reducible refine stI ?_
  try simp (maxSteps := 1000000) (dsimp := false) (disch := omega) only [go_sem, ia_someH, hP, hops, hopl]
  refine ⟨4, _, _, _, rfl, (by simp [GM.cells]), .inr (by decide), ?_⟩
  try with_reducible refine stI ?_
  try simp (maxSteps := 1000000) (dsimp := false) (disch := omega) only [go_sem, ia_someH, hP, hops, hopl]
  refine ⟨4, _, _, _, rfl, (by simp [GM.cells]), .inr (by decide), ?_⟩
  try with_reducible refine stI ?_
  try simp (maxSteps := 1000000) (dsimp := false) (disch := omega) only [go_sem, ia_someH, hP, hops, hopl]
  refine ⟨4, _, _, _, rfl, (by simp [GM.cells]), .inr (by decide), ?_⟩
  try with_reducible refine stI ?_
  try simp (maxSteps := 1000000) (dsimp := false) (disch := omega) only [go_sem, ia_someH, hP, hops, hopl]
  refine hK2 _ _ ?_
  try clear hK2 K2
  refine SX.live [1, 2] (fun T1 hT1 => ?_)
  simp only [forall_mem_cons', forall_mem_nil', go_sem, ia_someH, hP] at hT1
  obtain ⟨h1_1, h1_2⟩ := hT1
  refine SX.seq_k fun K3 hK3 => ?_
  refine SX.region_d [some 15, none] rfl (fun ops hops => ?_)
  unfold Dsts at hops
  simp (maxSteps := 1000000) (dsimp := false) (disch := omega) only [go_sem, ia_someH, hP, h1_1, h1_2, hops]
  refine ⟨_, Cell.at 4 rfl rfl, ?_⟩
  try with_reducible refine stI ?_
  try simp (maxSteps := 1000000) (dsimp := false) (disch := omega) only [go_sem, ia_someH, hP, h1_1, h1_2, hops]
  refine ⟨_, Cell.at 4 rfl rfl, ?_⟩
  try with_reducible refine stI ?_
  try simp (maxSteps := 1000000) (dsimp := false) (disch := omega) only [go_sem, ia_someH, hP, h1_1, h1_2, hops]
  refine ⟨_, Cell.at 4 rfl rfl, ?_⟩
  try with_reducible refine stI ?_
  try simp (maxSteps := 1000000) (dsimp := false) (disch := omega) only [go_sem, ia_someH, hP, h1_1, h1_2, hops]
  refine ⟨_, Cell.at 4 rfl rfl, ?_⟩
  try with_reducible refine stI ?_
  try simp (maxSteps := 1000000) (dsimp := false) (disch := omega) only [go_sem, ia_someH, hP, h1_1, h1_2, hops]
  refine ⟨_, Cell.at 4 rfl rfl, ?_⟩
  try with_reducible refine stI ?_
  try simp (maxSteps := 1000000) (dsimp := false) (disch := omega) only [go_sem, ia_someH, hP, h1_1, h1_2, hops]
  refine ⟨_, Cell.at 4 rfl rfl, ?_⟩
  try with_reducible refine stI ?_
  try simp (maxSteps := 1000000) (dsimp := false) (disch := omega) only [go_sem, ia_someH, hP, h1_1, h1_2, hops]
  refine ⟨_, Cell.at 4 rfl rfl, ?_⟩
  try with_reducible refine stI ?_
  try simp (maxSteps := 1000000) (dsimp := false) (disch := omega) only [go_sem, ia_someH, hP, h1_1, h1_2, hops]
  refine ⟨_, Cell.at 4 rfl rfl, ?_⟩
  try with_reducible refine stI ?_
  try simp (maxSteps := 1000000) (dsimp := false) (disch := omega) only [go_sem, ia_someH, hP, h1_1, h1_2, hops]
  refine ⟨_, Cell.at 4 rfl rfl, ?_⟩
  try with_reducible refine stI ?_
  try simp (maxSteps := 1000000) (dsimp := false) (disch := omega) only [go_sem, ia_someH, hP, h1_1, h1_2, hops]
  refine ⟨_, Cell.at 4 rfl rfl, ?_⟩
  try with_reducible refine stI ?_
  try simp (maxSteps := 1000000) (dsimp := false) (disch := omega) only [go_sem, ia_someH, hP, h1_1, h1_2, hops]
  refine ⟨_, Cell.at 4 rfl rfl, ?_⟩
  try with_reducible refine stI ?_
  try simp (maxSteps := 1000000) (dsimp := false) (disch := omega) only [go_sem, ia_someH, hP, h1_1, h1_2, hops]
  refine ⟨_, Cell.at 4 rfl rfl, ?_⟩
  try with_reducible refine stI ?_
  try simp (maxSteps := 1000000) (dsimp := false) (disch := omega) only [go_sem, ia_someH, hP, h1_1, h1_2, hops]
  refine ⟨_, Cell.at 4 rfl rfl, ?_⟩
  try with_reducible refine stI ?_
  try simp (maxSteps := 1000000) (dsimp := false) (disch := omega) only [go_sem, ia_someH, hP, h1_1, h1_2, hops]
  refine ⟨_, Cell.at 4 rfl rfl, ?_⟩
  try with_reducible refine stI ?_
  try simp (maxSteps := 1000000) (dsimp := false) (disch := omega) only [go_sem, ia_someH, hP, h1_1, h1_2, hops]
  refine ⟨_, Cell.at 4 rfl rfl, ?_⟩
  try with_reducible refine stI ?_
  try simp (maxSteps := 1000000) (dsimp := false) (disch := omega) only [go_sem, ia_someH, hP, h1_1, h1_2, hops]
  refine ⟨_, Cell.at 4 rfl rfl, ?_⟩
  try with_reducible refine stI ?_
  try simp (maxSteps := 1000000) (dsimp := false) (disch := omega) only [go_sem, ia_someH, hP, h1_1, h1_2, hops]
  refine ⟨_, Cell.at 4 rfl rfl, ?_⟩
  try with_reducible refine stI ?_
  try simp (maxSteps := 1000000) (dsimp := false) (disch := omega) only [go_sem, ia_someH, hP, h1_1, h1_2, hops]
  refine ⟨_, Cell.at 4 rfl rfl, ?_⟩
  try with_reducible refine stI ?_
  try simp (maxSteps := 1000000) (dsimp := false) (disch := omega) only [go_sem, ia_someH, hP, h1_1, h1_2, hops]
  refine ⟨_, Cell.at 4 rfl rfl, ?_⟩
  try with_reducible refine stI ?_
  try simp (maxSteps := 1000000) (dsimp := false) (disch := omega) only [go_sem, ia_someH, hP, h1_1, h1_2, hops]
  refine ⟨_, Cell.at 4 rfl rfl, ?_⟩
  try with_reducible refine stI ?_
  try simp (maxSteps := 1000000) (dsimp := false) (disch := omega) only [go_sem, ia_someH, hP, h1_1, h1_2, hops]
  refine ⟨_, Cell.at 4 rfl rfl, ?_⟩
  try with_reducible refine stI ?_
  try simp (maxSteps := 1000000) (dsimp := false) (disch := omega) only [go_sem, ia_someH, hP, h1_1, h1_2, hops]
  refine ⟨_, Cell.at 4 rfl rfl, ?_⟩
  try with_reducible refine stI ?_
  try simp (maxSteps := 1000000) (dsimp := false) (disch := omega) only [go_sem, ia_someH, hP, h1_1, h1_2, hops]
  refine ⟨_, Cell.at 4 rfl rfl, ?_⟩
  try with_reducible refine stI ?_
  try simp (maxSteps := 1000000) (dsimp := false) (disch := omega) only [go_sem, ia_someH, hP, h1_1, h1_2, hops]
  refine ⟨3, _, _, _, rfl, (by simp [GM.cells]), .inr (by decide), ?_⟩
  try with_reducible refine stI ?_
  try simp (maxSteps := 1000000) (dsimp := false) (disch := omega) only [go_sem, ia_someH, hP, h1_1, h1_2, hops]
  refine hK3 _ _ ?_
  try clear hK3 K3
  refine SX.ret ?_
  simp only [andThen_normal, andThen_ret, andThen_exit, inBlk_normal, inBlk_ret, inBlk_exit, Nat.reduceEqDiff, if_true, if_false, ↓reduceIte, retQ_ret]
  try simp only [res0, res1, res2, res3, stK_e, resX, resK, oneOr, ld_ptr, loadVC, loadN, List.nil_append, List.cons_append, Nat.reduceAdd, Nat.add_zero, Nat.zero_add, Addr.add_lit, Addr.add_zero', add_addS, T.elA_29, T.lay_29, T.szA_29, T.zr_29, Try.underlying29, go_sem, ia_someH, hP, h1_1, h1_2]
  refine ⟨_, _, lessThree _ _ _ _ _ _, ⟨_, Cell.at 3 rfl rfl, _, Cell.at 3 rfl rfl, _, Cell.at 3 rfl rfl, _, Cell.at 3 rfl rfl, _, Cell.at 3 rfl rfl, _, Cell.at 3 rfl rfl, _, Cell.at 3 rfl rfl, _, Cell.at 3 rfl rfl, _, Cell.at 3 rfl rfl, _, Cell.at 3 rfl rfl, _, Cell.at 3 rfl rfl, _, Cell.at 3 rfl rfl, _, Cell.at 3 rfl rfl, _, Cell.at 3 rfl rfl, _, Cell.at 3 rfl rfl, _, Cell.at 3 rfl rfl, _, Cell.at 3 rfl rfl, _, Cell.at 3 rfl rfl, _, Cell.at 3 rfl rfl, _, Cell.at 3 rfl rfl, _, Cell.at 3 rfl rfl, _, Cell.at 3 rfl rfl, _, Cell.at 3 rfl rfl, rfl⟩, ?_⟩
  exact ⟨_, _, _, s1, s2, s3, rfl, rfl, ⟨hr1, hr2, hr3⟩⟩
set_option maxHeartbeats 1000000 in
set_option maxRecDepth 100000 in
theorem Check_spec {Γ : Ctx} (hP : Γ.P = Try.prog) {L : Hp} {g : GM} {sv pv mv : Value} (hs : SlI .u16 (Cell Γ L) sv g.st) (hp : SlI .u8 (Cell Γ L) pv g.pg) (hm : SlI .u8 (Cell Γ L) mv g.mm) (hsl : g.st.length ≤ 2147483647) (hpl : g.pg.length ≤ 2147483647) (hml : g.mm.length ≤ 2147483647) :
    SCall Γ 20 #[(.agg (g.cells sv pv mv).toArray)] L (fun v L' => v = .int .i64 (checkE g) ∧ L' = L) := by
  obtain ⟨As, cs, rfl, hcs⟩ := slShape hs
  obtain ⟨Ap, cp, rfl, hcp⟩ := slShape hp
  obtain ⟨Am, cm, rfl, hcm⟩ := slShape hm
  refine SCall.enter (n := 19) (res1 2) (hP ▸ Try.func20) rfl rfl (by simp) (res1_ok rfl) ?_
  refine SX.seq_k fun K1 hK1 => ?_
  refine SX.region_d [some 1, some 2] rfl (fun ops hops => ?_)
  unfold Dsts at hops
  simp (maxSteps := 1000000) (dsimp := false) (disch := omega) only [go_sem, ia_someH, hP, hops]
  intro b0
  try with_reducible refine stI ?_
  try simp (maxSteps := 1000000) (dsimp := false) (disch := omega) only [go_sem, ia_someH, hP, hops]
  refine hK1 _ _ ?_
  try clear hK1 K1
  refine SX.seq_k fun K2 hK2 => ?_
  refine SX.seq_k fun K3 hK3 => ?_
  refine SX.region_xd [some 3, some 4, some 5, some 6, some 7, some 8, some 9, some 10, some 11, some 12, some 13, some 14, some 15, some 16, some 17, some 18] rfl (fun ops hops => ?_)
  unfold Dsts at hops
  refine RX.live [1] (fun T1 hT1 => ?_)
  simp only [forall_mem_cons', forall_mem_nil', go_sem, ia_someH, hP] at hT1
  have h1_1 := hT1; clear hT1
  refine RX.join 10 (fun (ss : Unit) T L' => T 12 = .bool ((!decide ((g.pg.length : Int) = 256)) || !decide ((g.mm.length : Int) = 3232)) ∧ T 1 = T1 1 ∧ L' = some (b0, .cells (g.cells (.slice As g.st.length cs) (.slice Ap g.pg.length cp) (.slice Am g.mm.length cm)).toArray 29 (0, 0)) :: L ∧ (True)) (fun K4 hK4 => ?_) ?_
  · simp only [h1_1] at hK4
    simp (maxSteps := 1000000) (dsimp := false) (disch := omega) only [go_sem, ia_someH, hP, h1_1, hops]
    repeat' (first | refine iteB (fun hg => ?_) (fun hg => ?_) | refine iteI (fun hg => ?_) (fun hg => ?_) | ((first | refine ⟨_, Cell.at 0 rfl (show (g.cells _ _ _)[21]? = _ from rfl), ?_⟩ | refine ⟨_, Cell.at 0 rfl (show (g.cells _ _ _)[22]? = _ from rfl), ?_⟩ | refine ⟨_, Cell.at 0 rfl (show (g.cells _ _ _)[18]? = _ from rfl), ?_⟩ | refine And.intro (by omega) ?_ | refine ⟨_, Cell.at 0 rfl rfl, ?_⟩ | fail); try (with_reducible refine stI ?_); try simp (maxSteps := 1000000) (dsimp := false) (disch := omega) only [go_sem, ia_someH, hP, h1_1, hops]) | fail)
    all_goals
      refine hK4 () _ (some (b0, .cells (g.cells (.slice As g.st.length cs) (.slice Ap g.pg.length cp) (.slice Am g.mm.length cm)).toArray 29 (0, 0)) :: L) _ (by first | exact Less.refl _ | exact Less.drop _ _ | exact Less.drops (Less.drop _ _) | exact Less.drops (Less.drops (Less.drop _ _)) | exact Less.drops (Less.drops (Less.drops (Less.drop _ _))) | exact Less.drops (Less.drops (Less.drops (Less.drops (Less.drop _ _))))) ?_
      try dsimp only
      refine ⟨?_, ?_, ?_, ?_⟩
      · simp (maxSteps := 1000000) (dsimp := false) (disch := omega) only [go_sem, ia_someH, hP, h1_1]
        first | done | (refine congrArg Value.bool ?_; simp_all; done) | (refine congrArg Value.bool ?_; simp_all; omega)
      · simp (maxSteps := 1000000) (dsimp := false) (disch := omega) only [go_sem, ia_someH, hP, h1_1]
      · rfl
      · trivial
  · intro ss T2 L2 hI
    simp only [h1_1] at hI 
    obtain ⟨h2_12, h2_1, hL2, hinv⟩ := hI
    replace hL2 := hL2.symm
    subst hL2
    clear h1_1 T1
    refine RX.live [1, 12] (fun T3 hT3 => ?_)
    simp only [forall_mem_cons', forall_mem_nil', go_sem, ia_someH, hP, h2_12, h2_1] at hT3
    obtain ⟨h3_1, h3_12⟩ := hT3
    clear h2_12 h2_1 T2
    refine RX.join 6 (fun (ss : Unit) T L' => T 18 = .bool ((!decide ((g.pg.length : Int) = 256)) || (!decide ((g.mm.length : Int) = 3232)) || decide (12 < (g.st.length : Int))) ∧ L' = some (b0, .cells (g.cells (.slice As g.st.length cs) (.slice Ap g.pg.length cp) (.slice Am g.mm.length cm)).toArray 29 (0, 0)) :: L ∧ (True)) (fun K5 hK5 => ?_) ?_
    · simp (maxSteps := 1000000) (dsimp := false) (disch := omega) only [go_sem, ia_someH, hP, h3_1, h3_12, hops]
      repeat' (first | refine iteB (fun hg => ?_) (fun hg => ?_) | refine iteI (fun hg => ?_) (fun hg => ?_) | ((first | refine ⟨_, Cell.at 0 rfl (show (g.cells _ _ _)[21]? = _ from rfl), ?_⟩ | refine ⟨_, Cell.at 0 rfl (show (g.cells _ _ _)[22]? = _ from rfl), ?_⟩ | refine ⟨_, Cell.at 0 rfl (show (g.cells _ _ _)[18]? = _ from rfl), ?_⟩ | refine And.intro (by omega) ?_ | refine ⟨_, Cell.at 0 rfl rfl, ?_⟩ | fail); try (with_reducible refine stI ?_); try simp (maxSteps := 1000000) (dsimp := false) (disch := omega) only [go_sem, ia_someH, hP, h3_1, h3_12, hops]) | fail)
      all_goals
        refine hK5 () _ (some (b0, .cells (g.cells (.slice As g.st.length cs) (.slice Ap g.pg.length cp) (.slice Am g.mm.length cm)).toArray 29 (0, 0)) :: L) _ (by first | exact Less.refl _ | exact Less.drop _ _ | exact Less.drops (Less.drop _ _) | exact Less.drops (Less.drops (Less.drop _ _)) | exact Less.drops (Less.drops (Less.drops (Less.drop _ _))) | exact Less.drops (Less.drops (Less.drops (Less.drops (Less.drop _ _))))) ?_
        try dsimp only
        refine ⟨?_, ?_, ?_⟩
        · simp (maxSteps := 1000000) (dsimp := false) (disch := omega) only [go_sem, ia_someH, hP, h3_1, h3_12]
          first | done | (refine congrArg Value.bool ?_; simp_all; done) | (refine congrArg Value.bool ?_; simp_all; omega)
        · rfl
        · trivial
    · intro ss T4 L4 hI
      obtain ⟨h4_18, hL4, hinv⟩ := hI
      replace hL4 := hL4.symm
      subst hL4
      clear h3_1 h3_12 T3
      refine RX.done ?_
      simp (maxSteps := 1000000) (dsimp := false) (disch := omega) only [go_sem, ia_someH, hP, h4_18, hops]
      refine hK3 _ _ ?_
      try clear hK3 K3
      refine SX.cond_k fun X6 Y6 hX6 hY6 => ?_
      simp (maxSteps := 1000000) (dsimp := false) (disch := omega) only [go_sem, ia_someH, hP, h4_18, condVC]
      refine ⟨fun hc18 => hX6 ?_, fun hc18 => hY6 ?_⟩
      · clear hX6 hY6 X6 Y6
        refine SX.seq_k fun K7 hK7 => ?_
        refine SX.region_d [some 2] rfl (fun ops hops => ?_)
        unfold Dsts at hops
        simp (maxSteps := 1000000) (dsimp := false) (disch := omega) only [go_sem, ia_someH, hP, h4_18, hops]
        refine hK7 _ _ ?_
        try clear hK7 K7
        refine SX.ret ?_
        simp only [andThen_normal, andThen_ret, andThen_exit, inBlk_normal, inBlk_ret, inBlk_exit, Nat.reduceEqDiff, if_true, if_false, ↓reduceIte, retQ_ret]
        try simp only [res0, res1, res2, res3, stK_e, go_sem, ia_someH, hP, h4_18]
        refine ⟨_, _, Less.drop _ _, rfl, ?_⟩
        unfold checkE
        rw [if_neg (fun h => by obtain ⟨h1, h2, h3⟩ := h; simp [h1, h2] at hc18; omega)]
        exact ⟨rfl, rfl⟩
      · clear hX6 hY6 X6 Y6
        refine SX.skip ?_
        try simp only [andThen_normal, andThen_ret, andThen_exit, inBlk_normal, inBlk_ret, inBlk_exit, Nat.reduceEqDiff, if_true, if_false, ↓reduceIte]
        refine hK2 _ _ ?_
        try clear hK2 K2
        refine SX.seq_k fun K8 hK8 => ?_
        refine SX.region_d [some 2] rfl (fun ops hops => ?_)
        unfold Dsts at hops
        simp (maxSteps := 1000000) (dsimp := false) (disch := omega) only [go_sem, ia_someH, hP, h4_18, hops]
        refine hK8 _ _ ?_
        try clear hK8 K8
        refine SX.ret ?_
        simp only [andThen_normal, andThen_ret, andThen_exit, inBlk_normal, inBlk_ret, inBlk_exit, Nat.reduceEqDiff, if_true, if_false, ↓reduceIte, retQ_ret]
        try simp only [res0, res1, res2, res3, stK_e, go_sem, ia_someH, hP, h4_18]
        refine ⟨_, _, Less.drop _ _, rfl, ?_⟩
        unfold checkE
        rw [if_pos (by simp at hc18; omega)]
        exact ⟨rfl, rfl⟩

end Go.Proofs.Ytgioegdjeodpiaa
