/- A part of a proof: contracts and plain facts that it stands on. -/
import Derived.Test.YtpakphgeichopaaDoorCE
import Derived.Test.YtpakphgeichopaaDoorRows
import Derived.Test.YtpakphgeichopaaDoorCards
import Derived.Test.YtpakphgeichopaaDoorTie
import Derived.SevenTiedAt
import Derived.Lib.SmallJoins
set_option linter.unusedVariables false
set_option linter.unusedSimpArgs false
namespace Go.Proofs.YtpakphgeichopaaDoor
open Go.RowKit Go.SX Go.Proofs
open Go.SX renaming ia_someH → Φa

theorem map_one {α β : Type} {f : α → β} {l : List α} {b : β} (h : l.map f = [b]) : ∃ p, l = [p] ∧ f p = b := by
  match l, h with
  | [p], h => exact ⟨p, rfl, by simpa using h⟩
theorem oneF_by : ∀ i, i < oneF.rows.length → ∀ j, j < (oneF.rows.getD i []).length → 0 ≤ (oneF.rows.getD i []).getD j 0 ∧ (oneF.rows.getD i []).getD j 0 ≤ 255 := by
  intro i hi j hj
  cases i with
  | zero =>
    have : j = 0 := by simp [oneF] at hj; omega
    subst this
    exact ⟨by decide, by decide⟩
  | succ i =>
    exfalso
    have hl : oneF.rows.length = 128 := by rw [oneF]; simp only [List.length_cons, List.length_replicate]
    have h0 : oneF.rows.getD (i + 1) [] = [] := by
      show (List.replicate 127 []).getD i [] = _
      exact rep_getD (by omega)
    rw [h0] at hj
    simp at hj
theorem oneF_cnt : cnt oneF.rows = 1 := by decide +kernel
theorem zSl {Γ : Ctx} {L : Hp} {g : Nat} {Z : List Rc} {n : Nat} (hl : Z.length = n) (hn : n ≤ 9223372036854775807) : SlC (Cell Γ (some (g, .cells (Z.flatMap Rc.cells).toArray 29 (0, 0)) :: L)) (.slice (some ⟨g, 0, none⟩) n n) Z := by
  refine RowL.sl (i := 0) Rc.len (e := 29) (s := some (g, .cells (Z.flatMap Rc.cells).toArray 29 (0, 0))) ?_ rfl
  show Row 29 8 _ Z.length _ _
  rw [hl]
  exact Row.lit (by rw [flat_len Rc.len, hl]) hn
set_option maxHeartbeats 1000000 in
set_option maxRecDepth 100000 in
theorem awake_spec {Γ : Ctx} (hP : Γ.P = Tryd.prog) {L : Hp} (S : SH Γ) :
    SCall Γ 11 #[] L (fun v L' => v = .bool true ∧ L' = L) := by
  refine SCall.enter (n := 72) (res1 0) (hP ▸ Tryd.func11) rfl rfl (by simp) (res1_ok rfl) ?_
  refine SX.seq_k fun K1 hK1 => ?_
  refine SX.region_d [some 0] rfl (fun ops hops => ?_)
  unfold Dsts at hops
  simp (maxSteps:=1000000)(dsimp:=false)(disch:=omega) only [go_sem, Φa, hP, hops]
  refine hK1 _ _ ?_
  try clear hK1 K1
  refine SX.seq_k fun K2 hK2 => ?_
  refine SX.region_d [some 8, some 1] rfl (fun ops hops => ?_)
  unfold Dsts at hops
  simp (maxSteps:=1000000)(dsimp:=false)(disch:=omega) only [go_sem, Φa, hP, hops]
  intro g1
  try with_reducible refine stI ?_
  try simp (maxSteps:=1000000)(dsimp:=false)(disch:=omega) only [go_sem, Φa, hP, hops]
  rw [show zerosV [.int .u8 0, .int .u16 0, .int .u8 0, .bool false, .bool false, .int .u8 0, .bool false, .int .u8 0] 3668 = (List.replicate 3668 (default : Rc)).flatMap Rc.cells from zerosV_flat Rc.cells default 3668]
  try with_reducible refine stI ?_
  try simp (maxSteps:=1000000)(dsimp:=false)(disch:=omega) only [go_sem, Φa, hP, hops]
  refine hK2 _ _ ?_
  try clear hK2 K2
  refine SX.seq_k fun K3 hK3 => ?_
  have hO1 := ofP_one
  have hO2 := ofP_short
  have hZl : (List.replicate 3668 (default : Rc)).length = 3668 := List.length_replicate ..
  rw [show List.replicate 3667 (default : Rc) = (List.replicate 3668 default).take 3667 by rw [List.take_replicate]; rfl] at hO2
  generalize List.replicate 3668 (default : Rc) = Z at hO1 hO2 hZl ⊢
  generalize List.replicate 128 ([] : List Int) = R at hO1
  have hS1 : SlC (Cell Γ (some (g1, .cells (Z.flatMap Rc.cells).toArray 29 (0, 0)) :: L)) (.slice (some ⟨g1, 0, none⟩) 3668 3668) Z := zSl hZl (by decide)
  refine SX.region_d [some 10, some 11, some 12, some 9, some 13, some 14, some 2, some 3] rfl (fun ops hops => ?_)
  unfold Dsts at hops
  simp (maxSteps:=1000000)(dsimp:=false)(disch:=omega) only [go_sem, Φa, hP, hops]
  refine SCall.mono (Of_spec (x := pos 0) (l := Z) hP hS1 (by rw [hZl]; decide) S) ?_
  rintro v_ L_ ⟨vo1, so1, fs1, rfl, rfl, hrow1, hfs1, hmap1⟩
  rw [hO1] at hmap1 ⊢
  obtain ⟨⟨f1, d1⟩, rfl, hp1⟩ := map_one hmap1
  dsimp only at hp1
  subst hp1
  obtain ⟨gA, capA, junkA, rfl, rfl, hcA, _⟩ := RowL.form hrow1 (by simp)
  try with_reducible refine stI ?_
  try simp (maxSteps:=1000000)(dsimp:=false)(disch:=omega) only [go_sem, Φa, hP, hops]
  refine hK3 _ _ ?_
  try clear hK3 K3
  refine SX.live [1, 2, 3] (fun T1 hT1 => ?_)
  simp only [forall_mem_cons', forall_mem_nil', go_sem, Φa, hP] at hT1
  obtain ⟨h1_1, h1_2, h1_3⟩ := hT1
  refine SX.seq_k fun K4 hK4 => ?_
  have hS2 : SlC (Cell Γ (some (gA, .cells ([((⟨0, R, true⟩ : Fm), d1)].flatMap fval ++ junkA).toArray 41 (0, 0)) :: (segs [((⟨0, R, true⟩ : Fm), d1)] ++ (some (g1, .cells (Z.flatMap Rc.cells).toArray 29 (0, 0)) :: L)))) (.slice (some ⟨g1, 0, none⟩) 3667 3668) (Z.take 3667) := Sl.take (SlC.mono (fun a v h => Cell.cons _ (Cell.app _ h)) hS1) (by decide)
  refine SX.region_d [some 16, some 17, some 18, some 19, some 15, some 20, some 21, some 4, some 5] rfl (fun ops hops => ?_)
  unfold Dsts at hops
  simp (maxSteps:=1000000)(dsimp:=false)(disch:=omega) only [go_sem, Φa, hP, h1_1, h1_2, h1_3, hops, cutA0, Nat.sub_zero]
  refine SCall.mono (Of_spec (x := pos 0) (l := Z.take 3667) hP hS2 (by rw [List.length_take, hZl]; decide) S) ?_
  rintro v_ L_ ⟨vo2, so2, fs2, rfl, rfl, hrow2, hfs2, hmap2⟩
  rw [hO2] at hmap2 ⊢
  obtain rfl := List.map_eq_nil_iff.1 hmap2
  obtain ⟨A2, c2, rfl, hc2, _⟩ := Row.form hrow2
  simp only [segs, List.nil_append]
  try with_reducible refine stI ?_
  try simp (maxSteps:=1000000)(dsimp:=false)(disch:=omega) only [go_sem, Φa, hP, h1_1, h1_2, h1_3, hops, cutA0, Nat.sub_zero]
  refine hK4 _ _ ?_
  try clear hK4 K4
  refine SX.live [2, 3, 4, 5] (fun T2 hT2 => ?_)
  simp only [forall_mem_cons', forall_mem_nil', go_sem, Φa, hP, h1_1, h1_2, h1_3] at hT2
  obtain ⟨h2_2, h2_3, h2_4, h2_5⟩ := hT2
  clear h1_1 h1_2 h1_3 T1
  refine SX.seq_k fun K5 hK5 => ?_
  refine SX.region_d [some 23, some 24, some 25, some 22, some 26, some 27, some 6, some 7] rfl (fun ops hops => ?_)
  unfold Dsts at hops
  simp (maxSteps:=1000000)(dsimp:=false)(disch:=omega) only [go_sem, Φa, hP, h2_2, h2_3, h2_4, h2_5, hops]
  intro g4
  try with_reducible refine stI ?_
  try simp (maxSteps:=1000000)(dsimp:=false)(disch:=omega) only [go_sem, Φa, hP, h2_2, h2_3, h2_4, h2_5, hops]
  refine SCall.mono (empty_spec hP) ?_
  rintro v_ L_ ⟨g5, rfl, rfl⟩
  try with_reducible refine stI ?_
  try simp (maxSteps:=1000000)(dsimp:=false)(disch:=omega) only [go_sem, Φa, hP, h2_2, h2_3, h2_4, h2_5, hops]
  refine SCall.mono (Show_spec (f := oneF) hP (oneF_sl (g := g5) (h := g4) (c := 1) (List.mem_cons_self ..) (List.mem_cons_of_mem _ (List.mem_cons_self ..)) (Nat.le_refl _)) (by rw [oneF_cnt]; decide) (by decide +kernel) oneF_by) ?_
  rintro v_ L_ ⟨rfl, rfl⟩
  rw [oneF_show]
  try with_reducible refine stI ?_
  try simp (maxSteps:=1000000)(dsimp:=false)(disch:=omega) only [go_sem, Φa, hP, h2_2, h2_3, h2_4, h2_5, hops]
  refine hK5 _ _ ?_
  try clear hK5 K5
  refine SX.seq_k fun K6 hK6 => ?_
  refine SX.region_xd [some 28, some 29, some 30, some 31, some 32, some 33, some 34, some 35, some 36, some 37, some 38, some 39, some 40, some 41, some 42, some 43, some 44, some 45, some 46, some 47, some 48, some 49, some 50, some 51, some 52, some 53, some 54, some 55, some 56, some 57, some 58, some 59, some 60, some 61, some 62, some 63, some 64, some 65, some 66, some 67, some 68, some 69, some 70, some 71, some 0] rfl (fun ops hops => ?_)
  unfold Dsts at hops
  refine RX.live [2, 3, 4, 5, 6, 7] (fun T3 hT3 => ?_)
  simp only [forall_mem_cons', forall_mem_nil', go_sem, Φa, hP, h2_2, h2_3, h2_4, h2_5] at hT3
  obtain ⟨h3_2, h3_3, h3_4, h3_5, h3_6, h3_7⟩ := hT3
  clear h2_2 h2_3 h2_4 h2_5 T2
  have hs1 := oneF_len
  have hs2 := oneF_head
  refine RX.join 7 (fun (ss : Unit) T L' => T 34 = .bool (true) ∧ T 2 = T3 2 ∧ T 4 = T3 4 ∧ T 5 = T3 5 ∧ T 6 = T3 6 ∧ T 7 = T3 7 ∧ L' = some (g5, .cells ((List.replicate 128 (.slice none 0 0)).set 0 (.slice (some ⟨g4, 0, none⟩) 1 1)).toArray 50 (0, 0)) :: some (g4, .cells [.int .u8 129].toArray 5 (0, 0)) :: so2 :: some (gA, .cells ([((⟨0, R, true⟩ : Fm), d1)].flatMap fval ++ junkA).toArray 41 (0, 0)) :: (segs [((⟨0, R, true⟩ : Fm), d1)] ++ (some (g1, .cells (Z.flatMap Rc.cells).toArray 29 (0, 0)) :: L)) ∧ (True)) (fun K7 hK7 => ?_) ?_
  · simp only [h3_2, h3_4, h3_5, h3_6, h3_7] at hK7
    simp (maxSteps:=1000000)(dsimp:=false)(disch:=omega) only [go_sem, Φa, hP, h3_2, h3_3, h3_4, h3_5, h3_6, h3_7, hops, hs1, hs2]
    repeat' (first | refine iteB (fun hg => ?_) (fun hg => ?_) | refine iteI (fun hg => ?_) (fun hg => ?_) | ((first | refine ⟨_, Cell.at 3 rfl rfl, ?_⟩ | refine And.intro (by omega) ?_ | refine ⟨_, Cell.at 0 rfl rfl, ?_⟩ | refine ⟨_, Cell.at 1 rfl rfl, ?_⟩ | refine ⟨_, Cell.at 2 rfl rfl, ?_⟩ | refine ⟨_, Cell.at 3 rfl rfl, ?_⟩ | refine ⟨_, Cell.at 4 rfl rfl, ?_⟩ | fail); try (with_reducible refine stI ?_); try simp (maxSteps:=1000000)(dsimp:=false)(disch:=omega) only [go_sem, Φa, hP, h3_2, h3_3, h3_4, h3_5, h3_6, h3_7, hops, hs1, hs2]) | fail)
    all_goals
      refine hK7 () _ (some (g5, .cells ((List.replicate 128 (.slice none 0 0)).set 0 (.slice (some ⟨g4, 0, none⟩) 1 1)).toArray 50 (0, 0)) :: some (g4, .cells [.int .u8 129].toArray 5 (0, 0)) :: so2 :: some (gA, .cells ([((⟨0, R, true⟩ : Fm), d1)].flatMap fval ++ junkA).toArray 41 (0, 0)) :: (segs [((⟨0, R, true⟩ : Fm), d1)] ++ (some (g1, .cells (Z.flatMap Rc.cells).toArray 29 (0, 0)) :: L))) _ (by first | exact Less.refl _ | exact Less.drop _ _ | exact Less.drops (Less.drop _ _) | exact Less.drops (Less.drops (Less.drop _ _)) | exact Less.drops (Less.drops (Less.drops (Less.drop _ _))) | exact Less.drops (Less.drops (Less.drops (Less.drops (Less.drop _ _))))) ?_
      try dsimp only
      refine ⟨?_, ?_, ?_, ?_, ?_, ?_, ?_, ?_⟩
      · simp (maxSteps:=1000000)(dsimp:=false)(disch:=omega) only [go_sem, Φa, hP, h3_2, h3_3, h3_4, h3_5, h3_6, h3_7]
        first | done | rfl
      · simp (maxSteps:=1000000)(dsimp:=false)(disch:=omega) only [go_sem, Φa, hP, h3_2, h3_3, h3_4, h3_5, h3_6, h3_7]
      · simp (maxSteps:=1000000)(dsimp:=false)(disch:=omega) only [go_sem, Φa, hP, h3_2, h3_3, h3_4, h3_5, h3_6, h3_7]
      · simp (maxSteps:=1000000)(dsimp:=false)(disch:=omega) only [go_sem, Φa, hP, h3_2, h3_3, h3_4, h3_5, h3_6, h3_7]
      · simp (maxSteps:=1000000)(dsimp:=false)(disch:=omega) only [go_sem, Φa, hP, h3_2, h3_3, h3_4, h3_5, h3_6, h3_7]
      · simp (maxSteps:=1000000)(dsimp:=false)(disch:=omega) only [go_sem, Φa, hP, h3_2, h3_3, h3_4, h3_5, h3_6, h3_7]
      · rfl
      · trivial
  · intro ss T4 L4 hI
    simp only [h3_2, h3_4, h3_5, h3_6, h3_7] at hI 
    obtain ⟨h4_34, h4_2, h4_4, h4_5, h4_6, h4_7, hL4, hinv⟩ := hI
    replace hL4 := hL4.symm
    subst hL4
    clear h3_2 h3_3 h3_4 h3_5 h3_6 h3_7 T3
    refine RX.live [2, 4, 5, 6, 7, 34] (fun T5 hT5 => ?_)
    simp only [forall_mem_cons', forall_mem_nil', go_sem, Φa, hP, h4_34, h4_2, h4_4, h4_5, h4_6, h4_7] at hT5
    obtain ⟨h5_2, h5_4, h5_5, h5_6, h5_7, h5_34⟩ := hT5
    clear h4_34 h4_2 h4_4 h4_5 h4_6 h4_7 T4
    refine RX.join 6 (fun (ss : Unit) T L' => T 40 = .bool (true) ∧ T 2 = T5 2 ∧ T 4 = T5 4 ∧ T 5 = T5 5 ∧ T 6 = T5 6 ∧ T 7 = T5 7 ∧ L' = some (g5, .cells ((List.replicate 128 (.slice none 0 0)).set 0 (.slice (some ⟨g4, 0, none⟩) 1 1)).toArray 50 (0, 0)) :: some (g4, .cells [.int .u8 129].toArray 5 (0, 0)) :: so2 :: some (gA, .cells ([((⟨0, R, true⟩ : Fm), d1)].flatMap fval ++ junkA).toArray 41 (0, 0)) :: (segs [((⟨0, R, true⟩ : Fm), d1)] ++ (some (g1, .cells (Z.flatMap Rc.cells).toArray 29 (0, 0)) :: L)) ∧ (True)) (fun K8 hK8 => ?_) ?_
    · simp only [h5_2, h5_4, h5_5, h5_6, h5_7] at hK8
      simp (maxSteps:=1000000)(dsimp:=false)(disch:=omega) only [go_sem, Φa, hP, h5_2, h5_4, h5_5, h5_6, h5_7, h5_34, hops, hs1, hs2]
      repeat' (first | refine iteB (fun hg => ?_) (fun hg => ?_) | refine iteI (fun hg => ?_) (fun hg => ?_) | ((first | refine ⟨_, Cell.at 3 rfl rfl, ?_⟩ | refine And.intro (by omega) ?_ | refine ⟨_, Cell.at 0 rfl rfl, ?_⟩ | refine ⟨_, Cell.at 1 rfl rfl, ?_⟩ | refine ⟨_, Cell.at 2 rfl rfl, ?_⟩ | refine ⟨_, Cell.at 3 rfl rfl, ?_⟩ | refine ⟨_, Cell.at 4 rfl rfl, ?_⟩ | fail); try (with_reducible refine stI ?_); try simp (maxSteps:=1000000)(dsimp:=false)(disch:=omega) only [go_sem, Φa, hP, h5_2, h5_4, h5_5, h5_6, h5_7, h5_34, hops, hs1, hs2]) | fail)
      all_goals
        refine hK8 () _ (some (g5, .cells ((List.replicate 128 (.slice none 0 0)).set 0 (.slice (some ⟨g4, 0, none⟩) 1 1)).toArray 50 (0, 0)) :: some (g4, .cells [.int .u8 129].toArray 5 (0, 0)) :: so2 :: some (gA, .cells ([((⟨0, R, true⟩ : Fm), d1)].flatMap fval ++ junkA).toArray 41 (0, 0)) :: (segs [((⟨0, R, true⟩ : Fm), d1)] ++ (some (g1, .cells (Z.flatMap Rc.cells).toArray 29 (0, 0)) :: L))) _ (by first | exact Less.refl _ | exact Less.drop _ _ | exact Less.drops (Less.drop _ _) | exact Less.drops (Less.drops (Less.drop _ _)) | exact Less.drops (Less.drops (Less.drops (Less.drop _ _))) | exact Less.drops (Less.drops (Less.drops (Less.drops (Less.drop _ _))))) ?_
        try dsimp only
        refine ⟨?_, ?_, ?_, ?_, ?_, ?_, ?_, ?_⟩
        · simp (maxSteps:=1000000)(dsimp:=false)(disch:=omega) only [go_sem, Φa, hP, h5_2, h5_4, h5_5, h5_6, h5_7, h5_34]
          first | done | rfl
        · simp (maxSteps:=1000000)(dsimp:=false)(disch:=omega) only [go_sem, Φa, hP, h5_2, h5_4, h5_5, h5_6, h5_7, h5_34]
        · simp (maxSteps:=1000000)(dsimp:=false)(disch:=omega) only [go_sem, Φa, hP, h5_2, h5_4, h5_5, h5_6, h5_7, h5_34]
        · simp (maxSteps:=1000000)(dsimp:=false)(disch:=omega) only [go_sem, Φa, hP, h5_2, h5_4, h5_5, h5_6, h5_7, h5_34]
        · simp (maxSteps:=1000000)(dsimp:=false)(disch:=omega) only [go_sem, Φa, hP, h5_2, h5_4, h5_5, h5_6, h5_7, h5_34]
        · simp (maxSteps:=1000000)(dsimp:=false)(disch:=omega) only [go_sem, Φa, hP, h5_2, h5_4, h5_5, h5_6, h5_7, h5_34]
        · rfl
        · trivial
    · intro ss T6 L6 hI
      simp only [h5_2, h5_4, h5_5, h5_6, h5_7] at hI 
      obtain ⟨h6_40, h6_2, h6_4, h6_5, h6_6, h6_7, hL6, hinv⟩ := hI
      replace hL6 := hL6.symm
      subst hL6
      clear h5_2 h5_4 h5_5 h5_6 h5_7 h5_34 T5
      refine RX.live [2, 4, 5, 6, 7, 40] (fun T7 hT7 => ?_)
      simp only [forall_mem_cons', forall_mem_nil', go_sem, Φa, hP, h6_40, h6_2, h6_4, h6_5, h6_6, h6_7] at hT7
      obtain ⟨h7_2, h7_4, h7_5, h7_6, h7_7, h7_40⟩ := hT7
      clear h6_40 h6_2 h6_4 h6_5 h6_6 h6_7 T6
      refine RX.join 8 (fun (ss : Unit) T L' => T 48 = .bool (true) ∧ T 4 = T7 4 ∧ T 5 = T7 5 ∧ T 6 = T7 6 ∧ T 7 = T7 7 ∧ L' = some (g5, .cells ((List.replicate 128 (.slice none 0 0)).set 0 (.slice (some ⟨g4, 0, none⟩) 1 1)).toArray 50 (0, 0)) :: some (g4, .cells [.int .u8 129].toArray 5 (0, 0)) :: so2 :: some (gA, .cells ([((⟨0, R, true⟩ : Fm), d1)].flatMap fval ++ junkA).toArray 41 (0, 0)) :: (segs [((⟨0, R, true⟩ : Fm), d1)] ++ (some (g1, .cells (Z.flatMap Rc.cells).toArray 29 (0, 0)) :: L)) ∧ (True)) (fun K9 hK9 => ?_) ?_
      · simp only [h7_4, h7_5, h7_6, h7_7] at hK9
        simp (maxSteps:=1000000)(dsimp:=false)(disch:=omega) only [go_sem, Φa, hP, h7_2, h7_4, h7_5, h7_6, h7_7, h7_40, hops, hs1, hs2]
        repeat' (first | refine iteB (fun hg => ?_) (fun hg => ?_) | refine iteI (fun hg => ?_) (fun hg => ?_) | ((first | refine ⟨_, Cell.at 3 rfl rfl, ?_⟩ | refine And.intro (by omega) ?_ | refine ⟨_, Cell.at 0 rfl rfl, ?_⟩ | refine ⟨_, Cell.at 1 rfl rfl, ?_⟩ | refine ⟨_, Cell.at 2 rfl rfl, ?_⟩ | refine ⟨_, Cell.at 3 rfl rfl, ?_⟩ | refine ⟨_, Cell.at 4 rfl rfl, ?_⟩ | fail); try (with_reducible refine stI ?_); try simp (maxSteps:=1000000)(dsimp:=false)(disch:=omega) only [go_sem, Φa, hP, h7_2, h7_4, h7_5, h7_6, h7_7, h7_40, hops, hs1, hs2]) | fail)
        all_goals
          refine hK9 () _ (some (g5, .cells ((List.replicate 128 (.slice none 0 0)).set 0 (.slice (some ⟨g4, 0, none⟩) 1 1)).toArray 50 (0, 0)) :: some (g4, .cells [.int .u8 129].toArray 5 (0, 0)) :: so2 :: some (gA, .cells ([((⟨0, R, true⟩ : Fm), d1)].flatMap fval ++ junkA).toArray 41 (0, 0)) :: (segs [((⟨0, R, true⟩ : Fm), d1)] ++ (some (g1, .cells (Z.flatMap Rc.cells).toArray 29 (0, 0)) :: L))) _ (by first | exact Less.refl _ | exact Less.drop _ _ | exact Less.drops (Less.drop _ _) | exact Less.drops (Less.drops (Less.drop _ _)) | exact Less.drops (Less.drops (Less.drops (Less.drop _ _))) | exact Less.drops (Less.drops (Less.drops (Less.drops (Less.drop _ _))))) ?_
          try dsimp only
          refine ⟨?_, ?_, ?_, ?_, ?_, ?_, ?_⟩
          · simp (maxSteps:=1000000)(dsimp:=false)(disch:=omega) only [go_sem, Φa, hP, h7_2, h7_4, h7_5, h7_6, h7_7, h7_40]
            first | done | rfl
          · simp (maxSteps:=1000000)(dsimp:=false)(disch:=omega) only [go_sem, Φa, hP, h7_2, h7_4, h7_5, h7_6, h7_7, h7_40]
          · simp (maxSteps:=1000000)(dsimp:=false)(disch:=omega) only [go_sem, Φa, hP, h7_2, h7_4, h7_5, h7_6, h7_7, h7_40]
          · simp (maxSteps:=1000000)(dsimp:=false)(disch:=omega) only [go_sem, Φa, hP, h7_2, h7_4, h7_5, h7_6, h7_7, h7_40]
          · simp (maxSteps:=1000000)(dsimp:=false)(disch:=omega) only [go_sem, Φa, hP, h7_2, h7_4, h7_5, h7_6, h7_7, h7_40]
          · rfl
          · trivial
      · intro ss T8 L8 hI
        simp only [h7_4, h7_5, h7_6, h7_7] at hI 
        obtain ⟨h8_48, h8_4, h8_5, h8_6, h8_7, hL8, hinv⟩ := hI
        replace hL8 := hL8.symm
        subst hL8
        clear h7_2 h7_4 h7_5 h7_6 h7_7 h7_40 T7
        refine RX.live [4, 5, 6, 7, 48] (fun T9 hT9 => ?_)
        simp only [forall_mem_cons', forall_mem_nil', go_sem, Φa, hP, h8_48, h8_4, h8_5, h8_6, h8_7] at hT9
        obtain ⟨h9_4, h9_5, h9_6, h9_7, h9_48⟩ := hT9
        clear h8_48 h8_4 h8_5 h8_6 h8_7 T8
        refine RX.join 4 (fun (ss : Unit) T L' => T 52 = .bool (true) ∧ T 4 = T9 4 ∧ T 6 = T9 6 ∧ T 7 = T9 7 ∧ L' = some (g5, .cells ((List.replicate 128 (.slice none 0 0)).set 0 (.slice (some ⟨g4, 0, none⟩) 1 1)).toArray 50 (0, 0)) :: some (g4, .cells [.int .u8 129].toArray 5 (0, 0)) :: so2 :: some (gA, .cells ([((⟨0, R, true⟩ : Fm), d1)].flatMap fval ++ junkA).toArray 41 (0, 0)) :: (segs [((⟨0, R, true⟩ : Fm), d1)] ++ (some (g1, .cells (Z.flatMap Rc.cells).toArray 29 (0, 0)) :: L)) ∧ (True)) (fun K10 hK10 => ?_) ?_
        · simp only [h9_4, h9_6, h9_7] at hK10
          simp (maxSteps:=1000000)(dsimp:=false)(disch:=omega) only [go_sem, Φa, hP, h9_4, h9_5, h9_6, h9_7, h9_48, hops, hs1, hs2]
          repeat' (first | refine iteB (fun hg => ?_) (fun hg => ?_) | refine iteI (fun hg => ?_) (fun hg => ?_) | ((first | refine ⟨_, Cell.at 3 rfl rfl, ?_⟩ | refine And.intro (by omega) ?_ | refine ⟨_, Cell.at 0 rfl rfl, ?_⟩ | refine ⟨_, Cell.at 1 rfl rfl, ?_⟩ | refine ⟨_, Cell.at 2 rfl rfl, ?_⟩ | refine ⟨_, Cell.at 3 rfl rfl, ?_⟩ | refine ⟨_, Cell.at 4 rfl rfl, ?_⟩ | fail); try (with_reducible refine stI ?_); try simp (maxSteps:=1000000)(dsimp:=false)(disch:=omega) only [go_sem, Φa, hP, h9_4, h9_5, h9_6, h9_7, h9_48, hops, hs1, hs2]) | fail)
          all_goals
            refine hK10 () _ (some (g5, .cells ((List.replicate 128 (.slice none 0 0)).set 0 (.slice (some ⟨g4, 0, none⟩) 1 1)).toArray 50 (0, 0)) :: some (g4, .cells [.int .u8 129].toArray 5 (0, 0)) :: so2 :: some (gA, .cells ([((⟨0, R, true⟩ : Fm), d1)].flatMap fval ++ junkA).toArray 41 (0, 0)) :: (segs [((⟨0, R, true⟩ : Fm), d1)] ++ (some (g1, .cells (Z.flatMap Rc.cells).toArray 29 (0, 0)) :: L))) _ (by first | exact Less.refl _ | exact Less.drop _ _ | exact Less.drops (Less.drop _ _) | exact Less.drops (Less.drops (Less.drop _ _)) | exact Less.drops (Less.drops (Less.drops (Less.drop _ _))) | exact Less.drops (Less.drops (Less.drops (Less.drops (Less.drop _ _))))) ?_
            try dsimp only
            refine ⟨?_, ?_, ?_, ?_, ?_, ?_⟩
            · simp (maxSteps:=1000000)(dsimp:=false)(disch:=omega) only [go_sem, Φa, hP, h9_4, h9_5, h9_6, h9_7, h9_48]
              first | done | rfl
            · simp (maxSteps:=1000000)(dsimp:=false)(disch:=omega) only [go_sem, Φa, hP, h9_4, h9_5, h9_6, h9_7, h9_48]
            · simp (maxSteps:=1000000)(dsimp:=false)(disch:=omega) only [go_sem, Φa, hP, h9_4, h9_5, h9_6, h9_7, h9_48]
            · simp (maxSteps:=1000000)(dsimp:=false)(disch:=omega) only [go_sem, Φa, hP, h9_4, h9_5, h9_6, h9_7, h9_48]
            · rfl
            · trivial
        · intro ss T10 L10 hI
          simp only [h9_4, h9_6, h9_7] at hI 
          obtain ⟨h10_52, h10_4, h10_6, h10_7, hL10, hinv⟩ := hI
          replace hL10 := hL10.symm
          subst hL10
          clear h9_4 h9_5 h9_6 h9_7 h9_48 T9
          refine RX.live [4, 6, 7, 52] (fun T11 hT11 => ?_)
          simp only [forall_mem_cons', forall_mem_nil', go_sem, Φa, hP, h10_52, h10_4, h10_6, h10_7] at hT11
          obtain ⟨h11_4, h11_6, h11_7, h11_52⟩ := hT11
          clear h10_52 h10_4 h10_6 h10_7 T10
          refine RX.join 5 (fun (ss : Unit) T L' => T 57 = .bool (true) ∧ T 6 = T11 6 ∧ T 7 = T11 7 ∧ L' = some (g5, .cells ((List.replicate 128 (.slice none 0 0)).set 0 (.slice (some ⟨g4, 0, none⟩) 1 1)).toArray 50 (0, 0)) :: some (g4, .cells [.int .u8 129].toArray 5 (0, 0)) :: so2 :: some (gA, .cells ([((⟨0, R, true⟩ : Fm), d1)].flatMap fval ++ junkA).toArray 41 (0, 0)) :: (segs [((⟨0, R, true⟩ : Fm), d1)] ++ (some (g1, .cells (Z.flatMap Rc.cells).toArray 29 (0, 0)) :: L)) ∧ (True)) (fun K11 hK11 => ?_) ?_
          · simp only [h11_6, h11_7] at hK11
            simp (maxSteps:=1000000)(dsimp:=false)(disch:=omega) only [go_sem, Φa, hP, h11_4, h11_6, h11_7, h11_52, hops, hs1, hs2]
            repeat' (first | refine iteB (fun hg => ?_) (fun hg => ?_) | refine iteI (fun hg => ?_) (fun hg => ?_) | ((first | refine ⟨_, Cell.at 3 rfl rfl, ?_⟩ | refine And.intro (by omega) ?_ | refine ⟨_, Cell.at 0 rfl rfl, ?_⟩ | refine ⟨_, Cell.at 1 rfl rfl, ?_⟩ | refine ⟨_, Cell.at 2 rfl rfl, ?_⟩ | refine ⟨_, Cell.at 3 rfl rfl, ?_⟩ | refine ⟨_, Cell.at 4 rfl rfl, ?_⟩ | fail); try (with_reducible refine stI ?_); try simp (maxSteps:=1000000)(dsimp:=false)(disch:=omega) only [go_sem, Φa, hP, h11_4, h11_6, h11_7, h11_52, hops, hs1, hs2]) | fail)
            all_goals
              refine hK11 () _ (some (g5, .cells ((List.replicate 128 (.slice none 0 0)).set 0 (.slice (some ⟨g4, 0, none⟩) 1 1)).toArray 50 (0, 0)) :: some (g4, .cells [.int .u8 129].toArray 5 (0, 0)) :: so2 :: some (gA, .cells ([((⟨0, R, true⟩ : Fm), d1)].flatMap fval ++ junkA).toArray 41 (0, 0)) :: (segs [((⟨0, R, true⟩ : Fm), d1)] ++ (some (g1, .cells (Z.flatMap Rc.cells).toArray 29 (0, 0)) :: L))) _ (by first | exact Less.refl _ | exact Less.drop _ _ | exact Less.drops (Less.drop _ _) | exact Less.drops (Less.drops (Less.drop _ _)) | exact Less.drops (Less.drops (Less.drops (Less.drop _ _))) | exact Less.drops (Less.drops (Less.drops (Less.drops (Less.drop _ _))))) ?_
              try dsimp only
              refine ⟨?_, ?_, ?_, ?_, ?_⟩
              · simp (maxSteps:=1000000)(dsimp:=false)(disch:=omega) only [go_sem, Φa, hP, h11_4, h11_6, h11_7, h11_52]
                first | done | rfl
              · simp (maxSteps:=1000000)(dsimp:=false)(disch:=omega) only [go_sem, Φa, hP, h11_4, h11_6, h11_7, h11_52]
              · simp (maxSteps:=1000000)(dsimp:=false)(disch:=omega) only [go_sem, Φa, hP, h11_4, h11_6, h11_7, h11_52]
              · rfl
              · trivial
          · intro ss T12 L12 hI
            simp only [h11_6, h11_7] at hI 
            obtain ⟨h12_57, h12_6, h12_7, hL12, hinv⟩ := hI
            replace hL12 := hL12.symm
            subst hL12
            clear h11_4 h11_6 h11_7 h11_52 T11
            refine RX.live [6, 7, 57] (fun T13 hT13 => ?_)
            simp only [forall_mem_cons', forall_mem_nil', go_sem, Φa, hP, h12_57, h12_6, h12_7] at hT13
            obtain ⟨h13_6, h13_7, h13_57⟩ := hT13
            clear h12_57 h12_6 h12_7 T12
            refine RX.join 4 (fun (ss : Unit) T L' => T 61 = .bool (true) ∧ T 6 = T13 6 ∧ L' = some (g5, .cells ((List.replicate 128 (.slice none 0 0)).set 0 (.slice (some ⟨g4, 0, none⟩) 1 1)).toArray 50 (0, 0)) :: some (g4, .cells [.int .u8 129].toArray 5 (0, 0)) :: so2 :: some (gA, .cells ([((⟨0, R, true⟩ : Fm), d1)].flatMap fval ++ junkA).toArray 41 (0, 0)) :: (segs [((⟨0, R, true⟩ : Fm), d1)] ++ (some (g1, .cells (Z.flatMap Rc.cells).toArray 29 (0, 0)) :: L)) ∧ (True)) (fun K12 hK12 => ?_) ?_
            · simp only [h13_6] at hK12
              simp (maxSteps:=1000000)(dsimp:=false)(disch:=omega) only [go_sem, Φa, hP, h13_6, h13_7, h13_57, hops, hs1, hs2]
              repeat' (first | refine iteB (fun hg => ?_) (fun hg => ?_) | refine iteI (fun hg => ?_) (fun hg => ?_) | ((first | refine ⟨_, Cell.at 3 rfl rfl, ?_⟩ | refine And.intro (by omega) ?_ | refine ⟨_, Cell.at 0 rfl rfl, ?_⟩ | refine ⟨_, Cell.at 1 rfl rfl, ?_⟩ | refine ⟨_, Cell.at 2 rfl rfl, ?_⟩ | refine ⟨_, Cell.at 3 rfl rfl, ?_⟩ | refine ⟨_, Cell.at 4 rfl rfl, ?_⟩ | fail); try (with_reducible refine stI ?_); try simp (maxSteps:=1000000)(dsimp:=false)(disch:=omega) only [go_sem, Φa, hP, h13_6, h13_7, h13_57, hops, hs1, hs2]) | fail)
              all_goals
                refine hK12 () _ (some (g5, .cells ((List.replicate 128 (.slice none 0 0)).set 0 (.slice (some ⟨g4, 0, none⟩) 1 1)).toArray 50 (0, 0)) :: some (g4, .cells [.int .u8 129].toArray 5 (0, 0)) :: so2 :: some (gA, .cells ([((⟨0, R, true⟩ : Fm), d1)].flatMap fval ++ junkA).toArray 41 (0, 0)) :: (segs [((⟨0, R, true⟩ : Fm), d1)] ++ (some (g1, .cells (Z.flatMap Rc.cells).toArray 29 (0, 0)) :: L))) _ (by first | exact Less.refl _ | exact Less.drop _ _ | exact Less.drops (Less.drop _ _) | exact Less.drops (Less.drops (Less.drop _ _)) | exact Less.drops (Less.drops (Less.drops (Less.drop _ _))) | exact Less.drops (Less.drops (Less.drops (Less.drops (Less.drop _ _))))) ?_
                try dsimp only
                refine ⟨?_, ?_, ?_, ?_⟩
                · simp (maxSteps:=1000000)(dsimp:=false)(disch:=omega) only [go_sem, Φa, hP, h13_6, h13_7, h13_57]
                  first | done | rfl
                · simp (maxSteps:=1000000)(dsimp:=false)(disch:=omega) only [go_sem, Φa, hP, h13_6, h13_7, h13_57]
                · rfl
                · trivial
            · intro ss T14 L14 hI
              simp only [h13_6] at hI 
              obtain ⟨h14_61, h14_6, hL14, hinv⟩ := hI
              replace hL14 := hL14.symm
              subst hL14
              clear h13_6 h13_7 h13_57 T13
              refine RX.live [6, 61] (fun T15 hT15 => ?_)
              simp only [forall_mem_cons', forall_mem_nil', go_sem, Φa, hP, h14_61, h14_6] at hT15
              obtain ⟨h15_6, h15_61⟩ := hT15
              clear h14_61 h14_6 T14
              refine RX.join 5 (fun (ss : Unit) T L' => T 66 = .bool (true) ∧ T 6 = T15 6 ∧ L' = some (g5, .cells ((List.replicate 128 (.slice none 0 0)).set 0 (.slice (some ⟨g4, 0, none⟩) 1 1)).toArray 50 (0, 0)) :: some (g4, .cells [.int .u8 129].toArray 5 (0, 0)) :: so2 :: some (gA, .cells ([((⟨0, R, true⟩ : Fm), d1)].flatMap fval ++ junkA).toArray 41 (0, 0)) :: (segs [((⟨0, R, true⟩ : Fm), d1)] ++ (some (g1, .cells (Z.flatMap Rc.cells).toArray 29 (0, 0)) :: L)) ∧ (True)) (fun K13 hK13 => ?_) ?_
              · simp only [h15_6] at hK13
                simp (maxSteps:=1000000)(dsimp:=false)(disch:=omega) only [go_sem, Φa, hP, h15_6, h15_61, hops, hs1, hs2]
                repeat' (first | refine iteB (fun hg => ?_) (fun hg => ?_) | refine iteI (fun hg => ?_) (fun hg => ?_) | ((first | refine ⟨_, Cell.at 3 rfl rfl, ?_⟩ | refine And.intro (by omega) ?_ | refine ⟨_, Cell.at 0 rfl rfl, ?_⟩ | refine ⟨_, Cell.at 1 rfl rfl, ?_⟩ | refine ⟨_, Cell.at 2 rfl rfl, ?_⟩ | refine ⟨_, Cell.at 3 rfl rfl, ?_⟩ | refine ⟨_, Cell.at 4 rfl rfl, ?_⟩ | fail); try (with_reducible refine stI ?_); try simp (maxSteps:=1000000)(dsimp:=false)(disch:=omega) only [go_sem, Φa, hP, h15_6, h15_61, hops, hs1, hs2]) | fail)
                all_goals
                  refine hK13 () _ (some (g5, .cells ((List.replicate 128 (.slice none 0 0)).set 0 (.slice (some ⟨g4, 0, none⟩) 1 1)).toArray 50 (0, 0)) :: some (g4, .cells [.int .u8 129].toArray 5 (0, 0)) :: so2 :: some (gA, .cells ([((⟨0, R, true⟩ : Fm), d1)].flatMap fval ++ junkA).toArray 41 (0, 0)) :: (segs [((⟨0, R, true⟩ : Fm), d1)] ++ (some (g1, .cells (Z.flatMap Rc.cells).toArray 29 (0, 0)) :: L))) _ (by first | exact Less.refl _ | exact Less.drop _ _ | exact Less.drops (Less.drop _ _) | exact Less.drops (Less.drops (Less.drop _ _)) | exact Less.drops (Less.drops (Less.drops (Less.drop _ _))) | exact Less.drops (Less.drops (Less.drops (Less.drops (Less.drop _ _))))) ?_
                  try dsimp only
                  refine ⟨?_, ?_, ?_, ?_⟩
                  · simp (maxSteps:=1000000)(dsimp:=false)(disch:=omega) only [go_sem, Φa, hP, h15_6, h15_61]
                    first | done | rfl
                  · simp (maxSteps:=1000000)(dsimp:=false)(disch:=omega) only [go_sem, Φa, hP, h15_6, h15_61]
                  · rfl
                  · trivial
              · intro ss T16 L16 hI
                simp only [h15_6] at hI 
                obtain ⟨h16_66, h16_6, hL16, hinv⟩ := hI
                replace hL16 := hL16.symm
                subst hL16
                clear h15_6 h15_61 T15
                refine RX.live [6, 66] (fun T17 hT17 => ?_)
                simp only [forall_mem_cons', forall_mem_nil', go_sem, Φa, hP, h16_66, h16_6] at hT17
                obtain ⟨h17_6, h17_66⟩ := hT17
                clear h16_66 h16_6 T16
                refine RX.join 5 (fun (ss : Unit) T L' => T 71 = .bool (true) ∧ L' = some (g5, .cells ((List.replicate 128 (.slice none 0 0)).set 0 (.slice (some ⟨g4, 0, none⟩) 1 1)).toArray 50 (0, 0)) :: some (g4, .cells [.int .u8 129].toArray 5 (0, 0)) :: so2 :: some (gA, .cells ([((⟨0, R, true⟩ : Fm), d1)].flatMap fval ++ junkA).toArray 41 (0, 0)) :: (segs [((⟨0, R, true⟩ : Fm), d1)] ++ (some (g1, .cells (Z.flatMap Rc.cells).toArray 29 (0, 0)) :: L)) ∧ (True)) (fun K14 hK14 => ?_) ?_
                · simp (maxSteps:=1000000)(dsimp:=false)(disch:=omega) only [go_sem, Φa, hP, h17_6, h17_66, hops, hs1, hs2]
                  repeat' (first | refine iteB (fun hg => ?_) (fun hg => ?_) | refine iteI (fun hg => ?_) (fun hg => ?_) | ((first | refine ⟨_, Cell.at 3 rfl rfl, ?_⟩ | refine And.intro (by omega) ?_ | refine ⟨_, Cell.at 0 rfl rfl, ?_⟩ | refine ⟨_, Cell.at 1 rfl rfl, ?_⟩ | refine ⟨_, Cell.at 2 rfl rfl, ?_⟩ | refine ⟨_, Cell.at 3 rfl rfl, ?_⟩ | refine ⟨_, Cell.at 4 rfl rfl, ?_⟩ | fail); try (with_reducible refine stI ?_); try simp (maxSteps:=1000000)(dsimp:=false)(disch:=omega) only [go_sem, Φa, hP, h17_6, h17_66, hops, hs1, hs2]) | fail)
                  all_goals
                    refine hK14 () _ (some (g5, .cells ((List.replicate 128 (.slice none 0 0)).set 0 (.slice (some ⟨g4, 0, none⟩) 1 1)).toArray 50 (0, 0)) :: some (g4, .cells [.int .u8 129].toArray 5 (0, 0)) :: so2 :: some (gA, .cells ([((⟨0, R, true⟩ : Fm), d1)].flatMap fval ++ junkA).toArray 41 (0, 0)) :: (segs [((⟨0, R, true⟩ : Fm), d1)] ++ (some (g1, .cells (Z.flatMap Rc.cells).toArray 29 (0, 0)) :: L))) _ (by first | exact Less.refl _ | exact Less.drop _ _ | exact Less.drops (Less.drop _ _) | exact Less.drops (Less.drops (Less.drop _ _)) | exact Less.drops (Less.drops (Less.drops (Less.drop _ _))) | exact Less.drops (Less.drops (Less.drops (Less.drops (Less.drop _ _))))) ?_
                    try dsimp only
                    refine ⟨?_, ?_, ?_⟩
                    · simp (maxSteps:=1000000)(dsimp:=false)(disch:=omega) only [go_sem, Φa, hP, h17_6, h17_66]
                      first | done | rfl
                    · rfl
                    · trivial
                · intro ss T18 L18 hI
                  obtain ⟨h18_71, hL18, hinv⟩ := hI
                  replace hL18 := hL18.symm
                  subst hL18
                  clear h17_6 h17_66 T17
                  refine RX.done ?_
                  simp (maxSteps:=1000000)(dsimp:=false)(disch:=omega) only [go_sem, Φa, hP, h18_71, hops]
                  refine hK6 _ _ ?_
                  try clear hK6 K6
                  refine SX.ret ?_
                  simp only [andThen_normal, andThen_ret, andThen_exit, inBlk_normal, inBlk_ret, inBlk_exit, Nat.reduceEqDiff, if_true, if_false, ↓reduceIte, retQ_ret]
                  try simp only [res0, res1, res2, res3, stK_e, go_sem, Φa, hP, h18_71]
                  exact ⟨_, _, Less.drops (Less.drops (Less.drops (Less.drops (Less.sublist ((List.sublist_cons_self _ _).trans (List.sublist_append_right _ _)))))), rfl, rfl, rfl⟩

end Go.Proofs.YtpakphgeichopaaDoor
set_option linter.unusedVariables false
set_option linter.unusedSimpArgs false
namespace Go.Proofs.YtpakphgeichopaaDoor
open Go.RowKit Go.SX Go.Proofs
open Go.SX renaming ia_someH → Φa

theorem subl_end {a b : Slot} {S1 S2 R : Hp} {c : Slot} : List.Sublist R (S1 ++ (a :: (S2 ++ (b :: c :: R)))) :=
  (((List.Sublist.refl R).cons c).cons b |>.trans (List.sublist_append_right S2 _) |>.cons a).trans (List.sublist_append_right S1 _)
theorem i64_and_le (a : Int) (m : Nat) (hm : m < 4611686018427387904) : ∃ n : Nat, bits .and .i64 a (m : Int) = (n : Int) ∧ n ≤ m := by
  have h : ((BitVec.ofInt 64 a) &&& (BitVec.ofInt 64 (m : Int))).toNat ≤ m := by
    rw [BitVec.toNat_and, BitVec.ofInt_natCast, BitVec.toNat_ofNat, Nat.mod_eq_of_lt (by omega)]
    exact Nat.and_le_right
  refine ⟨_, ?_, h⟩
  show IntKind.i64.wrap (((BitVec.ofInt 64 a) &&& (BitVec.ofInt 64 (m : Int))).toNat : Int) = _
  exact w64 (by omega)
def cyc (l : List Rc) (n : Nat) : List Rc := (List.range n).map fun j => l.getD (j % l.length) default
theorem cyc_succ (l : List Rc) (n : Nat) : cyc l (n + 1) = cyc l n ++ [l.getD (n % l.length) default] := by
  unfold cyc
  rw [List.range_succ, List.map_append]
  rfl
theorem cyc_len (l : List Rc) (n : Nat) : (cyc l n).length = n := by unfold cyc; rw [List.length_map, List.length_range]
theorem tmod_nat (a b : Nat) : ((a : Int)).tmod (b : Int) = ((a % b : Nat) : Int) := by
  rw [Int.tmod_eq_emod_of_nonneg (Int.natCast_nonneg _), Int.natCast_emod]
theorem RowF.slM {Γ : Ctx} {L : Hp} {v : Value} {fs : List Ff} {s : Slot} {l : List Fm} (h : RowF v fs s) (hok : FsOk fs) (hl : fs.map (·.1) = l) (hL : s ∈ L) (hm : ∀ s, s ∈ segs fs → s ∈ L) : SlF (Cell Γ L) v l := by
  obtain ⟨i, hi⟩ := List.mem_iff_getElem?.1 hL
  rw [← hl]
  exact RowF.sl h hok hi hm
theorem ofP_bnd (x : Ras) (l : List Rc) : (ofP x l).1.length ≤ 4194304 ∧ ∀ f ∈ (ofP x l).1, cnt f.rows ≤ 4194304 ∧ f.rows.length = 128 := by
  unfold ofP
  split
  · exact ⟨Nat.zero_le _, fun f hf => by cases hf⟩
  · split
    · rename_i h
      have hl := (chkL_zero h).1
      have h1 := stAt_out x l l.length
      have h2 := (stAt_cnt x l l.length).2
      exact ⟨by dsimp only; omega, fun f hf => by have := h2 f hf; omega⟩
    · exact ⟨Nat.zero_le _, fun f hf => by cases hf⟩
theorem ofP_bnd' (x : Ras) (l : List Rc) : (ofP x l).1.length ≤ 9000000000000000000 ∧ ∀ f ∈ (ofP x l).1, cnt f.rows ≤ 9000000000000000000 ∧ f.rows.length ≤ 9000000000000000000 := by
  obtain ⟨h1, h2⟩ := ofP_bnd x l
  exact ⟨by omega, fun f hf => by have := h2 f hf; omega⟩
theorem vast_no {f : Fm} (h : vastF f = false) : cnt f.rows ≤ 2147483647 ∧ f.rows.length ≤ 2147483647 := by
  unfold vastF at h
  rw [decide_eq_false_iff_not] at h
  omega
set_option maxHeartbeats 1000000 in
set_option maxRecDepth 100000 in
theorem FrameNames_spec {Γ : Ctx} (hP : Γ.P = Tryd.prog) {L : Hp} (S : SH Γ) :
    SCall Γ 3 #[] L (fun v L' => v = .bool true ∧ L' = L) := by
  refine SCall.enter (n := 4) (res1 0) (hP ▸ Tryd.func3) rfl rfl (by simp) (res1_ok rfl) ?_
  refine SX.seq_k fun K1 hK1 => ?_
  refine SX.region_d [some 0] rfl (fun ops hops => ?_)
  unfold Dsts at hops
  simp (maxSteps:=1000000)(dsimp:=false)(disch:=omega) only [go_sem, Φa, hP, hops]
  refine hK1 _ _ ?_
  try clear hK1 K1
  refine SX.seq_k fun K2 hK2 => ?_
  refine SX.region_xd [some 1, some 2, some 3, some 0] rfl (fun ops hops => ?_)
  unfold Dsts at hops
  refine RX.live [] (fun T1 hT1 => ?_)
  clear hT1
  refine RX.join 3 (fun (ss : Unit) T L' => T 3 = .bool (true) ∧ L' = L ∧ (True)) (fun K3 hK3 => ?_) ?_
  · simp (maxSteps:=1000000)(dsimp:=false)(disch:=omega) only [go_sem, Φa, hP, hops]
    repeat' (first | refine iteB (fun hg => ?_) (fun hg => ?_) | refine iteI (fun hg => ?_) (fun hg => ?_) | ((first | (refine SCall.mono (awake_spec hP S) ?_; rintro v_ L_ ⟨hv_, hL_⟩; rw [hv_, hL_]; clear hv_ hL_ v_ L_) | refine And.intro (by omega) ?_ | fail); try (with_reducible refine stI ?_); try simp (maxSteps:=1000000)(dsimp:=false)(disch:=omega) only [go_sem, Φa, hP, hops]) | fail)
    all_goals
      refine hK3 () _ (L) _ (by first | exact Less.refl _ | exact Less.drop _ _ | exact Less.drops (Less.drop _ _) | exact Less.drops (Less.drops (Less.drop _ _)) | exact Less.drops (Less.drops (Less.drops (Less.drop _ _))) | exact Less.drops (Less.drops (Less.drops (Less.drops (Less.drop _ _))))) ?_
      try dsimp only
      refine ⟨?_, ?_, ?_⟩
      · simp (maxSteps:=1000000)(dsimp:=false)(disch:=omega) only [go_sem, Φa, hP]
        first | done | rfl
      · rfl
      · trivial
  · intro ss T2 L2 hI
    obtain ⟨h2_3, hL2, hinv⟩ := hI
    replace hL2 := hL2.symm
    subst hL2
    clear T1
    refine RX.done ?_
    simp (maxSteps:=1000000)(dsimp:=false)(disch:=omega) only [go_sem, Φa, hP, h2_3, hops]
    refine hK2 _ _ ?_
    try clear hK2 K2
    refine SX.ret ?_
    simp only [andThen_normal, andThen_ret, andThen_exit, inBlk_normal, inBlk_ret, inBlk_exit, Nat.reduceEqDiff, if_true, if_false, ↓reduceIte, retQ_ret]
    try simp only [res0, res1, res2, res3, stK_e, go_sem, Φa, hP, h2_3]
    exact ⟨_, _, Less.refl _, rfl, rfl, rfl⟩
set_option maxHeartbeats 1000000 in
set_option maxRecDepth 100000 in
theorem FrameShows_spec {Γ : Ctx} (hP : Γ.P = Tryd.prog) {L : Hp} (S : SH Γ) {v : Value} {f : Fm} (hr : SlR (Cell Γ []) v f.rows) (hrl : f.rows.length ≤ 9223372036854775807) (hby : ∀ i, i < f.rows.length → ∀ j, j < (f.rows.getD i []).length → 0 ≤ (f.rows.getD i []).getD j 0 ∧ (f.rows.getD i []).getD j 0 ≤ 255) :
    SCall Γ 6 #[(.agg (f.cells v).toArray)] L (fun v L' => v = .bool true ∧ L' = L) := by
  obtain ⟨A, c, rfl, hc⟩ := Sl.shape hr
  refine SCall.enter (n := 30) (res1 2) (hP ▸ Tryd.func6) rfl rfl (by simp) (res1_ok rfl) ?_
  refine SX.seq_k fun K1 hK1 => ?_
  refine SX.region_d [some 1, some 2] rfl (fun ops hops => ?_)
  unfold Dsts at hops
  simp (maxSteps:=1000000)(dsimp:=false)(disch:=omega) only [go_sem, Φa, hP, hops]
  intro b0
  try with_reducible refine stI ?_
  try simp (maxSteps:=1000000)(dsimp:=false)(disch:=omega) only [go_sem, Φa, hP, hops]
  refine hK1 _ _ ?_
  try clear hK1 K1
  refine SX.seq_k fun K2 hK2 => ?_
  refine SX.seq_k fun K3 hK3 => ?_
  refine SX.region_d [some 7, some 8] rfl (fun ops hops => ?_)
  unfold Dsts at hops
  simp (maxSteps:=1000000)(dsimp:=false)(disch:=omega) only [go_sem, Φa, hP, hops]
  refine ⟨_, Cell.at 0 rfl (show (Fm.cells _ _)[0]? = _ from rfl), _, Cell.at 0 rfl (show (Fm.cells _ _)[1]? = _ from rfl), _, Cell.at 0 rfl (show (Fm.cells _ _)[2]? = _ from rfl), ?_⟩
  try with_reducible refine stI ?_
  try simp (maxSteps:=1000000)(dsimp:=false)(disch:=omega) only [go_sem, Φa, hP, hops]
  refine SCall.mono (vast_spec (f := f) hP (SlR.mono (fun a v h => Cell.cons _ (Cell.any h)) hr) hrl) ?_
  rintro v_ L_ ⟨hv_, hL_⟩
  rw [hv_, hL_]
  clear hv_ hL_ v_ L_
  try with_reducible refine stI ?_
  try simp (maxSteps:=1000000)(dsimp:=false)(disch:=omega) only [go_sem, Φa, hP, hops]
  refine hK3 _ _ ?_
  try clear hK3 K3
  refine SX.cond_k fun X4 Y4 hX4 hY4 => ?_
  simp (maxSteps:=1000000)(dsimp:=false)(disch:=omega) only [go_sem, Φa, hP, condVC]
  refine ⟨fun hc8 => hX4 ?_, fun hc8 => hY4 ?_⟩
  · clear hX4 hY4 X4 Y4
    refine SX.seq_k fun K5 hK5 => ?_
    refine SX.region_d [some 2] rfl (fun ops hops => ?_)
    unfold Dsts at hops
    simp (maxSteps:=1000000)(dsimp:=false)(disch:=omega) only [go_sem, Φa, hP, hops]
    refine hK5 _ _ ?_
    try clear hK5 K5
    refine SX.ret ?_
    simp only [andThen_normal, andThen_ret, andThen_exit, inBlk_normal, inBlk_ret, inBlk_exit, Nat.reduceEqDiff, if_true, if_false, ↓reduceIte, retQ_ret]
    try simp only [res0, res1, res2, res3, stK_e, go_sem, Φa, hP]
    exact ⟨_, _, Less.drop _ _, rfl, rfl, rfl⟩
  · clear hX4 hY4 X4 Y4
    refine SX.skip ?_
    try simp only [andThen_normal, andThen_ret, andThen_exit, inBlk_normal, inBlk_ret, inBlk_exit, Nat.reduceEqDiff, if_true, if_false, ↓reduceIte]
    refine hK2 _ _ ?_
    try clear hK2 K2
    refine SX.seq_k fun K6 hK6 => ?_
    obtain ⟨hv1, hv2⟩ := vast_no (by simpa using hc8)
    refine SX.region_d [some 10, some 11, some 9, some 12, some 13, some 3, some 4] rfl (fun ops hops => ?_)
    unfold Dsts at hops
    simp (maxSteps:=1000000)(dsimp:=false)(disch:=omega) only [go_sem, Φa, hP, hops]
    refine ⟨_, Cell.at 0 rfl (show (Fm.cells _ _)[0]? = _ from rfl), _, Cell.at 0 rfl (show (Fm.cells _ _)[1]? = _ from rfl), _, Cell.at 0 rfl (show (Fm.cells _ _)[2]? = _ from rfl), ?_⟩
    try with_reducible refine stI ?_
    try simp (maxSteps:=1000000)(dsimp:=false)(disch:=omega) only [go_sem, Φa, hP, hops]
    refine SCall.mono (Show_spec (f := f) hP (SlR.mono (fun a v h => Cell.cons _ (Cell.any h)) hr) (by omega) (by omega) hby) ?_
    rintro v_ L_ ⟨hv_, hL_⟩
    rw [hv_, hL_]
    clear hv_ hL_ v_ L_
    try with_reducible refine stI ?_
    try simp (maxSteps:=1000000)(dsimp:=false)(disch:=omega) only [go_sem, Φa, hP, hops]
    refine hK6 _ _ ?_
    try clear hK6 K6
    refine SX.live [1, 3, 4] (fun T1 hT1 => ?_)
    simp only [forall_mem_cons', forall_mem_nil', go_sem, Φa, hP] at hT1
    obtain ⟨h1_1, h1_3, h1_4⟩ := hT1
    refine SX.seq_k fun K7 hK7 => ?_
    refine SX.region_d [some 15, some 16, some 14, some 17, some 18, some 5, some 6] rfl (fun ops hops => ?_)
    unfold Dsts at hops
    simp (maxSteps:=1000000)(dsimp:=false)(disch:=omega) only [go_sem, Φa, hP, h1_1, h1_3, h1_4, hops]
    refine ⟨_, Cell.at 0 rfl (show (Fm.cells _ _)[0]? = _ from rfl), _, Cell.at 0 rfl (show (Fm.cells _ _)[1]? = _ from rfl), _, Cell.at 0 rfl (show (Fm.cells _ _)[2]? = _ from rfl), ?_⟩
    try with_reducible refine stI ?_
    try simp (maxSteps:=1000000)(dsimp:=false)(disch:=omega) only [go_sem, Φa, hP, h1_1, h1_3, h1_4, hops]
    refine SCall.mono (refShow_spec (f := f) hP (SlR.mono (fun a v h => Cell.cons _ (Cell.any h)) hr) (by omega) (by omega) hby) ?_
    rintro v_ L_ ⟨hv_, hL_⟩
    rw [hv_, hL_]
    clear hv_ hL_ v_ L_
    try with_reducible refine stI ?_
    try simp (maxSteps:=1000000)(dsimp:=false)(disch:=omega) only [go_sem, Φa, hP, h1_1, h1_3, h1_4, hops]
    refine hK7 _ _ ?_
    try clear hK7 K7
    refine SX.seq_k fun K8 hK8 => ?_
    refine SX.region_xd [some 19, some 20, some 21, some 22, some 23, some 24, some 25, some 26, some 27, some 28, some 29, some 2] rfl (fun ops hops => ?_)
    unfold Dsts at hops
    refine RX.live [3, 4, 5, 6] (fun T2 hT2 => ?_)
    simp only [forall_mem_cons', forall_mem_nil', go_sem, Φa, hP, h1_1, h1_3, h1_4] at hT2
    obtain ⟨h2_3, h2_4, h2_5, h2_6⟩ := hT2
    clear h1_1 h1_3 h1_4 T1
    refine RX.join 8 (fun (ss : Unit) T L' => T 26 = .bool (true) ∧ L' = some (b0, .cells (f.cells (.slice A f.rows.length c)).toArray 41 (0, 0)) :: L ∧ (True)) (fun K9 hK9 => ?_) ?_
    · simp (maxSteps:=1000000)(dsimp:=false)(disch:=omega) only [go_sem, Φa, hP, h2_3, h2_4, h2_5, h2_6, hops]
      repeat' (first | refine iteB (fun hg => ?_) (fun hg => ?_) | refine iteI (fun hg => ?_) (fun hg => ?_) | ((first | (refine SCall.mono (awake_spec hP S) ?_; rintro v_ L_ ⟨hv_, hL_⟩; rw [hv_, hL_]; clear hv_ hL_ v_ L_) | refine And.intro (by omega) ?_ | refine ⟨_, Cell.at 0 rfl rfl, ?_⟩ | fail); try (with_reducible refine stI ?_); try simp (maxSteps:=1000000)(dsimp:=false)(disch:=omega) only [go_sem, Φa, hP, h2_3, h2_4, h2_5, h2_6, hops]) | fail)
      all_goals
        refine hK9 () _ (some (b0, .cells (f.cells (.slice A f.rows.length c)).toArray 41 (0, 0)) :: L) _ (by first | exact Less.refl _ | exact Less.drop _ _ | exact Less.drops (Less.drop _ _) | exact Less.drops (Less.drops (Less.drop _ _)) | exact Less.drops (Less.drops (Less.drops (Less.drop _ _))) | exact Less.drops (Less.drops (Less.drops (Less.drops (Less.drop _ _))))) ?_
        try dsimp only
        refine ⟨?_, ?_, ?_⟩
        · simp (maxSteps:=1000000)(dsimp:=false)(disch:=omega) only [go_sem, Φa, hP, h2_3, h2_4, h2_5, h2_6]
          first | done | rfl
        · rfl
        · trivial
    · intro ss T3 L3 hI
      obtain ⟨h3_26, hL3, hinv⟩ := hI
      replace hL3 := hL3.symm
      subst hL3
      clear h2_3 h2_4 h2_5 h2_6 T2
      refine RX.live [26] (fun T4 hT4 => ?_)
      simp only [forall_mem_cons', forall_mem_nil', go_sem, Φa, hP, h3_26] at hT4
      have h4_26 := hT4; clear hT4
      clear h3_26 T3
      refine RX.join 3 (fun (ss : Unit) T L' => T 29 = .bool (true) ∧ L' = some (b0, .cells (f.cells (.slice A f.rows.length c)).toArray 41 (0, 0)) :: L ∧ (True)) (fun K10 hK10 => ?_) ?_
      · simp (maxSteps:=1000000)(dsimp:=false)(disch:=omega) only [go_sem, Φa, hP, h4_26, hops]
        repeat' (first | refine iteB (fun hg => ?_) (fun hg => ?_) | refine iteI (fun hg => ?_) (fun hg => ?_) | ((first | (refine SCall.mono (awake_spec hP S) ?_; rintro v_ L_ ⟨hv_, hL_⟩; rw [hv_, hL_]; clear hv_ hL_ v_ L_) | refine And.intro (by omega) ?_ | refine ⟨_, Cell.at 0 rfl rfl, ?_⟩ | fail); try (with_reducible refine stI ?_); try simp (maxSteps:=1000000)(dsimp:=false)(disch:=omega) only [go_sem, Φa, hP, h4_26, hops]) | fail)
        all_goals
          refine hK10 () _ (some (b0, .cells (f.cells (.slice A f.rows.length c)).toArray 41 (0, 0)) :: L) _ (by first | exact Less.refl _ | exact Less.drop _ _ | exact Less.drops (Less.drop _ _) | exact Less.drops (Less.drops (Less.drop _ _)) | exact Less.drops (Less.drops (Less.drops (Less.drop _ _))) | exact Less.drops (Less.drops (Less.drops (Less.drops (Less.drop _ _))))) ?_
          try dsimp only
          refine ⟨?_, ?_, ?_⟩
          · simp (maxSteps:=1000000)(dsimp:=false)(disch:=omega) only [go_sem, Φa, hP, h4_26]
            first | done | rfl
          · rfl
          · trivial
      · intro ss T5 L5 hI
        obtain ⟨h5_29, hL5, hinv⟩ := hI
        replace hL5 := hL5.symm
        subst hL5
        clear h4_26 T4
        refine RX.done ?_
        simp (maxSteps:=1000000)(dsimp:=false)(disch:=omega) only [go_sem, Φa, hP, h5_29, hops]
        refine hK8 _ _ ?_
        try clear hK8 K8
        refine SX.ret ?_
        simp only [andThen_normal, andThen_ret, andThen_exit, inBlk_normal, inBlk_ret, inBlk_exit, Nat.reduceEqDiff, if_true, if_false, ↓reduceIte, retQ_ret]
        try simp only [res0, res1, res2, res3, stK_e, go_sem, Φa, hP, h5_29]
        exact ⟨_, _, Less.drop _ _, rfl, rfl, rfl⟩
set_option maxHeartbeats 1000000 in
set_option maxRecDepth 100000 in
theorem FrameRuns_spec {Γ : Ctx} (hP : Γ.P = Tryd.prog) {L : Hp} (S : SH Γ) {x : Ras} {v : Value} {l : List Rc} {many : Int} (hl : SlC (Cell Γ []) v l) :
    SCall Γ 5 #[(.agg #[.int .i64 x.1, .int .i64 x.2.1, .bool x.2.2.1, .int .i64 x.2.2.2]), v, (.int .i64 many)] L (fun v L' => v = .bool true ∧ L' = L) := by
  obtain ⟨A, c, rfl, hc⟩ := Sl.shape hl
  obtain ⟨a1, e1, _, hA⟩ := Sl.at1 hl
  refine SCall.enter (n := 62) (res1 6) (hP ▸ Tryd.func5) rfl rfl (by simp) (res1_ok rfl) ?_
  refine SX.seq_k fun K1 hK1 => ?_
  refine SX.region_d [some 3, some 6] rfl (fun ops hops => ?_)
  unfold Dsts at hops
  simp (maxSteps:=1000000)(dsimp:=false)(disch:=omega) only [go_sem, Φa, hP, hops]
  intro bR
  try with_reducible refine stI ?_
  try simp (maxSteps:=1000000)(dsimp:=false)(disch:=omega) only [go_sem, Φa, hP, hops]
  refine hK1 _ _ ?_
  try clear hK1 K1
  refine SX.seq_k fun K2 hK2 => ?_
  refine SX.seq_k fun K3 hK3 => ?_
  refine SX.region_xd [some 14, some 15, some 16, some 17, some 18, some 19, some 20, some 21] rfl (fun ops hops => ?_)
  unfold Dsts at hops
  refine RX.live [1, 2, 3] (fun T1 hT1 => ?_)
  simp only [forall_mem_cons', forall_mem_nil', go_sem, Φa, hP] at hT1
  obtain ⟨h1_1, h1_2, h1_3⟩ := hT1
  refine RX.join 8 (fun (ss : Unit) T L' => T 21 = .bool (decide (2147483647 < l.length) || decide (l.length = 0)) ∧ T 1 = T1 1 ∧ T 2 = T1 2 ∧ T 3 = T1 3 ∧ L' = some (bR, .cells [.int .i64 x.1, .int .i64 x.2.1, .bool x.2.2.1, .int .i64 x.2.2.2].toArray 24 (0, 0)) :: L ∧ (True)) (fun K4 hK4 => ?_) ?_
  · simp only [h1_1, h1_2, h1_3] at hK4
    simp (maxSteps:=1000000)(dsimp:=false)(disch:=omega) only [go_sem, Φa, hP, h1_1, h1_2, h1_3, hops]
    repeat' (first | refine iteB (fun hg => ?_) (fun hg => ?_) | refine iteI (fun hg => ?_) (fun hg => ?_) | ((first | refine And.intro (by omega) ?_ | refine ⟨_, Cell.at 0 rfl rfl, ?_⟩ | fail); try (with_reducible refine stI ?_); try simp (maxSteps:=1000000)(dsimp:=false)(disch:=omega) only [go_sem, Φa, hP, h1_1, h1_2, h1_3, hops]) | fail)
    all_goals
      refine hK4 () _ (some (bR, .cells [.int .i64 x.1, .int .i64 x.2.1, .bool x.2.2.1, .int .i64 x.2.2.2].toArray 24 (0, 0)) :: L) _ (by first | exact Less.refl _ | exact Less.drop _ _ | exact Less.drops (Less.drop _ _) | exact Less.drops (Less.drops (Less.drop _ _)) | exact Less.drops (Less.drops (Less.drops (Less.drop _ _))) | exact Less.drops (Less.drops (Less.drops (Less.drops (Less.drop _ _))))) ?_
      try dsimp only
      refine ⟨?_, ?_, ?_, ?_, ?_, ?_⟩
      · simp (maxSteps:=1000000)(dsimp:=false)(disch:=omega) only [go_sem, Φa, hP, h1_1, h1_2, h1_3]
        first | done | (refine congrArg Value.bool ?_; rw [Bool.eq_iff_iff]; simp only [Bool.or_eq_true,Bool.and_eq_true,Bool.not_eq_true',Bool.not_eq_false',bne_iff_ne,decide_eq_true_eq,decide_eq_false_iff_not,Bool.true_eq_false,Bool.false_eq_true,true_iff,iff_true,false_iff,iff_false,ne_eq]; omega) | (refine congrArg Value.bool ?_; simp_all; first | done | omega)
      · simp (maxSteps:=1000000)(dsimp:=false)(disch:=omega) only [go_sem, Φa, hP, h1_1, h1_2, h1_3]
      · simp (maxSteps:=1000000)(dsimp:=false)(disch:=omega) only [go_sem, Φa, hP, h1_1, h1_2, h1_3]
      · simp (maxSteps:=1000000)(dsimp:=false)(disch:=omega) only [go_sem, Φa, hP, h1_1, h1_2, h1_3]
      · rfl
      · trivial
  · intro ss T2 L2 hI
    simp only [h1_1, h1_2, h1_3] at hI 
    obtain ⟨h2_21, h2_1, h2_2, h2_3, hL2, hinv⟩ := hI
    replace hL2 := hL2.symm
    subst hL2
    clear h1_1 h1_2 h1_3 T1
    refine RX.done ?_
    simp (maxSteps:=1000000)(dsimp:=false)(disch:=omega) only [go_sem, Φa, hP, h2_21, h2_1, h2_2, h2_3, hops]
    refine hK3 _ _ ?_
    try clear hK3 K3
    refine SX.cond_k fun X5 Y5 hX5 hY5 => ?_
    simp (maxSteps:=1000000)(dsimp:=false)(disch:=omega) only [go_sem, Φa, hP, h2_21, h2_1, h2_2, h2_3, condVC]
    refine ⟨fun hc21 => hX5 ?_, fun hc21 => hY5 ?_⟩
    · clear hX5 hY5 X5 Y5
      refine SX.seq_k fun K6 hK6 => ?_
      refine SX.region_d [some 6] rfl (fun ops hops => ?_)
      unfold Dsts at hops
      simp (maxSteps:=1000000)(dsimp:=false)(disch:=omega) only [go_sem, Φa, hP, h2_21, h2_1, h2_2, h2_3, hops]
      refine hK6 _ _ ?_
      try clear hK6 K6
      refine SX.ret ?_
      simp only [andThen_normal, andThen_ret, andThen_exit, inBlk_normal, inBlk_ret, inBlk_exit, Nat.reduceEqDiff, if_true, if_false, ↓reduceIte, retQ_ret]
      try simp only [res0, res1, res2, res3, stK_e, go_sem, Φa, hP, h2_21, h2_1, h2_2, h2_3]
      exact ⟨_, _, Less.drop _ _, rfl, rfl, rfl⟩
    · clear hX5 hY5 X5 Y5
      refine SX.skip ?_
      try simp only [andThen_normal, andThen_ret, andThen_exit, inBlk_normal, inBlk_ret, inBlk_exit, Nat.reduceEqDiff, if_true, if_false, ↓reduceIte]
      refine hK2 _ _ ?_
      try clear hK2 K2
      refine SX.seq_k fun K7 hK7 => ?_
      have hno : l.length ≤ 2147483647 ∧ 0 < l.length := by simp only [Bool.or_eq_false_iff, decide_eq_false_iff_not] at hc21; omega
      obtain ⟨n, hn, hn2⟩ := i64_and_le many 16383 (by decide)
      rw [show (((16383 : Nat)) : Int) = 16383 from rfl] at hn
      refine SX.region_d [some 22, some 23, some 7] rfl (fun ops hops => ?_)
      unfold Dsts at hops
      simp (maxSteps:=1000000)(dsimp:=false)(disch:=omega) only [go_sem, Φa, hP, h2_21, h2_1, h2_2, h2_3, hops, hn]
      repeat' ((first | refine And.intro (by omega) ?_ | fail); try (with_reducible refine stI ?_); try simp (maxSteps:=1000000)(dsimp:=false)(disch:=omega) only [go_sem, Φa, hP, h2_21, h2_1, h2_2, h2_3, hops, hn])
      refine hK7 _ _ ?_
      try clear hK7 K7
      refine SX.seq_k fun K8 hK8 => ?_
      refine SX.less (Less.none _) ?_
      refine SX.region_d [some 8] rfl (fun ops hops => ?_)
      unfold Dsts at hops
      simp (maxSteps:=1000000)(dsimp:=false)(disch:=omega) only [go_sem, Φa, hP, h2_21, h2_1, h2_2, h2_3, hops]
      refine hK8 _ _ ?_
      try clear hK8 K8
      refine SX.seq_k fun K9 hK9 => ?_
      refine SX.seq_k fun K10 hK10 => ?_
      refine SX.region_d [some 9] rfl (fun ops hops => ?_)
      unfold Dsts at hops
      simp (maxSteps:=1000000)(dsimp:=false)(disch:=omega) only [go_sem, Φa, hP, h2_21, h2_1, h2_2, h2_3, hops]
      refine hK10 _ _ ?_
      try clear hK10 K10
      refine SX.block ?_
      refine SX.live [1, 3, 7, 8, 9] (fun T3 hT3 => ?_)
      simp only [forall_mem_cons', forall_mem_nil', go_sem, Φa, hP, h2_21, h2_1, h2_2, h2_3] at hT3
      obtain ⟨h3_1, h3_3, h3_7, h3_8, h3_9⟩ := hT3
      clear h2_21 h2_1 h2_2 h2_3 T2
      refine SX.loop_k (fun (ss : (Nat) × (Value) × (Slot)) T L' => (fun (i : Nat) (vx : Value) (sx : Slot) => T 8 = vx ∧ T 9 = .int .i64 (i : Int) ∧ T 1 = T3 1 ∧ T 3 = T3 3 ∧ T 7 = T3 7 ∧ L' = sx :: some (bR, .cells [.int .i64 x.1, .int .i64 x.2.1, .bool x.2.2.1, .int .i64 x.2.2.2].toArray 24 (0, 0)) :: L ∧ (i ≤ n ∧ RowL Rc.cells 29 8 vx (cyc l i) sx)) (ss.1) (ss.2.1) (ss.2.2)) (fun (ss : (Nat) × (Value) × (Slot)) => (fun (i : Nat) (vx : Value) (sx : Slot) => n - i) (ss.1) (ss.2.1) (ss.2.2)) (0, .slice none 0 0, none) ?_ ?_
      · try dsimp only
        refine ⟨?_, ?_, ?_, ?_, ?_, ?_, ?_⟩
        · first | exact h3_8 | (rw [h3_8]; rfl) | (rw [h3_8]; simp; done)
        · first | exact h3_9 | (rw [h3_9]; rfl) | (rw [h3_9]; simp; done)
        · rfl
        · rfl
        · rfl
        · rfl
        · exact ⟨Nat.zero_le _, RowL.nil _ _ _⟩
      · intro ss T4 L4 hI K11 hK11
        obtain ⟨i, vx, sx⟩ := ss
        try dsimp only at hI hK11
        simp only [h3_1, h3_3, h3_7] at hI hK11
        obtain ⟨h4_8, h4_9, h4_1, h4_3, h4_7, hL4, ⟨hi, hrow⟩⟩ := hI
        replace hL4 := hL4.symm
        subst hL4
        clear h3_1 h3_3 h3_7 h3_8 h3_9 T3
        refine SX.seq_k fun K12 hK12 => ?_
        refine SX.seq_k fun K13 hK13 => ?_
        refine SX.region_d [some 24, some 25, some 26] rfl (fun ops hops => ?_)
        unfold Dsts at hops
        simp (maxSteps:=1000000)(dsimp:=false)(disch:=omega) only [go_sem, Φa, hP, h4_8, h4_9, h4_1, h4_3, h4_7, hops]
        repeat' ((first | refine And.intro (by omega) ?_ | fail); try (with_reducible refine stI ?_); try simp (maxSteps:=1000000)(dsimp:=false)(disch:=omega) only [go_sem, Φa, hP, h4_8, h4_9, h4_1, h4_3, h4_7, hops])
        refine hK13 _ _ ?_
        try clear hK13 K13
        refine SX.cond_k fun X14 Y14 hX14 hY14 => ?_
        simp (maxSteps:=1000000)(dsimp:=false)(disch:=omega) only [go_sem, Φa, hP, h4_8, h4_9, h4_1, h4_3, h4_7, condVC]
        refine ⟨fun hc26 => hX14 ?_, fun hc26 => hY14 ?_⟩
        · clear hX14 hY14 X14 Y14
          refine SX.skip ?_
          try simp only [andThen_normal, andThen_ret, andThen_exit, inBlk_normal, inBlk_ret, inBlk_exit, Nat.reduceEqDiff, if_true, if_false, ↓reduceIte]
          refine hK12 _ _ ?_
          try clear hK12 K12
          refine SX.seq_k fun K15 hK15 => ?_
          refine SX.block ?_
          have hcy : i % l.length < l.length := Nat.mod_lt _ (by omega)
          have hck := hA (i % l.length) _ (getD_get (d := default) hcy)
          have htm := tmod_nat i l.length
          have hcl := cyc_len l i
          refine SX.region_d [some 29, some 30, some 31, some 32, some 33, some 34, some 35, some 36, some 37, some 38, some 8] rfl (fun ops hops => ?_)
          unfold Dsts at hops
          simp (maxSteps:=1000000)(dsimp:=false)(disch:=omega) only [go_sem, Φa, hP, h4_8, h4_9, h4_1, h4_3, h4_7, hops, ia_at e1, htm]
          refine ⟨_, Cell.cons _ (Cell.cons _ (Cell.any (hck 0 _ rfl))), _, Cell.cons _ (Cell.cons _ (Cell.any (hck 1 _ rfl))), _, Cell.cons _ (Cell.cons _ (Cell.any (hck 2 _ rfl))), _, Cell.cons _ (Cell.cons _ (Cell.any (hck 3 _ rfl))), _, Cell.cons _ (Cell.cons _ (Cell.any (hck 4 _ rfl))), _, Cell.cons _ (Cell.cons _ (Cell.any (hck 5 _ rfl))), _, Cell.cons _ (Cell.cons _ (Cell.any (hck 6 _ rfl))), _, Cell.cons _ (Cell.cons _ (Cell.any (hck 7 _ rfl))), ?_⟩
          try with_reducible refine stI ?_
          try simp (maxSteps:=1000000)(dsimp:=false)(disch:=omega) only [go_sem, Φa, hP, h4_8, h4_9, h4_1, h4_3, h4_7, hops, ia_at e1, htm]
          intro g8
          try with_reducible refine stI ?_
          try simp (maxSteps:=1000000)(dsimp:=false)(disch:=omega) only [go_sem, Φa, hP, h4_8, h4_9, h4_1, h4_3, h4_7, hops, ia_at e1, htm]
          refine YAppend.rowL (f := Rc.cells) (x := l.getD (i % l.length) default) (i := 0) (z := [.int .u8 0, .int .u16 0, .int .u8 0, .bool false, .bool false, .int .u8 0, .bool false, .int .u8 0]) (hP ▸ T.elS_25) (hP ▸ T.zr_29) rfl rfl rfl rfl hrow (by omega) (by decide) ?_
          intro v' s' hrow'
          try with_reducible refine stI ?_
          try simp (maxSteps:=1000000)(dsimp:=false)(disch:=omega) only [go_sem, Φa, hP, h4_8, h4_9, h4_1, h4_3, h4_7, hops, ia_at e1, htm]
          refine hK15 _ _ ?_
          try clear hK15 K15
          refine SX.live [1, 3, 7, 8, 9] (fun T5 hT5 => ?_)
          simp only [forall_mem_cons', forall_mem_nil', go_sem, Φa, hP, h4_8, h4_9, h4_1, h4_3, h4_7] at hT5
          obtain ⟨h5_1, h5_3, h5_7, h5_8, h5_9⟩ := hT5
          clear h4_8 h4_9 h4_1 h4_3 h4_7 T4
          refine SX.region_d [some 27, some 28, some 9] rfl (fun ops hops => ?_)
          unfold Dsts at hops
          simp (maxSteps:=1000000)(dsimp:=false)(disch:=omega) only [go_sem, Φa, hP, h5_1, h5_3, h5_7, h5_8, h5_9, hops]
          repeat' ((first | refine And.intro (by omega) ?_ | fail); try (with_reducible refine stI ?_); try simp (maxSteps:=1000000)(dsimp:=false)(disch:=omega) only [go_sem, Φa, hP, h5_1, h5_3, h5_7, h5_8, h5_9, hops])
          refine hK11 (i + 1, v', s') _ (s' :: some (bR, .cells [.int .i64 x.1, .int .i64 x.2.1, .bool x.2.2.1, .int .i64 x.2.2.2].toArray 24 (0, 0)) :: L) _ (by exact Less.drop _ _) ?_ ?_
          · try dsimp only
            refine ⟨?_, ?_, ?_, ?_, ?_, ?_, ?_⟩
            · simp (maxSteps:=1000000)(dsimp:=false)(disch:=omega) only [go_sem, Φa, hP, h5_1, h5_3, h5_7, h5_8, h5_9]
              first | done | rfl | skip
            · simp (maxSteps:=1000000)(dsimp:=false)(disch:=omega) only [go_sem, Φa, hP, h5_1, h5_3, h5_7, h5_8, h5_9]
              first | done | rfl | skip
            · simp (maxSteps:=1000000)(dsimp:=false)(disch:=omega) only [go_sem, Φa, hP, h5_1, h5_3, h5_7, h5_8, h5_9]
            · simp (maxSteps:=1000000)(dsimp:=false)(disch:=omega) only [go_sem, Φa, hP, h5_1, h5_3, h5_7, h5_8, h5_9]
            · simp (maxSteps:=1000000)(dsimp:=false)(disch:=omega) only [go_sem, Φa, hP, h5_1, h5_3, h5_7, h5_8, h5_9]
            · rfl
            · refine ⟨by omega, ?_⟩
              rw [cyc_succ]
              exact hrow'
          · (try dsimp only); omega
        · clear hX14 hY14 X14 Y14
          refine SX.exit ?_
          try simp only [andThen_normal, andThen_ret, andThen_exit, inBlk_normal, inBlk_ret, inBlk_exit, Nat.reduceEqDiff, if_true, if_false, ↓reduceIte]
          refine hK9 _ _ ?_
          try clear hK9 K9
          refine SX.seq_k fun K16 hK16 => ?_
          obtain rfl : i = n := by omega
          have hcl := cyc_len l i
          refine SX.region_d [some 40, some 41, some 42, some 39, some 43, some 44, some 10, some 11] rfl (fun ops hops => ?_)
          unfold Dsts at hops
          simp (maxSteps:=1000000)(dsimp:=false)(disch:=omega) only [go_sem, Φa, hP, h4_8, h4_9, h4_1, h4_3, h4_7, hops]
          refine ⟨_, Cell.at 1 rfl rfl, _, Cell.at 1 rfl rfl, _, Cell.at 1 rfl rfl, _, Cell.at 1 rfl rfl, ?_⟩
          try with_reducible refine stI ?_
          try simp (maxSteps:=1000000)(dsimp:=false)(disch:=omega) only [go_sem, Φa, hP, h4_8, h4_9, h4_1, h4_3, h4_7, hops]
          refine SCall.mono (Of_spec (l := cyc l i) hP (RowL.sl Rc.len hrow (i := 0) rfl) (by omega) S) ?_
          rintro v_ L_ ⟨vo1, so1, fs1, rfl, rfl, hrow1, hfs1, hmap1⟩
          try with_reducible refine stI ?_
          try simp (maxSteps:=1000000)(dsimp:=false)(disch:=omega) only [go_sem, Φa, hP, h4_8, h4_9, h4_1, h4_3, h4_7, hops]
          refine hK16 _ _ ?_
          try clear hK16 K16
          refine SX.live [3, 8, 10, 11] (fun T6 hT6 => ?_)
          simp only [forall_mem_cons', forall_mem_nil', go_sem, Φa, hP, h4_8, h4_9, h4_1, h4_3, h4_7] at hT6
          obtain ⟨h6_3, h6_8, h6_10, h6_11⟩ := hT6
          clear h4_8 h4_9 h4_1 h4_3 h4_7 T4
          refine SX.seq_k fun K17 hK17 => ?_
          refine SX.region_d [some 46, some 47, some 48, some 45, some 49, some 50, some 12, some 13] rfl (fun ops hops => ?_)
          unfold Dsts at hops
          simp (maxSteps:=1000000)(dsimp:=false)(disch:=omega) only [go_sem, Φa, hP, h6_3, h6_8, h6_10, h6_11, hops]
          refine ⟨_, Cell.cons _ (Cell.app _ (Cell.at 1 rfl rfl)), _, Cell.cons _ (Cell.app _ (Cell.at 1 rfl rfl)), _, Cell.cons _ (Cell.app _ (Cell.at 1 rfl rfl)), _, Cell.cons _ (Cell.app _ (Cell.at 1 rfl rfl)), ?_⟩
          try with_reducible refine stI ?_
          try simp (maxSteps:=1000000)(dsimp:=false)(disch:=omega) only [go_sem, Φa, hP, h6_3, h6_8, h6_10, h6_11, hops]
          refine SCall.mono (refOf_spec (l := cyc l i) hP (SlC.mono (fun a v h => Cell.cons _ (Cell.app _ h)) (RowL.sl Rc.len hrow (L := sx :: some (bR, .cells [.int .i64 x.1, .int .i64 x.2.1, .bool x.2.2.1, .int .i64 x.2.2.2].toArray 24 (0, 0)) :: L) (i := 0) rfl)) (by omega)) ?_
          rintro v_ L_ ⟨vo2, so2, fs2, rfl, rfl, hrow2, hfs2, hmap2⟩
          try with_reducible refine stI ?_
          try simp (maxSteps:=1000000)(dsimp:=false)(disch:=omega) only [go_sem, Φa, hP, h6_3, h6_8, h6_10, h6_11, hops]
          refine hK17 _ _ ?_
          try clear hK17 K17
          refine SX.seq_k fun K18 hK18 => ?_
          refine SX.region_xd [some 51, some 52, some 53, some 54, some 55, some 56, some 57, some 58, some 59, some 60, some 61, some 6] rfl (fun ops hops => ?_)
          unfold Dsts at hops
          refine RX.live [10, 11, 12, 13] (fun T7 hT7 => ?_)
          simp only [forall_mem_cons', forall_mem_nil', go_sem, Φa, hP, h6_3, h6_8, h6_10, h6_11] at hT7
          obtain ⟨h7_10, h7_11, h7_12, h7_13⟩ := hT7
          clear h6_3 h6_8 h6_10 h6_11 T6
          refine RX.join 8 (fun (ss : Unit) T L' => T 58 = .bool (true) ∧ L' = so2 :: (segs fs2 ++ (so1 :: (segs fs1 ++ (sx :: some (bR, .cells [.int .i64 x.1, .int .i64 x.2.1, .bool x.2.2.1, .int .i64 x.2.2.2].toArray 24 (0, 0)) :: L)))) ∧ (True)) (fun K19 hK19 => ?_) ?_
          · simp (maxSteps:=1000000)(dsimp:=false)(disch:=omega) only [go_sem, Φa, hP, h7_10, h7_11, h7_12, h7_13, hops]
            repeat' (first | refine iteB (fun hg => ?_) (fun hg => ?_) | refine iteI (fun hg => ?_) (fun hg => ?_) | ((first | (refine SCall.mono (SameAll_spec (l := (ofP x (cyc l i)).1) hP (hrow1.slM hfs1 hmap1 (by simp) (fun s hs => by simp [hs])) (hrow2.slM hfs2 hmap2 (by simp) (fun s hs => by simp [hs])) (ofP_bnd' _ _).1 (ofP_bnd' _ _).2) ?_; rintro v_ L_ ⟨hv_, hL_⟩; rw [hv_, hL_]; clear hv_ hL_ v_ L_) | (refine SCall.mono (awake_spec hP S) ?_; rintro v_ L_ ⟨hv_, hL_⟩; rw [hv_, hL_]; clear hv_ hL_ v_ L_) | refine And.intro (by omega) ?_ | refine ⟨_, Cell.at 0 rfl rfl, ?_⟩ | refine ⟨_, Cell.at 1 rfl rfl, ?_⟩ | refine ⟨_, Cell.at 2 rfl rfl, ?_⟩ | refine ⟨_, Cell.at 3 rfl rfl, ?_⟩ | fail); try (with_reducible refine stI ?_); try simp (maxSteps:=1000000)(dsimp:=false)(disch:=omega) only [go_sem, Φa, hP, h7_10, h7_11, h7_12, h7_13, hops]) | fail)
            all_goals
              refine hK19 () _ (so2 :: (segs fs2 ++ (so1 :: (segs fs1 ++ (sx :: some (bR, .cells [.int .i64 x.1, .int .i64 x.2.1, .bool x.2.2.1, .int .i64 x.2.2.2].toArray 24 (0, 0)) :: L))))) _ (by first | exact Less.refl _ | exact Less.drop _ _ | exact Less.drops (Less.drop _ _) | exact Less.drops (Less.drops (Less.drop _ _)) | exact Less.drops (Less.drops (Less.drops (Less.drop _ _))) | exact Less.drops (Less.drops (Less.drops (Less.drops (Less.drop _ _))))) ?_
              try dsimp only
              refine ⟨?_, ?_, ?_⟩
              · simp (maxSteps:=1000000)(dsimp:=false)(disch:=omega) only [go_sem, Φa, hP, h7_10, h7_11, h7_12, h7_13]
                first | done | rfl
              · rfl
              · trivial
          · intro ss T8 L8 hI
            obtain ⟨h8_58, hL8, hinv⟩ := hI
            replace hL8 := hL8.symm
            subst hL8
            clear h7_10 h7_11 h7_12 h7_13 T7
            refine RX.live [58] (fun T9 hT9 => ?_)
            simp only [forall_mem_cons', forall_mem_nil', go_sem, Φa, hP, h8_58] at hT9
            have h9_58 := hT9; clear hT9
            clear h8_58 T8
            refine RX.join 3 (fun (ss : Unit) T L' => T 61 = .bool (true) ∧ L' = so2 :: (segs fs2 ++ (so1 :: (segs fs1 ++ (sx :: some (bR, .cells [.int .i64 x.1, .int .i64 x.2.1, .bool x.2.2.1, .int .i64 x.2.2.2].toArray 24 (0, 0)) :: L)))) ∧ (True)) (fun K20 hK20 => ?_) ?_
            · simp (maxSteps:=1000000)(dsimp:=false)(disch:=omega) only [go_sem, Φa, hP, h9_58, hops]
              repeat' (first | refine iteB (fun hg => ?_) (fun hg => ?_) | refine iteI (fun hg => ?_) (fun hg => ?_) | ((first | (refine SCall.mono (SameAll_spec (l := (ofP x (cyc l i)).1) hP (hrow1.slM hfs1 hmap1 (by simp) (fun s hs => by simp [hs])) (hrow2.slM hfs2 hmap2 (by simp) (fun s hs => by simp [hs])) (ofP_bnd' _ _).1 (ofP_bnd' _ _).2) ?_; rintro v_ L_ ⟨hv_, hL_⟩; rw [hv_, hL_]; clear hv_ hL_ v_ L_) | (refine SCall.mono (awake_spec hP S) ?_; rintro v_ L_ ⟨hv_, hL_⟩; rw [hv_, hL_]; clear hv_ hL_ v_ L_) | refine And.intro (by omega) ?_ | refine ⟨_, Cell.at 0 rfl rfl, ?_⟩ | refine ⟨_, Cell.at 1 rfl rfl, ?_⟩ | refine ⟨_, Cell.at 2 rfl rfl, ?_⟩ | refine ⟨_, Cell.at 3 rfl rfl, ?_⟩ | fail); try (with_reducible refine stI ?_); try simp (maxSteps:=1000000)(dsimp:=false)(disch:=omega) only [go_sem, Φa, hP, h9_58, hops]) | fail)
              all_goals
                refine hK20 () _ (so2 :: (segs fs2 ++ (so1 :: (segs fs1 ++ (sx :: some (bR, .cells [.int .i64 x.1, .int .i64 x.2.1, .bool x.2.2.1, .int .i64 x.2.2.2].toArray 24 (0, 0)) :: L))))) _ (by first | exact Less.refl _ | exact Less.drop _ _ | exact Less.drops (Less.drop _ _) | exact Less.drops (Less.drops (Less.drop _ _)) | exact Less.drops (Less.drops (Less.drops (Less.drop _ _))) | exact Less.drops (Less.drops (Less.drops (Less.drops (Less.drop _ _))))) ?_
                try dsimp only
                refine ⟨?_, ?_, ?_⟩
                · simp (maxSteps:=1000000)(dsimp:=false)(disch:=omega) only [go_sem, Φa, hP, h9_58]
                  first | done | rfl
                · rfl
                · trivial
            · intro ss T10 L10 hI
              obtain ⟨h10_61, hL10, hinv⟩ := hI
              replace hL10 := hL10.symm
              subst hL10
              clear h9_58 T9
              refine RX.done ?_
              simp (maxSteps:=1000000)(dsimp:=false)(disch:=omega) only [go_sem, Φa, hP, h10_61, hops]
              refine hK18 _ _ ?_
              try clear hK18 K18
              refine SX.ret ?_
              simp only [andThen_normal, andThen_ret, andThen_exit, inBlk_normal, inBlk_ret, inBlk_exit, Nat.reduceEqDiff, if_true, if_false, ↓reduceIte, retQ_ret]
              try simp only [res0, res1, res2, res3, stK_e, go_sem, Φa, hP, h10_61]
              exact ⟨_, _, Less.drops (Less.sublist subl_end), rfl, rfl, rfl⟩

end Go.Proofs.YtpakphgeichopaaDoor
set_option linter.unusedVariables false
namespace Go.Proofs.YtpakphgeichopaaDoor
open Go.ChangeShapes Go.WideShapes Go.ChangeAt Go.RowKit Go.SX
/-! What is handed in: rasters, records, frames; the laid variable. -/
theorem own : ownKnob Tryd.prog.godebug = none := by kernel_rfl
theorem laidOut : laidOutB Tryd.prog = true := by kernel_rfl
theorem cells3 : Tryd.prog.cellsOf 3 = 1 := by kernel_rfl
theorem cells5 : Tryd.prog.cellsOf 5 = 1 := by kernel_rfl
theorem cells41 : Tryd.prog.cellsOf 41 = 3 := by kernel_rfl
theorem cells50 : Tryd.prog.cellsOf 50 = 1 := by kernel_rfl
theorem cellsE : Tryd.prog.cellsOf 89 = 2 := by kernel_rfl
theorem cellsS : Tryd.prog.cellsOf 90 = 2 := by kernel_rfl
theorem gSh : Tryd.prog.globalNamed "vesper/pixie.shown" = some 0 := by kernel_rfl
theorem tSh : (Tryd.prog.globals[0]?).map (·.type) = some 90 := by kernel_rfl
theorem shown_of {W : World} {laid : List (String × DataW Unit)} (hp : (laid.all fun x => x.2.handleName?.isNone) = true) (hL : laidMetH Tryd.prog laid W) (hm : ("vesper/pixie.shown", Rows.laid_vesper_pixie_shown) ∈ laid) : SH ⟨Tryd.prog, W, []⟩ := by
  obtain ⟨cs, f, p, h1, h2⟩ := laid_var hp hL hm gSh tSh
  have key := trod_arr_arr (zss := [[80, 207]]) Tryd.underlying90 Tryd.underlying89 Tryd.underlying3 cells3 cellsE cellsS (by intro zs hz; rw [List.mem_singleton.1 hz]; rfl) h1 rfl
  intro L i b hb
  have hi : ([[80, 207]] : List (List Int))[i]? = some [b.1, b.2] := by
    cases i with
    | zero => simp at hb; subst hb; rfl
    | succ i => simp at hb
  constructor
  · refine Cell.old (by simp) ?_
    rw [Addr.add_lit, Nat.zero_add, h2]
    exact key i 0 _ _ hi rfl
  · refine Cell.old (by simp) ?_
    rw [Addr.add_lit, Nat.zero_add, h2]
    exact key i 1 _ _ hi rfl
theorem flat24 : flatK Tryd.prog 9 24 = some [.i .i64, .i .i64, .b, .i .i64] := by kernel_rfl
theorem flat29 : flatK Tryd.prog 9 29 = some [.i .u8, .i .u16, .i .u8, .b, .b, .i .u8, .b, .i .u8] := by kernel_rfl
section
variable {H : Type} {enc : TypeId × Value → H} {W : World} {base : Nat} {v : Value} {d : DataW H} {p : List MemPlace}
theorem open_ras (hv : Value.okWide Tryd.prog W .any base 24 v) (h : DataW.Trod enc Tryd.prog W 0 (fun _ => true) true 24 v d p) :
    ∃ x : Ras, v = .agg #[.int .i64 x.1, .int .i64 x.2.1, .bool x.2.2.1, .int .i64 x.2.2.2] ∧ (Lit.int .i64 x.1).wf = true ∧ (Lit.int .i64 x.2.1).wf = true ∧ (Lit.int .i64 x.2.2.2).wf = true := by
  obtain ⟨cs, rfl, _⟩ := okWide_struct Tryd.underlying24 hv
  have hk := open_flat flat24 h
  obtain ⟨l, v1, e1, h1, hk⟩ := okVs_i hk
  obtain ⟨c, v2, e2, h2, hk⟩ := okVs_i hk
  obtain ⟨o, v3, e3, hk⟩ := okVs_b hk
  obtain ⟨g, v4, e4, h3, hk⟩ := okVs_i hk
  have e5 := okVs_nil hk
  subst e5 e4 e3 e2
  exact ⟨(l, c, o, g), congrArg Value.agg (Array.toList_inj.1 e1), h1, h2, h3⟩
theorem rc_of {cs : List Value} (hk : okVs [.i .u8, .i .u16, .i .u8, .b, .b, .i .u8, .b, .i .u8] cs = true) : ∃ r : Rc, cs = r.cells ∧ 0 ≤ r.data ∧ r.data ≤ 255 ∧ (Lit.int .u8 r.code).wf = true ∧ (Lit.int .u16 r.ad).wf = true ∧ (Lit.int .u8 r.data).wf = true ∧ (Lit.int .u8 r.port).wf = true ∧ (Lit.int .u8 r.md).wf = true := by
  obtain ⟨c0, v1, e1, h1, hk⟩ := okVs_i hk
  obtain ⟨c1, v2, e2, h2, hk⟩ := okVs_i hk
  obtain ⟨c2, v3, e3, h3, hk⟩ := okVs_i hk
  obtain ⟨c3, v4, e4, hk⟩ := okVs_b hk
  obtain ⟨c4, v5, e5, hk⟩ := okVs_b hk
  obtain ⟨c5, v6, e6, h6, hk⟩ := okVs_i hk
  obtain ⟨c6, v7, e7, hk⟩ := okVs_b hk
  obtain ⟨c7, v8, e8, h8, hk⟩ := okVs_i hk
  have e9 := okVs_nil hk
  subst e9 e8 e7 e6 e5 e4 e3 e2 e1
  have hb := bounds_u8 h3
  exact ⟨⟨c0, c1, c2, c3, c4, c5, c6, c7⟩, rfl, by dsimp only; omega, by dsimp only; omega, h1, h2, h3, h6, h8⟩
def OkRc (r : Rc) : Prop := 0 ≤ r.data ∧ r.data ≤ 255 ∧ (Lit.int .u8 r.code).wf = true ∧ (Lit.int .u16 r.ad).wf = true ∧ (Lit.int .u8 r.data).wf = true ∧ (Lit.int .u8 r.port).wf = true ∧ (Lit.int .u8 r.md).wf = true
theorem open_recs (hv : Value.okWide Tryd.prog W .any base 25 v) (h : DataW.Trod enc Tryd.prog W 0 (fun _ => true) true 25 v d p) :
    ∃ l : List Rc, SlC (Cell ⟨Tryd.prog, W, []⟩ []) v l ∧ (∀ r ∈ l, OkRc r) ∧ l.length ≤ 9223372036854775807 := by
  have hkk : Tryd.prog.cellsOf 29 = 8 := by kernel_rfl
  obtain ⟨l, ⟨A, c, h1, h2, h3⟩, hl⟩ := open_slRT (R := fun cs (r : Rc) => cs = r.cells ∧ OkRc r) Tryd.underlying25 hkk (fun n cs y hy => rc_of (trod_flat 9 29 _ _ _ _ flat29 hy)) hv h
  refine ⟨l, ⟨A, c, h1, h2, fun j x hj => ?_⟩, fun r hr => ?_, hl⟩
  · obtain ⟨a, ha, cs, _, ⟨rfl, _⟩, k⟩ := h3 j x hj
    exact ⟨a, ha, k⟩
  · obtain ⟨j, hj⟩ := List.mem_iff_getElem?.1 hr
    obtain ⟨a, ha, cs, _, ⟨_, k⟩, _⟩ := h3 j r hj
    exact k
/-- Rows of bytes that are handed in. -/
def RowsIn (W : World) (v : Value) (l : List (List Int)) : Prop := SlR (Cell ⟨Tryd.prog, W, []⟩ []) v l ∧ (∀ r ∈ l, Byte r ∧ r.length ≤ 9223372036854775807) ∧ l.length ≤ 9223372036854775807
set_option maxRecDepth 100000 in
theorem open_rowsV {n : Nat} {y : DataW H × List MemPlace} (hy : DataW.trod enc Tryd.prog W 0 (fun _ => true) true n 39 [v] = some y) : ∃ l, RowsIn W v l := by
  obtain ⟨l, ⟨A, c, h1, h2, h3⟩, hl⟩ := open_slR (R := fun cs (r : List Int) => ∃ u, cs = [u] ∧ SlI .u8 (Cell ⟨Tryd.prog, W, []⟩ []) u r ∧ Byte r ∧ r.length ≤ 9223372036854775807) Tryd.underlying39 cells50 (fun n cs y hy => by
    cases n with
    | zero => simp [DataW.trod] at hy
    | succ n =>
      obtain ⟨u, rfl⟩ : ∃ u, cs = [u] := by
        rcases DataW.trod_slice Tryd.underlying50 hy with ⟨h, _⟩ | ⟨a, len, cap, _, _, _, _, h, _⟩
        · exact ⟨_, h⟩
        · exact ⟨_, h⟩
      obtain ⟨xs, hx, hw, hl⟩ := open_slv Tryd.underlying50 Tryd.underlying5 cells5 hy
      exact ⟨xs, u, rfl, hx, fun n hn => by have := bounds_u8 (hw n hn); omega, hl⟩) hy
  refine ⟨l, ⟨A, c, h1, h2, fun j x hj => ?_⟩, fun r hr => ?_, hl⟩
  · obtain ⟨a, ha, cs, _, ⟨u, rfl, k1, _⟩, k⟩ := h3 j x hj
    refine ⟨a, ha, u, ?_, k1⟩
    have := k 0 _ rfl
    simpa [Addr.add_zero'] using this
  · obtain ⟨j, hj⟩ := List.mem_iff_getElem?.1 hr
    obtain ⟨a, ha, cs, _, ⟨u, _, _, k⟩, _⟩ := h3 j r hj
    exact k
set_option maxRecDepth 100000 in
theorem open_frame (hv : Value.okWide Tryd.prog W .any base 41 v) (h : DataW.Trod enc Tryd.prog W 0 (fun _ => true) true 41 v d p) :
    ∃ (f : Fm) (rv : Value), v = .agg (f.cells rv).toArray ∧ RowsIn W rv f.rows ∧ (Lit.int .i64 f.at_).wf = true := by
  obtain ⟨cs, rfl, _⟩ := okWide_struct Tryd.underlying41 hv
  obtain ⟨fuel, hy⟩ := h
  obtain ⟨xs, m, _, _, hcs, hxs, hf⟩ := DataW.trod_struct Tryd.underlying41 hy
  rw [cells41] at hcs
  obtain ⟨l⟩ := cs
  match l, hcs with
  | [c0, c1, c2], _ =>
    have h0 : DataW.trod enc Tryd.prog W 0 (fun _ => true) true m 3 [c0] = xs[0]? := hf 0 _ rfl
    have h1 : DataW.trod enc Tryd.prog W 0 (fun _ => true) true m 39 [c1] = xs[1]? := hf 1 _ rfl
    have h2 : DataW.trod enc Tryd.prog W 0 (fun _ => true) true m 4 [c2] = xs[2]? := hf 2 _ rfl
    rw [List.getElem?_eq_getElem (by rw [hxs]; decide)] at h0 h1 h2
    obtain ⟨n, e1, _, e3⟩ := DataW.trod_int Tryd.underlying3 h0
    obtain ⟨b, e2, _⟩ := DataW.trod_bool Tryd.underlying4 h2
    obtain ⟨rows, hr⟩ := open_rowsV h1
    simp at e1 e2
    subst e1 e2
    exact ⟨⟨n, rows, b⟩, c1, rfl, hr, e3⟩
theorem RowsIn.by_ {rv : Value} {l : List (List Int)} (h : RowsIn W rv l) : ∀ i, i < l.length → ∀ j, j < (l.getD i []).length → 0 ≤ (l.getD i []).getD j 0 ∧ (l.getD i []).getD j 0 ≤ 255 := fun i hi j hj => by
  have hm := (h.2.1 _ (List.mem_of_getElem? (getD_get (d := []) hi))).1
  exact hm _ (List.mem_of_getElem? (getD_get (d := 0) hj))
end
end Go.Proofs.YtpakphgeichopaaDoor
