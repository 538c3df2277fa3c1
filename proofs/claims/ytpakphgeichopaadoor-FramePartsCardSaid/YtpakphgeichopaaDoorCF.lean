/- A part of a proof: contracts and plain facts that it stands on. -/
import Derived.Test.YtpakphgeichopaaDoorCE
import Derived.Test.YtpakphgeichopaaDoorRows
import Derived.Test.YtpakphgeichopaaDoorCards
import Derived.Test.YtpakphgeichopaaDoorTie
import Derived.SevenTiedAt
import Derived.Lib.SmallJoins
set_option linter.unusedVariables false
set_option linter.unusedSimpArgs false
namespace Go.Proofs.YtpakphgeichopaaDoor
open Go.RowKit Go.SX Go.Proofs
open Go.SX renaming ia_someH → Φa

theorem map_one {α β : Type} {f : α → β} {l : List α} {b : β} (h : l.map f = [b]) : ∃ p, l = [p] ∧ f p = b := by
  match l, h with
  | [p], h => exact ⟨p, rfl, by simpa using h⟩
theorem oneF_by : ∀ i, i < oneF.rows.length → ∀ j, j < (oneF.rows.getD i []).length → 0 ≤ (oneF.rows.getD i []).getD j 0 ∧ (oneF.rows.getD i []).getD j 0 ≤ 255 := by
  intro i hi j hj
  cases i with
  | zero =>
    have : j = 0 := by simp [oneF] at hj; omega
    subst this
    exact ⟨by decide, by decide⟩
  | succ i =>
    exfalso
    have hl : oneF.rows.length = 128 := by rw [oneF]; simp only [List.length_cons, List.length_replicate]
    have h0 : oneF.rows.getD (i + 1) [] = [] := by
      show (List.replicate 127 []).getD i [] = _
      exact rep_getD (by omega)
    rw [h0] at hj
    simp at hj
theorem oneF_cnt : cnt oneF.rows = 1 := by decide +kernel
theorem zSl {Γ : Ctx} {L : Hp} {g : Nat} {Z : List Rc} {n : Nat} (hl : Z.length = n) (hn : n ≤ 9223372036854775807) : SlC (Cell Γ (some (g, .cells (Z.flatMap Rc.cells).toArray 29 (0, 0)) :: L)) (.slice (some ⟨g, 0, none⟩) n n) Z := by
  refine RowL.sl (i := 0) Rc.len (e := 29) (s := some (g, .cells (Z.flatMap Rc.cells).toArray 29 (0, 0))) ?_ rfl
  show Row 29 8 _ Z.length _ _
  rw [hl]
  exact Row.lit (by rw [flat_len Rc.len, hl]) hn
set_option maxHeartbeats 1000000 in
set_option maxRecDepth 100000 in
theorem awake_spec {Γ : Ctx} (hP : Γ.P = Tryd.prog) {L : Hp} (S : SH Γ) :
    SCall Γ 11 #[] L (fun v L' => v = .bool true ∧ L' = L) := by
  refine SCall.enter (n := 72) (res1 0) (hP ▸ Tryd.func11) rfl rfl (by simp) (res1_ok rfl) ?_
  refine SX.seq_k fun K1 hK1 => ?_
  refine SX.region_d [some 0] rfl (fun ops hops => ?_)
  unfold Dsts at hops
  simp (maxSteps:=1000000)(dsimp:=false)(disch:=omega) only [go_sem, Φa, hP, hops]
  refine hK1 _ _ ?_
  try clear hK1 K1
  refine SX.seq_k fun K2 hK2 => ?_
  refine SX.region_d [some 8, some 1] rfl (fun ops hops => ?_)
  unfold Dsts at hops
  simp (maxSteps:=1000000)(dsimp:=false)(disch:=omega) only [go_sem, Φa, hP, hops]
  intro g1
  try with_reducible refine stI ?_
  try simp (maxSteps:=1000000)(dsimp:=false)(disch:=omega) only [go_sem, Φa, hP, hops]
  rw [show zerosV [.int .u8 0, .int .u16 0, .int .u8 0, .bool false, .bool false, .int .u8 0, .bool false, .int .u8 0] 3668 = (List.replicate 3668 (default : Rc)).flatMap Rc.cells from zerosV_flat Rc.cells default 3668]
  try with_reducible refine stI ?_
  try simp (maxSteps:=1000000)(dsimp:=false)(disch:=omega) only [go_sem, Φa, hP, hops]
  refine hK2 _ _ ?_
  try clear hK2 K2
  refine SX.seq_k fun K3 hK3 => ?_
  have hO1 := ofP_one
  have hO2 := ofP_short
  have hZl : (List.replicate 3668 (default : Rc)).length = 3668 := List.length_replicate ..
  rw [show List.replicate 3667 (default : Rc) = (List.replicate 3668 default).take 3667 by rw [List.take_replicate]; rfl] at hO2
  generalize List.replicate 3668 (default : Rc) = Z at hO1 hO2 hZl ⊢
  generalize List.replicate 128 ([] : List Int) = R at hO1
  have hS1 : SlC (Cell Γ (some (g1, .cells (Z.flatMap Rc.cells).toArray 29 (0, 0)) :: L)) (.slice (some ⟨g1, 0, none⟩) 3668 3668) Z := zSl hZl (by decide)
  refine SX.region_d [some 10, some 11, some 12, some 9, some 13, some 14, some 2, some 3] rfl (fun ops hops => ?_)
  unfold Dsts at hops
  simp (maxSteps:=1000000)(dsimp:=false)(disch:=omega) only [go_sem, Φa, hP, hops]
  refine SCall.mono (Of_spec (x := pos 0) (l := Z) hP hS1 (by rw [hZl]; decide) S) ?_
  rintro v_ L_ ⟨vo1, so1, fs1, rfl, rfl, hrow1, hfs1, hmap1⟩
  rw [hO1] at hmap1 ⊢
  obtain ⟨⟨f1, d1⟩, rfl, hp1⟩ := map_one hmap1
  dsimp only at hp1
  subst hp1
  obtain ⟨gA, capA, junkA, rfl, rfl, hcA, _⟩ := RowL.form hrow1 (by simp)
  try with_reducible refine stI ?_
  try simp (maxSteps:=1000000)(dsimp:=false)(disch:=omega) only [go_sem, Φa, hP, hops]
  refine hK3 _ _ ?_
  try clear hK3 K3
  refine SX.live [1, 2, 3] (fun T1 hT1 => ?_)
  simp only [forall_mem_cons', forall_mem_nil', go_sem, Φa, hP] at hT1
  obtain ⟨h1_1, h1_2, h1_3⟩ := hT1
  refine SX.seq_k fun K4 hK4 => ?_
  have hS2 : SlC (Cell Γ (some (gA, .cells ([((⟨0, R, true⟩ : Fm), d1)].flatMap fval ++ junkA).toArray 41 (0, 0)) :: (segs [((⟨0, R, true⟩ : Fm), d1)] ++ (some (g1, .cells (Z.flatMap Rc.cells).toArray 29 (0, 0)) :: L)))) (.slice (some ⟨g1, 0, none⟩) 3667 3668) (Z.take 3667) := Sl.take (SlC.mono (fun a v h => Cell.cons _ (Cell.app _ h)) hS1) (by decide)
  refine SX.region_d [some 16, some 17, some 18, some 19, some 15, some 20, some 21, some 4, some 5] rfl (fun ops hops => ?_)
  unfold Dsts at hops
  simp (maxSteps:=1000000)(dsimp:=false)(disch:=omega) only [go_sem, Φa, hP, h1_1, h1_2, h1_3, hops, cutA0, Nat.sub_zero]
  refine SCall.mono (Of_spec (x := pos 0) (l := Z.take 3667) hP hS2 (by rw [List.length_take, hZl]; decide) S) ?_
  rintro v_ L_ ⟨vo2, so2, fs2, rfl, rfl, hrow2, hfs2, hmap2⟩
  rw [hO2] at hmap2 ⊢
  obtain rfl := List.map_eq_nil_iff.1 hmap2
  obtain ⟨A2, c2, rfl, hc2, _⟩ := Row.form hrow2
  simp only [segs, List.nil_append]
  try with_reducible refine stI ?_
  try simp (maxSteps:=1000000)(dsimp:=false)(disch:=omega) only [go_sem, Φa, hP, h1_1, h1_2, h1_3, hops, cutA0, Nat.sub_zero]
  refine hK4 _ _ ?_
  try clear hK4 K4
  refine SX.live [2, 3, 4, 5] (fun T2 hT2 => ?_)
  simp only [forall_mem_cons', forall_mem_nil', go_sem, Φa, hP, h1_1, h1_2, h1_3] at hT2
  obtain ⟨h2_2, h2_3, h2_4, h2_5⟩ := hT2
  clear h1_1 h1_2 h1_3 T1
  refine SX.seq_k fun K5 hK5 => ?_
  refine SX.region_d [some 23, some 24, some 25, some 22, some 26, some 27, some 6, some 7] rfl (fun ops hops => ?_)
  unfold Dsts at hops
  simp (maxSteps:=1000000)(dsimp:=false)(disch:=omega) only [go_sem, Φa, hP, h2_2, h2_3, h2_4, h2_5, hops]
  intro g4
  try with_reducible refine stI ?_
  try simp (maxSteps:=1000000)(dsimp:=false)(disch:=omega) only [go_sem, Φa, hP, h2_2, h2_3, h2_4, h2_5, hops]
  refine SCall.mono (empty_spec hP) ?_
  rintro v_ L_ ⟨g5, rfl, rfl⟩
  try with_reducible refine stI ?_
  try simp (maxSteps:=1000000)(dsimp:=false)(disch:=omega) only [go_sem, Φa, hP, h2_2, h2_3, h2_4, h2_5, hops]
  refine SCall.mono (Show_spec (f := oneF) hP (oneF_sl (g := g5) (h := g4) (c := 1) (List.mem_cons_self ..) (List.mem_cons_of_mem _ (List.mem_cons_self ..)) (Nat.le_refl _)) (by rw [oneF_cnt]; decide) (by decide +kernel) oneF_by) ?_
  rintro v_ L_ ⟨rfl, rfl⟩
  rw [oneF_show]
  try with_reducible refine stI ?_
  try simp (maxSteps:=1000000)(dsimp:=false)(disch:=omega) only [go_sem, Φa, hP, h2_2, h2_3, h2_4, h2_5, hops]
  refine hK5 _ _ ?_
  try clear hK5 K5
  refine SX.seq_k fun K6 hK6 => ?_
  refine SX.region_xd [some 28, some 29, some 30, some 31, some 32, some 33, some 34, some 35, some 36, some 37, some 38, some 39, some 40, some 41, some 42, some 43, some 44, some 45, some 46, some 47, some 48, some 49, some 50, some 51, some 52, some 53, some 54, some 55, some 56, some 57, some 58, some 59, some 60, some 61, some 62, some 63, some 64, some 65, some 66, some 67, some 68, some 69, some 70, some 71, some 0] rfl (fun ops hops => ?_)
  unfold Dsts at hops
  refine RX.live [2, 3, 4, 5, 6, 7] (fun T3 hT3 => ?_)
  simp only [forall_mem_cons', forall_mem_nil', go_sem, Φa, hP, h2_2, h2_3, h2_4, h2_5] at hT3
  obtain ⟨h3_2, h3_3, h3_4, h3_5, h3_6, h3_7⟩ := hT3
  clear h2_2 h2_3 h2_4 h2_5 T2
  have hs1 := oneF_len
  have hs2 := oneF_head
  refine RX.join 7 (fun (ss : Unit) T L' => T 34 = .bool (true) ∧ T 2 = T3 2 ∧ T 4 = T3 4 ∧ T 5 = T3 5 ∧ T 6 = T3 6 ∧ T 7 = T3 7 ∧ L' = some (g5, .cells ((List.replicate 128 (.slice none 0 0)).set 0 (.slice (some ⟨g4, 0, none⟩) 1 1)).toArray 50 (0, 0)) :: some (g4, .cells [.int .u8 129].toArray 5 (0, 0)) :: so2 :: some (gA, .cells ([((⟨0, R, true⟩ : Fm), d1)].flatMap fval ++ junkA).toArray 41 (0, 0)) :: (segs [((⟨0, R, true⟩ : Fm), d1)] ++ (some (g1, .cells (Z.flatMap Rc.cells).toArray 29 (0, 0)) :: L)) ∧ (True)) (fun K7 hK7 => ?_) ?_
  · simp only [h3_2, h3_4, h3_5, h3_6, h3_7] at hK7
    simp (maxSteps:=1000000)(dsimp:=false)(disch:=omega) only [go_sem, Φa, hP, h3_2, h3_3, h3_4, h3_5, h3_6, h3_7, hops, hs1, hs2]
    repeat' (first | refine iteB (fun hg => ?_) (fun hg => ?_) | refine iteI (fun hg => ?_) (fun hg => ?_) | ((first | refine ⟨_, Cell.at 3 rfl rfl, ?_⟩ | refine And.intro (by omega) ?_ | refine ⟨_, Cell.at 0 rfl rfl, ?_⟩ | refine ⟨_, Cell.at 1 rfl rfl, ?_⟩ | refine ⟨_, Cell.at 2 rfl rfl, ?_⟩ | refine ⟨_, Cell.at 3 rfl rfl, ?_⟩ | refine ⟨_, Cell.at 4 rfl rfl, ?_⟩ | fail); try (with_reducible refine stI ?_); try simp (maxSteps:=1000000)(dsimp:=false)(disch:=omega) only [go_sem, Φa, hP, h3_2, h3_3, h3_4, h3_5, h3_6, h3_7, hops, hs1, hs2]) | fail)
    all_goals
      refine hK7 () _ (some (g5, .cells ((List.replicate 128 (.slice none 0 0)).set 0 (.slice (some ⟨g4, 0, none⟩) 1 1)).toArray 50 (0, 0)) :: some (g4, .cells [.int .u8 129].toArray 5 (0, 0)) :: so2 :: some (gA, .cells ([((⟨0, R, true⟩ : Fm), d1)].flatMap fval ++ junkA).toArray 41 (0, 0)) :: (segs [((⟨0, R, true⟩ : Fm), d1)] ++ (some (g1, .cells (Z.flatMap Rc.cells).toArray 29 (0, 0)) :: L))) _ (by first | exact Less.refl _ | exact Less.drop _ _ | exact Less.drops (Less.drop _ _) | exact Less.drops (Less.drops (Less.drop _ _)) | exact Less.drops (Less.drops (Less.drops (Less.drop _ _))) | exact Less.drops (Less.drops (Less.drops (Less.drops (Less.drop _ _))))) ?_
      try dsimp only
      refine ⟨?_, ?_, ?_, ?_, ?_, ?_, ?_, ?_⟩
      · simp (maxSteps:=1000000)(dsimp:=false)(disch:=omega) only [go_sem, Φa, hP, h3_2, h3_3, h3_4, h3_5, h3_6, h3_7]
        first | done | rfl
      · simp (maxSteps:=1000000)(dsimp:=false)(disch:=omega) only [go_sem, Φa, hP, h3_2, h3_3, h3_4, h3_5, h3_6, h3_7]
      · simp (maxSteps:=1000000)(dsimp:=false)(disch:=omega) only [go_sem, Φa, hP, h3_2, h3_3, h3_4, h3_5, h3_6, h3_7]
      · simp (maxSteps:=1000000)(dsimp:=false)(disch:=omega) only [go_sem, Φa, hP, h3_2, h3_3, h3_4, h3_5, h3_6, h3_7]
      · simp (maxSteps:=1000000)(dsimp:=false)(disch:=omega) only [go_sem, Φa, hP, h3_2, h3_3, h3_4, h3_5, h3_6, h3_7]
      · simp (maxSteps:=1000000)(dsimp:=false)(disch:=omega) only [go_sem, Φa, hP, h3_2, h3_3, h3_4, h3_5, h3_6, h3_7]
      · rfl
      · trivial
  · intro ss T4 L4 hI
    simp only [h3_2, h3_4, h3_5, h3_6, h3_7] at hI 
    obtain ⟨h4_34, h4_2, h4_4, h4_5, h4_6, h4_7, hL4, hinv⟩ := hI
    replace hL4 := hL4.symm
    subst hL4
    clear h3_2 h3_3 h3_4 h3_5 h3_6 h3_7 T3
    refine RX.live [2, 4, 5, 6, 7, 34] (fun T5 hT5 => ?_)
    simp only [forall_mem_cons', forall_mem_nil', go_sem, Φa, hP, h4_34, h4_2, h4_4, h4_5, h4_6, h4_7] at hT5
    obtain ⟨h5_2, h5_4, h5_5, h5_6, h5_7, h5_34⟩ := hT5
    clear h4_34 h4_2 h4_4 h4_5 h4_6 h4_7 T4
    refine RX.join 6 (fun (ss : Unit) T L' => T 40 = .bool (true) ∧ T 2 = T5 2 ∧ T 4 = T5 4 ∧ T 5 = T5 5 ∧ T 6 = T5 6 ∧ T 7 = T5 7 ∧ L' = some (g5, .cells ((List.replicate 128 (.slice none 0 0)).set 0 (.slice (some ⟨g4, 0, none⟩) 1 1)).toArray 50 (0, 0)) :: some (g4, .cells [.int .u8 129].toArray 5 (0, 0)) :: so2 :: some (gA, .cells ([((⟨0, R, true⟩ : Fm), d1)].flatMap fval ++ junkA).toArray 41 (0, 0)) :: (segs [((⟨0, R, true⟩ : Fm), d1)] ++ (some (g1, .cells (Z.flatMap Rc.cells).toArray 29 (0, 0)) :: L)) ∧ (True)) (fun K8 hK8 => ?_) ?_
    · simp only [h5_2, h5_4, h5_5, h5_6, h5_7] at hK8
      simp (maxSteps:=1000000)(dsimp:=false)(disch:=omega) only [go_sem, Φa, hP, h5_2, h5_4, h5_5, h5_6, h5_7, h5_34, hops, hs1, hs2]
      repeat' (first | refine iteB (fun hg => ?_) (fun hg => ?_) | refine iteI (fun hg => ?_) (fun hg => ?_) | ((first | refine ⟨_, Cell.at 3 rfl rfl, ?_⟩ | refine And.intro (by omega) ?_ | refine ⟨_, Cell.at 0 rfl rfl, ?_⟩ | refine ⟨_, Cell.at 1 rfl rfl, ?_⟩ | refine ⟨_, Cell.at 2 rfl rfl, ?_⟩ | refine ⟨_, Cell.at 3 rfl rfl, ?_⟩ | refine ⟨_, Cell.at 4 rfl rfl, ?_⟩ | fail); try (with_reducible refine stI ?_); try simp (maxSteps:=1000000)(dsimp:=false)(disch:=omega) only [go_sem, Φa, hP, h5_2, h5_4, h5_5, h5_6, h5_7, h5_34, hops, hs1, hs2]) | fail)
      all_goals
        refine hK8 () _ (some (g5, .cells ((List.replicate 128 (.slice none 0 0)).set 0 (.slice (some ⟨g4, 0, none⟩) 1 1)).toArray 50 (0, 0)) :: some (g4, .cells [.int .u8 129].toArray 5 (0, 0)) :: so2 :: some (gA, .cells ([((⟨0, R, true⟩ : Fm), d1)].flatMap fval ++ junkA).toArray 41 (0, 0)) :: (segs [((⟨0, R, true⟩ : Fm), d1)] ++ (some (g1, .cells (Z.flatMap Rc.cells).toArray 29 (0, 0)) :: L))) _ (by first | exact Less.refl _ | exact Less.drop _ _ | exact Less.drops (Less.drop _ _) | exact Less.drops (Less.drops (Less.drop _ _)) | exact Less.drops (Less.drops (Less.drops (Less.drop _ _))) | exact Less.drops (Less.drops (Less.drops (Less.drops (Less.drop _ _))))) ?_
        try dsimp only
        refine ⟨?_, ?_, ?_, ?_, ?_, ?_, ?_, ?_⟩
        · simp (maxSteps:=1000000)(dsimp:=false)(disch:=omega) only [go_sem, Φa, hP, h5_2, h5_4, h5_5, h5_6, h5_7, h5_34]
          first | done | rfl
        · simp (maxSteps:=1000000)(dsimp:=false)(disch:=omega) only [go_sem, Φa, hP, h5_2, h5_4, h5_5, h5_6, h5_7, h5_34]
        · simp (maxSteps:=1000000)(dsimp:=false)(disch:=omega) only [go_sem, Φa, hP, h5_2, h5_4, h5_5, h5_6, h5_7, h5_34]
        · simp (maxSteps:=1000000)(dsimp:=false)(disch:=omega) only [go_sem, Φa, hP, h5_2, h5_4, h5_5, h5_6, h5_7, h5_34]
        · simp (maxSteps:=1000000)(dsimp:=false)(disch:=omega) only [go_sem, Φa, hP, h5_2, h5_4, h5_5, h5_6, h5_7, h5_34]
        · simp (maxSteps:=1000000)(dsimp:=false)(disch:=omega) only [go_sem, Φa, hP, h5_2, h5_4, h5_5, h5_6, h5_7, h5_34]
        · rfl
        · trivial
    · intro ss T6 L6 hI
      simp only [h5_2, h5_4, h5_5, h5_6, h5_7] at hI 
      obtain ⟨h6_40, h6_2, h6_4, h6_5, h6_6, h6_7, hL6, hinv⟩ := hI
      replace hL6 := hL6.symm
      subst hL6
      clear h5_2 h5_4 h5_5 h5_6 h5_7 h5_34 T5
      refine RX.live [2, 4, 5, 6, 7, 40] (fun T7 hT7 => ?_)
      simp only [forall_mem_cons', forall_mem_nil', go_sem, Φa, hP, h6_40, h6_2, h6_4, h6_5, h6_6, h6_7] at hT7
      obtain ⟨h7_2, h7_4, h7_5, h7_6, h7_7, h7_40⟩ := hT7
      clear h6_40 h6_2 h6_4 h6_5 h6_6 h6_7 T6
      refine RX.join 8 (fun (ss : Unit) T L' => T 48 = .bool (true) ∧ T 4 = T7 4 ∧ T 5 = T7 5 ∧ T 6 = T7 6 ∧ T 7 = T7 7 ∧ L' = some (g5, .cells ((List.replicate 128 (.slice none 0 0)).set 0 (.slice (some ⟨g4, 0, none⟩) 1 1)).toArray 50 (0, 0)) :: some (g4, .cells [.int .u8 129].toArray 5 (0, 0)) :: so2 :: some (gA, .cells ([((⟨0, R, true⟩ : Fm), d1)].flatMap fval ++ junkA).toArray 41 (0, 0)) :: (segs [((⟨0, R, true⟩ : Fm), d1)] ++ (some (g1, .cells (Z.flatMap Rc.cells).toArray 29 (0, 0)) :: L)) ∧ (True)) (fun K9 hK9 => ?_) ?_
      · simp only [h7_4, h7_5, h7_6, h7_7] at hK9
        simp (maxSteps:=1000000)(dsimp:=false)(disch:=omega) only [go_sem, Φa, hP, h7_2, h7_4, h7_5, h7_6, h7_7, h7_40, hops, hs1, hs2]
        repeat' (first | refine iteB (fun hg => ?_) (fun hg => ?_) | refine iteI (fun hg => ?_) (fun hg => ?_) | ((first | refine ⟨_, Cell.at 3 rfl rfl, ?_⟩ | refine And.intro (by omega) ?_ | refine ⟨_, Cell.at 0 rfl rfl, ?_⟩ | refine ⟨_, Cell.at 1 rfl rfl, ?_⟩ | refine ⟨_, Cell.at 2 rfl rfl, ?_⟩ | refine ⟨_, Cell.at 3 rfl rfl, ?_⟩ | refine ⟨_, Cell.at 4 rfl rfl, ?_⟩ | fail); try (with_reducible refine stI ?_); try simp (maxSteps:=1000000)(dsimp:=false)(disch:=omega) only [go_sem, Φa, hP, h7_2, h7_4, h7_5, h7_6, h7_7, h7_40, hops, hs1, hs2]) | fail)
        all_goals
          refine hK9 () _ (some (g5, .cells ((List.replicate 128 (.slice none 0 0)).set 0 (.slice (some ⟨g4, 0, none⟩) 1 1)).toArray 50 (0, 0)) :: some (g4, .cells [.int .u8 129].toArray 5 (0, 0)) :: so2 :: some (gA, .cells ([((⟨0, R, true⟩ : Fm), d1)].flatMap fval ++ junkA).toArray 41 (0, 0)) :: (segs [((⟨0, R, true⟩ : Fm), d1)] ++ (some (g1, .cells (Z.flatMap Rc.cells).toArray 29 (0, 0)) :: L))) _ (by first | exact Less.refl _ | exact Less.drop _ _ | exact Less.drops (Less.drop _ _) | exact Less.drops (Less.drops (Less.drop _ _)) | exact Less.drops (Less.drops (Less.drops (Less.drop _ _))) | exact Less.drops (Less.drops (Less.drops (Less.drops (Less.drop _ _))))) ?_
          try dsimp only
          refine ⟨?_, ?_, ?_, ?_, ?_, ?_, ?_⟩
          · simp (maxSteps:=1000000)(dsimp:=false)(disch:=omega) only [go_sem, Φa, hP, h7_2, h7_4, h7_5, h7_6, h7_7, h7_40]
            first | done | rfl
          · simp (maxSteps:=1000000)(dsimp:=false)(disch:=omega) only [go_sem, Φa, hP, h7_2, h7_4, h7_5, h7_6, h7_7, h7_40]
          · simp (maxSteps:=1000000)(dsimp:=false)(disch:=omega) only [go_sem, Φa, hP, h7_2, h7_4, h7_5, h7_6, h7_7, h7_40]
          · simp (maxSteps:=1000000)(dsimp:=false)(disch:=omega) only [go_sem, Φa, hP, h7_2, h7_4, h7_5, h7_6, h7_7, h7_40]
          · simp (maxSteps:=1000000)(dsimp:=false)(disch:=omega) only [go_sem, Φa, hP, h7_2, h7_4, h7_5, h7_6, h7_7, h7_40]
          · rfl
          · trivial
      · intro ss T8 L8 hI
        simp only [h7_4, h7_5, h7_6, h7_7] at hI 
        obtain ⟨h8_48, h8_4, h8_5, h8_6, h8_7, hL8, hinv⟩ := hI
        replace hL8 := hL8.symm
        subst hL8
        clear h7_2 h7_4 h7_5 h7_6 h7_7 h7_40 T7
        refine RX.live [4, 5, 6, 7, 48] (fun T9 hT9 => ?_)
        simp only [forall_mem_cons', forall_mem_nil', go_sem, Φa, hP, h8_48, h8_4, h8_5, h8_6, h8_7] at hT9
        obtain ⟨h9_4, h9_5, h9_6, h9_7, h9_48⟩ := hT9
        clear h8_48 h8_4 h8_5 h8_6 h8_7 T8
        refine RX.join 4 (fun (ss : Unit) T L' => T 52 = .bool (true) ∧ T 4 = T9 4 ∧ T 6 = T9 6 ∧ T 7 = T9 7 ∧ L' = some (g5, .cells ((List.replicate 128 (.slice none 0 0)).set 0 (.slice (some ⟨g4, 0, none⟩) 1 1)).toArray 50 (0, 0)) :: some (g4, .cells [.int .u8 129].toArray 5 (0, 0)) :: so2 :: some (gA, .cells ([((⟨0, R, true⟩ : Fm), d1)].flatMap fval ++ junkA).toArray 41 (0, 0)) :: (segs [((⟨0, R, true⟩ : Fm), d1)] ++ (some (g1, .cells (Z.flatMap Rc.cells).toArray 29 (0, 0)) :: L)) ∧ (True)) (fun K10 hK10 => ?_) ?_
        · simp only [h9_4, h9_6, h9_7] at hK10
          simp (maxSteps:=1000000)(dsimp:=false)(disch:=omega) only [go_sem, Φa, hP, h9_4, h9_5, h9_6, h9_7, h9_48, hops, hs1, hs2]
          repeat' (first | refine iteB (fun hg => ?_) (fun hg => ?_) | refine iteI (fun hg => ?_) (fun hg => ?_) | ((first | refine ⟨_, Cell.at 3 rfl rfl, ?_⟩ | refine And.intro (by omega) ?_ | refine ⟨_, Cell.at 0 rfl rfl, ?_⟩ | refine ⟨_, Cell.at 1 rfl rfl, ?_⟩ | refine ⟨_, Cell.at 2 rfl rfl, ?_⟩ | refine ⟨_, Cell.at 3 rfl rfl, ?_⟩ | refine ⟨_, Cell.at 4 rfl rfl, ?_⟩ | fail); try (with_reducible refine stI ?_); try simp (maxSteps:=1000000)(dsimp:=false)(disch:=omega) only [go_sem, Φa, hP, h9_4, h9_5, h9_6, h9_7, h9_48, hops, hs1, hs2]) | fail)
          all_goals
            refine hK10 () _ (some (g5, .cells ((List.replicate 128 (.slice none 0 0)).set 0 (.slice (some ⟨g4, 0, none⟩) 1 1)).toArray 50 (0, 0)) :: some (g4, .cells [.int .u8 129].toArray 5 (0, 0)) :: so2 :: some (gA, .cells ([((⟨0, R, true⟩ : Fm), d1)].flatMap fval ++ junkA).toArray 41 (0, 0)) :: (segs [((⟨0, R, true⟩ : Fm), d1)] ++ (some (g1, .cells (Z.flatMap Rc.cells).toArray 29 (0, 0)) :: L))) _ (by first | exact Less.refl _ | exact Less.drop _ _ | exact Less.drops (Less.drop _ _) | exact Less.drops (Less.drops (Less.drop _ _)) | exact Less.drops (Less.drops (Less.drops (Less.drop _ _))) | exact Less.drops (Less.drops (Less.drops (Less.drops (Less.drop _ _))))) ?_
            try dsimp only
            refine ⟨?_, ?_, ?_, ?_, ?_, ?_⟩
            · simp (maxSteps:=1000000)(dsimp:=false)(disch:=omega) only [go_sem, Φa, hP, h9_4, h9_5, h9_6, h9_7, h9_48]
              first | done | rfl
            · simp (maxSteps:=1000000)(dsimp:=false)(disch:=omega) only [go_sem, Φa, hP, h9_4, h9_5, h9_6, h9_7, h9_48]
            · simp (maxSteps:=1000000)(dsimp:=false)(disch:=omega) only [go_sem, Φa, hP, h9_4, h9_5, h9_6, h9_7, h9_48]
            · simp (maxSteps:=1000000)(dsimp:=false)(disch:=omega) only [go_sem, Φa, hP, h9_4, h9_5, h9_6, h9_7, h9_48]
            · rfl
            · trivial
        · intro ss T10 L10 hI
          simp only [h9_4, h9_6, h9_7] at hI 
          obtain ⟨h10_52, h10_4, h10_6, h10_7, hL10, hinv⟩ := hI
          replace hL10 := hL10.symm
          subst hL10
          clear h9_4 h9_5 h9_6 h9_7 h9_48 T9
          refine RX.live [4, 6, 7, 52] (fun T11 hT11 => ?_)
          simp only [forall_mem_cons', forall_mem_nil', go_sem, Φa, hP, h10_52, h10_4, h10_6, h10_7] at hT11
          obtain ⟨h11_4, h11_6, h11_7, h11_52⟩ := hT11
          clear h10_52 h10_4 h10_6 h10_7 T10
          refine RX.join 5 (fun (ss : Unit) T L' => T 57 = .bool (true) ∧ T 6 = T11 6 ∧ T 7 = T11 7 ∧ L' = some (g5, .cells ((List.replicate 128 (.slice none 0 0)).set 0 (.slice (some ⟨g4, 0, none⟩) 1 1)).toArray 50 (0, 0)) :: some (g4, .cells [.int .u8 129].toArray 5 (0, 0)) :: so2 :: some (gA, .cells ([((⟨0, R, true⟩ : Fm), d1)].flatMap fval ++ junkA).toArray 41 (0, 0)) :: (segs [((⟨0, R, true⟩ : Fm), d1)] ++ (some (g1, .cells (Z.flatMap Rc.cells).toArray 29 (0, 0)) :: L)) ∧ (True)) (fun K11 hK11 => ?_) ?_
          · simp only [h11_6, h11_7] at hK11
            simp (maxSteps:=1000000)(dsimp:=false)(disch:=omega) only [go_sem, Φa, hP, h11_4, h11_6, h11_7, h11_52, hops, hs1, hs2]
            repeat' (first | refine iteB (fun hg => ?_) (fun hg => ?_) | refine iteI (fun hg => ?_) (fun hg => ?_) | ((first | refine ⟨_, Cell.at 3 rfl rfl, ?_⟩ | refine And.intro (by omega) ?_ | refine ⟨_, Cell.at 0 rfl rfl, ?_⟩ | refine ⟨_, Cell.at 1 rfl rfl, ?_⟩ | refine ⟨_, Cell.at 2 rfl rfl, ?_⟩ | refine ⟨_, Cell.at 3 rfl rfl, ?_⟩ | refine ⟨_, Cell.at 4 rfl rfl, ?_⟩ | fail); try (with_reducible refine stI ?_); try simp (maxSteps:=1000000)(dsimp:=false)(disch:=omega) only [go_sem, Φa, hP, h11_4, h11_6, h11_7, h11_52, hops, hs1, hs2]) | fail)
            all_goals
              refine hK11 () _ (some (g5, .cells ((List.replicate 128 (.slice none 0 0)).set 0 (.slice (some ⟨g4, 0, none⟩) 1 1)).toArray 50 (0, 0)) :: some (g4, .cells [.int .u8 129].toArray 5 (0, 0)) :: so2 :: some (gA, .cells ([((⟨0, R, true⟩ : Fm), d1)].flatMap fval ++ junkA).toArray 41 (0, 0)) :: (segs [((⟨0, R, true⟩ : Fm), d1)] ++ (some (g1, .cells (Z.flatMap Rc.cells).toArray 29 (0, 0)) :: L))) _ (by first | exact Less.refl _ | exact Less.drop _ _ | exact Less.drops (Less.drop _ _) | exact Less.drops (Less.drops (Less.drop _ _)) | exact Less.drops (Less.drops (Less.drops (Less.drop _ _))) | exact Less.drops (Less.drops (Less.drops (Less.drops (Less.drop _ _))))) ?_
              try dsimp only
              refine ⟨?_, ?_, ?_, ?_, ?_⟩
              · simp (maxSteps:=1000000)(dsimp:=false)(disch:=omega) only [go_sem, Φa, hP, h11_4, h11_6, h11_7, h11_52]
                first | done | rfl
              · simp (maxSteps:=1000000)(dsimp:=false)(disch:=omega) only [go_sem, Φa, hP, h11_4, h11_6, h11_7, h11_52]
              · simp (maxSteps:=1000000)(dsimp:=false)(disch:=omega) only [go_sem, Φa, hP, h11_4, h11_6, h11_7, h11_52]
              · rfl
              · trivial
          · intro ss T12 L12 hI
            simp only [h11_6, h11_7] at hI 
            obtain ⟨h12_57, h12_6, h12_7, hL12, hinv⟩ := hI
            replace hL12 := hL12.symm
            subst hL12
            clear h11_4 h11_6 h11_7 h11_52 T11
            refine RX.live [6, 7, 57] (fun T13 hT13 => ?_)
            simp only [forall_mem_cons', forall_mem_nil', go_sem, Φa, hP, h12_57, h12_6, h12_7] at hT13
            obtain ⟨h13_6, h13_7, h13_57⟩ := hT13
            clear h12_57 h12_6 h12_7 T12
            refine RX.join 4 (fun (ss : Unit) T L' => T 61 = .bool (true) ∧ T 6 = T13 6 ∧ L' = some (g5, .cells ((List.replicate 128 (.slice none 0 0)).set 0 (.slice (some ⟨g4, 0, none⟩) 1 1)).toArray 50 (0, 0)) :: some (g4, .cells [.int .u8 129].toArray 5 (0, 0)) :: so2 :: some (gA, .cells ([((⟨0, R, true⟩ : Fm), d1)].flatMap fval ++ junkA).toArray 41 (0, 0)) :: (segs [((⟨0, R, true⟩ : Fm), d1)] ++ (some (g1, .cells (Z.flatMap Rc.cells).toArray 29 (0, 0)) :: L)) ∧ (True)) (fun K12 hK12 => ?_) ?_
            · simp only [h13_6] at hK12
              simp (maxSteps:=1000000)(dsimp:=false)(disch:=omega) only [go_sem, Φa, hP, h13_6, h13_7, h13_57, hops, hs1, hs2]
              repeat' (first | refine iteB (fun hg => ?_) (fun hg => ?_) | refine iteI (fun hg => ?_) (fun hg => ?_) | ((first | refine ⟨_, Cell.at 3 rfl rfl, ?_⟩ | refine And.intro (by omega) ?_ | refine ⟨_, Cell.at 0 rfl rfl, ?_⟩ | refine ⟨_, Cell.at 1 rfl rfl, ?_⟩ | refine ⟨_, Cell.at 2 rfl rfl, ?_⟩ | refine ⟨_, Cell.at 3 rfl rfl, ?_⟩ | refine ⟨_, Cell.at 4 rfl rfl, ?_⟩ | fail); try (with_reducible refine stI ?_); try simp (maxSteps:=1000000)(dsimp:=false)(disch:=omega) only [go_sem, Φa, hP, h13_6, h13_7, h13_57, hops, hs1, hs2]) | fail)
              all_goals
                refine hK12 () _ (some (g5, .cells ((List.replicate 128 (.slice none 0 0)).set 0 (.slice (some ⟨g4, 0, none⟩) 1 1)).toArray 50 (0, 0)) :: some (g4, .cells [.int .u8 129].toArray 5 (0, 0)) :: so2 :: some (gA, .cells ([((⟨0, R, true⟩ : Fm), d1)].flatMap fval ++ junkA).toArray 41 (0, 0)) :: (segs [((⟨0, R, true⟩ : Fm), d1)] ++ (some (g1, .cells (Z.flatMap Rc.cells).toArray 29 (0, 0)) :: L))) _ (by first | exact Less.refl _ | exact Less.drop _ _ | exact Less.drops (Less.drop _ _) | exact Less.drops (Less.drops (Less.drop _ _)) | exact Less.drops (Less.drops (Less.drops (Less.drop _ _))) | exact Less.drops (Less.drops (Less.drops (Less.drops (Less.drop _ _))))) ?_
                try dsimp only
                refine ⟨?_, ?_, ?_, ?_⟩
                · simp (maxSteps:=1000000)(dsimp:=false)(disch:=omega) only [go_sem, Φa, hP, h13_6, h13_7, h13_57]
                  first | done | rfl
                · simp (maxSteps:=1000000)(dsimp:=false)(disch:=omega) only [go_sem, Φa, hP, h13_6, h13_7, h13_57]
                · rfl
                · trivial
            · intro ss T14 L14 hI
              simp only [h13_6] at hI 
              obtain ⟨h14_61, h14_6, hL14, hinv⟩ := hI
              replace hL14 := hL14.symm
              subst hL14
              clear h13_6 h13_7 h13_57 T13
              refine RX.live [6, 61] (fun T15 hT15 => ?_)
              simp only [forall_mem_cons', forall_mem_nil', go_sem, Φa, hP, h14_61, h14_6] at hT15
              obtain ⟨h15_6, h15_61⟩ := hT15
              clear h14_61 h14_6 T14
              refine RX.join 5 (fun (ss : Unit) T L' => T 66 = .bool (true) ∧ T 6 = T15 6 ∧ L' = some (g5, .cells ((List.replicate 128 (.slice none 0 0)).set 0 (.slice (some ⟨g4, 0, none⟩) 1 1)).toArray 50 (0, 0)) :: some (g4, .cells [.int .u8 129].toArray 5 (0, 0)) :: so2 :: some (gA, .cells ([((⟨0, R, true⟩ : Fm), d1)].flatMap fval ++ junkA).toArray 41 (0, 0)) :: (segs [((⟨0, R, true⟩ : Fm), d1)] ++ (some (g1, .cells (Z.flatMap Rc.cells).toArray 29 (0, 0)) :: L)) ∧ (True)) (fun K13 hK13 => ?_) ?_
              · simp only [h15_6] at hK13
                simp (maxSteps:=1000000)(dsimp:=false)(disch:=omega) only [go_sem, Φa, hP, h15_6, h15_61, hops, hs1, hs2]
                repeat' (first | refine iteB (fun hg => ?_) (fun hg => ?_) | refine iteI (fun hg => ?_) (fun hg => ?_) | ((first | refine ⟨_, Cell.at 3 rfl rfl, ?_⟩ | refine And.intro (by omega) ?_ | refine ⟨_, Cell.at 0 rfl rfl, ?_⟩ | refine ⟨_, Cell.at 1 rfl rfl, ?_⟩ | refine ⟨_, Cell.at 2 rfl rfl, ?_⟩ | refine ⟨_, Cell.at 3 rfl rfl, ?_⟩ | refine ⟨_, Cell.at 4 rfl rfl, ?_⟩ | fail); try (with_reducible refine stI ?_); try simp (maxSteps:=1000000)(dsimp:=false)(disch:=omega) only [go_sem, Φa, hP, h15_6, h15_61, hops, hs1, hs2]) | fail)
                all_goals
                  refine hK13 () _ (some (g5, .cells ((List.replicate 128 (.slice none 0 0)).set 0 (.slice (some ⟨g4, 0, none⟩) 1 1)).toArray 50 (0, 0)) :: some (g4, .cells [.int .u8 129].toArray 5 (0, 0)) :: so2 :: some (gA, .cells ([((⟨0, R, true⟩ : Fm), d1)].flatMap fval ++ junkA).toArray 41 (0, 0)) :: (segs [((⟨0, R, true⟩ : Fm), d1)] ++ (some (g1, .cells (Z.flatMap Rc.cells).toArray 29 (0, 0)) :: L))) _ (by first | exact Less.refl _ | exact Less.drop _ _ | exact Less.drops (Less.drop _ _) | exact Less.drops (Less.drops (Less.drop _ _)) | exact Less.drops (Less.drops (Less.drops (Less.drop _ _))) | exact Less.drops (Less.drops (Less.drops (Less.drops (Less.drop _ _))))) ?_
                  try dsimp only
                  refine ⟨?_, ?_, ?_, ?_⟩
                  · simp (maxSteps:=1000000)(dsimp:=false)(disch:=omega) only [go_sem, Φa, hP, h15_6, h15_61]
                    first | done | rfl
                  · simp (maxSteps:=1000000)(dsimp:=false)(disch:=omega) only [go_sem, Φa, hP, h15_6, h15_61]
                  · rfl
                  · trivial
              · intro ss T16 L16 hI
                simp only [h15_6] at hI 
                obtain ⟨h16_66, h16_6, hL16, hinv⟩ := hI
                replace hL16 := hL16.symm
                subst hL16
                clear h15_6 h15_61 T15
                refine RX.live [6, 66] (fun T17 hT17 => ?_)
                simp only [forall_mem_cons', forall_mem_nil', go_sem, Φa, hP, h16_66, h16_6] at hT17
                obtain ⟨h17_6, h17_66⟩ := hT17
                clear h16_66 h16_6 T16
                refine RX.join 5 (fun (ss : Unit) T L' => T 71 = .bool (true) ∧ L' = some (g5, .cells ((List.replicate 128 (.slice none 0 0)).set 0 (.slice (some ⟨g4, 0, none⟩) 1 1)).toArray 50 (0, 0)) :: some (g4, .cells [.int .u8 129].toArray 5 (0, 0)) :: so2 :: some (gA, .cells ([((⟨0, R, true⟩ : Fm), d1)].flatMap fval ++ junkA).toArray 41 (0, 0)) :: (segs [((⟨0, R, true⟩ : Fm), d1)] ++ (some (g1, .cells (Z.flatMap Rc.cells).toArray 29 (0, 0)) :: L)) ∧ (True)) (fun K14 hK14 => ?_) ?_
                · simp (maxSteps:=1000000)(dsimp:=false)(disch:=omega) only [go_sem, Φa, hP, h17_6, h17_66, hops, hs1, hs2]
                  repeat' (first | refine iteB (fun hg => ?_) (fun hg => ?_) | refine iteI (fun hg => ?_) (fun hg => ?_) | ((first | refine ⟨_, Cell.at 3 rfl rfl, ?_⟩ | refine And.intro (by omega) ?_ | refine ⟨_, Cell.at 0 rfl rfl, ?_⟩ | refine ⟨_, Cell.at 1 rfl rfl, ?_⟩ | refine ⟨_, Cell.at 2 rfl rfl, ?_⟩ | refine ⟨_, Cell.at 3 rfl rfl, ?_⟩ | refine ⟨_, Cell.at 4 rfl rfl, ?_⟩ | fail); try (with_reducible refine stI ?_); try simp (maxSteps:=1000000)(dsimp:=false)(disch:=omega) only [go_sem, Φa, hP, h17_6, h17_66, hops, hs1, hs2]) | fail)
                  all_goals
                    refine hK14 () _ (some (g5, .cells ((List.replicate 128 (.slice none 0 0)).set 0 (.slice (some ⟨g4, 0, none⟩) 1 1)).toArray 50 (0, 0)) :: some (g4, .cells [.int .u8 129].toArray 5 (0, 0)) :: so2 :: some (gA, .cells ([((⟨0, R, true⟩ : Fm), d1)].flatMap fval ++ junkA).toArray 41 (0, 0)) :: (segs [((⟨0, R, true⟩ : Fm), d1)] ++ (some (g1, .cells (Z.flatMap Rc.cells).toArray 29 (0, 0)) :: L))) _ (by first | exact Less.refl _ | exact Less.drop _ _ | exact Less.drops (Less.drop _ _) | exact Less.drops (Less.drops (Less.drop _ _)) | exact Less.drops (Less.drops (Less.drops (Less.drop _ _))) | exact Less.drops (Less.drops (Less.drops (Less.drops (Less.drop _ _))))) ?_
                    try dsimp only
                    refine ⟨?_, ?_, ?_⟩
                    · simp (maxSteps:=1000000)(dsimp:=false)(disch:=omega) only [go_sem, Φa, hP, h17_6, h17_66]
                      first | done | rfl
                    · rfl
                    · trivial
                · intro ss T18 L18 hI
                  obtain ⟨h18_71, hL18, hinv⟩ := hI
                  replace hL18 := hL18.symm
                  subst hL18
                  clear h17_6 h17_66 T17
                  refine RX.done ?_
                  simp (maxSteps:=1000000)(dsimp:=false)(disch:=omega) only [go_sem, Φa, hP, h18_71, hops]
                  refine hK6 _ _ ?_
                  try clear hK6 K6
                  refine SX.ret ?_
                  simp only [andThen_normal, andThen_ret, andThen_exit, inBlk_normal, inBlk_ret, inBlk_exit, Nat.reduceEqDiff, if_true, if_false, ↓reduceIte, retQ_ret]
                  try simp only [res0, res1, res2, res3, stK_e, go_sem, Φa, hP, h18_71]
                  exact ⟨_, _, Less.drops (Less.drops (Less.drops (Less.drops (Less.sublist ((List.sublist_cons_self _ _).trans (List.sublist_append_right _ _)))))), rfl, rfl, rfl⟩

end Go.Proofs.YtpakphgeichopaaDoor
set_option linter.unusedVariables false
set_option linter.unusedSimpArgs false
namespace Go.Proofs.YtpakphgeichopaaDoor
open Go.RowKit Go.SX Go.Proofs
open Go.SX renaming ia_someH → Φa

theorem subl_end {a b : Slot} {S1 S2 R : Hp} {c : Slot} : List.Sublist R (S1 ++ (a :: (S2 ++ (b :: c :: R)))) :=
  (((List.Sublist.refl R).cons c).cons b |>.trans (List.sublist_append_right S2 _) |>.cons a).trans (List.sublist_append_right S1 _)
theorem i64_and_le (a : Int) (m : Nat) (hm : m < 4611686018427387904) : ∃ n : Nat, bits .and .i64 a (m : Int) = (n : Int) ∧ n ≤ m := by
  have h : ((BitVec.ofInt 64 a) &&& (BitVec.ofInt 64 (m : Int))).toNat ≤ m := by
    rw [BitVec.toNat_and, BitVec.ofInt_natCast, BitVec.toNat_ofNat, Nat.mod_eq_of_lt (by omega)]
    exact Nat.and_le_right
  refine ⟨_, ?_, h⟩
  show IntKind.i64.wrap (((BitVec.ofInt 64 a) &&& (BitVec.ofInt 64 (m : Int))).toNat : Int) = _
  exact w64 (by omega)
def cyc (l : List Rc) (n : Nat) : List Rc := (List.range n).map fun j => l.getD (j % l.length) default
theorem cyc_succ (l : List Rc) (n : Nat) : cyc l (n + 1) = cyc l n ++ [l.getD (n % l.length) default] := by
  unfold cyc
  rw [List.range_succ, List.map_append]
  rfl
theorem cyc_len (l : List Rc) (n : Nat) : (cyc l n).length = n := by unfold cyc; rw [List.length_map, List.length_range]
theorem tmod_nat (a b : Nat) : ((a : Int)).tmod (b : Int) = ((a % b : Nat) : Int) := by
  rw [Int.tmod_eq_emod_of_nonneg (Int.natCast_nonneg _), Int.natCast_emod]
theorem RowF.slM {Γ : Ctx} {L : Hp} {v : Value} {fs : List Ff} {s : Slot} {l : List Fm} (h : RowF v fs s) (hok : FsOk fs) (hl : fs.map (·.1) = l) (hL : s ∈ L) (hm : ∀ s, s ∈ segs fs → s ∈ L) : SlF (Cell Γ L) v l := by
  obtain ⟨i, hi⟩ := List.mem_iff_getElem?.1 hL
  rw [← hl]
  exact RowF.sl h hok hi hm
theorem ofP_bnd (x : Ras) (l : List Rc) : (ofP x l).1.length ≤ 4194304 ∧ ∀ f ∈ (ofP x l).1, cnt f.rows ≤ 4194304 ∧ f.rows.length = 128 := by
  unfold ofP
  split
  · exact ⟨Nat.zero_le _, fun f hf => by cases hf⟩
  · split
    · rename_i h
      have hl := (chkL_zero h).1
      have h1 := stAt_out x l l.length
      have h2 := (stAt_cnt x l l.length).2
      exact ⟨by dsimp only; omega, fun f hf => by have := h2 f hf; omega⟩
    · exact ⟨Nat.zero_le _, fun f hf => by cases hf⟩
theorem ofP_bnd' (x : Ras) (l : List Rc) : (ofP x l).1.length ≤ 9000000000000000000 ∧ ∀ f ∈ (ofP x l).1, cnt f.rows ≤ 9000000000000000000 ∧ f.rows.length ≤ 9000000000000000000 := by
  obtain ⟨h1, h2⟩ := ofP_bnd x l
  exact ⟨by omega, fun f hf => by have := h2 f hf; omega⟩
theorem vast_no {f : Fm} (h : vastF f = false) : cnt f.rows ≤ 2147483647 ∧ f.rows.length ≤ 2147483647 := by
  unfold vastF at h
  rw [decide_eq_false_iff_not] at h
  omega
set_option maxHeartbeats 1000000 in
set_option maxRecDepth 100000 in
theorem FrameNames_spec {Γ : Ctx} (hP : Γ.P = Tryd.prog) {L : Hp} (S : SH Γ) :
    SCall Γ 3 #[] L (fun v L' => v = .bool true ∧ L' = L) := by
  refine SCall.enter (n := 4) (res1 0) (hP ▸ Tryd.func3) rfl rfl (by simp) (res1_ok rfl) ?_
  refine SX.seq_k fun K1 hK1 => ?_
  refine SX.region_d [some 0] rfl (fun ops hops => ?_)
  unfold Dsts at hops
  simp (maxSteps:=1000000)(dsimp:=false)(disch:=omega) only [go_sem, Φa, hP, hops]
  refine hK1 _ _ ?_
  try clear hK1 K1
  refine SX.seq_k fun K2 hK2 => ?_
  refine SX.region_xd [some 1, some 2, some 3, some 0] rfl (fun ops hops => ?_)
  unfold Dsts at hops
  refine RX.live [] (fun T1 hT1 => ?_)
  clear hT1
  refine RX.join 3 (fun (ss : Unit) T L' => T 3 = .bool (true) ∧ L' = L ∧ (True)) (fun K3 hK3 => ?_) ?_
  · simp (maxSteps:=1000000)(dsimp:=false)(disch:=omega) only [go_sem, Φa, hP, hops]
    repeat' (first | refine iteB (fun hg => ?_) (fun hg => ?_) | refine iteI (fun hg => ?_) (fun hg => ?_) | ((first | (refine SCall.mono (awake_spec hP S) ?_; rintro v_ L_ ⟨hv_, hL_⟩; rw [hv_, hL_]; clear hv_ hL_ v_ L_) | refine And.intro (by omega) ?_ | fail); try (with_reducible refine stI ?_); try simp (maxSteps:=1000000)(dsimp:=false)(disch:=omega) only [go_sem, Φa, hP, hops]) | fail)
    all_goals
      refine hK3 () _ (L) _ (by first | exact Less.refl _ | exact Less.drop _ _ | exact Less.drops (Less.drop _ _) | exact Less.drops (Less.drops (Less.drop _ _)) | exact Less.drops (Less.drops (Less.drops (Less.drop _ _))) | exact Less.drops (Less.drops (Less.drops (Less.drops (Less.drop _ _))))) ?_
      try dsimp only
      refine ⟨?_, ?_, ?_⟩
      · simp (maxSteps:=1000000)(dsimp:=false)(disch:=omega) only [go_sem, Φa, hP]
        first | done | rfl
      · rfl
      · trivial
  · intro ss T2 L2 hI
    obtain ⟨h2_3, hL2, hinv⟩ := hI
    replace hL2 := hL2.symm
    subst hL2
    clear T1
    refine RX.done ?_
    simp (maxSteps:=1000000)(dsimp:=false)(disch:=omega) only [go_sem, Φa, hP, h2_3, hops]
    refine hK2 _ _ ?_
    try clear hK2 K2
    refine SX.ret ?_
    simp only [andThen_normal, andThen_ret, andThen_exit, inBlk_normal, inBlk_ret, inBlk_exit, Nat.reduceEqDiff, if_true, if_false, ↓reduceIte, retQ_ret]
    try simp only [res0, res1, res2, res3, stK_e, go_sem, Φa, hP, h2_3]
    exact ⟨_, _, Less.refl _, rfl, rfl, rfl⟩
set_option maxHeartbeats 1000000 in
set_option maxRecDepth 100000 in
theorem FrameShows_spec {Γ : Ctx} (hP : Γ.P = Tryd.prog) {L : Hp} (S : SH Γ) {v : Value} {f : Fm} (hr : SlR (Cell Γ []) v f.rows) (hrl : f.rows.length ≤ 9223372036854775807) (hby : ∀ i, i < f.rows.length → ∀ j, j < (f.rows.getD i []).length → 0 ≤ (f.rows.getD i []).getD j 0 ∧ (f.rows.getD i []).getD j 0 ≤ 255) :
    SCall Γ 6 #[(.agg (f.cells v).toArray)] L (fun v L' => v = .bool true ∧ L' = L) := by
  obtain ⟨A, c, rfl, hc⟩ := Sl.shape hr
  refine SCall.enter (n := 30) (res1 2) (hP ▸ Tryd.func6) rfl rfl (by simp) (res1_ok rfl) ?_
  refine SX.seq_k fun K1 hK1 => ?_
  refine SX.region_d [some 1, some 2] rfl (fun ops hops => ?_)
  unfold Dsts at hops
  simp (maxSteps:=1000000)(dsimp:=false)(disch:=omega) only [go_sem, Φa, hP, hops]
  intro b0
  try with_reducible refine stI ?_
  try simp (maxSteps:=1000000)(dsimp:=false)(disch:=omega) only [go_sem, Φa, hP, hops]
  refine hK1 _ _ ?_
  try clear hK1 K1
  refine SX.seq_k fun K2 hK2 => ?_
  refine SX.seq_k fun K3 hK3 => ?_
  refine SX.region_d [some 7, some 8] rfl (fun ops hops => ?_)
  unfold Dsts at hops
  simp (maxSteps:=1000000)(dsimp:=false)(disch:=omega) only [go_sem, Φa, hP, hops]
  refine ⟨_, Cell.at 0 rfl (show (Fm.cells _ _)[0]? = _ from rfl), _, Cell.at 0 rfl (show (Fm.cells _ _)[1]? = _ from rfl), _, Cell.at 0 rfl (show (Fm.cells _ _)[2]? = _ from rfl), ?_⟩
  try with_reducible refine stI ?_
  try simp (maxSteps:=1000000)(dsimp:=false)(disch:=omega) only [go_sem, Φa, hP, hops]
  refine SCall.mono (vast_spec (f := f) hP (SlR.mono (fun a v h => Cell.cons _ (Cell.any h)) hr) hrl) ?_
  rintro v_ L_ ⟨hv_, hL_⟩
  rw [hv_, hL_]
  clear hv_ hL_ v_ L_
  try with_reducible refine stI ?_
  try simp (maxSteps:=1000000)(dsimp:=false)(disch:=omega) only [go_sem, Φa, hP, hops]
  refine hK3 _ _ ?_
  try clear hK3 K3
  refine SX.cond_k fun X4 Y4 hX4 hY4 => ?_
  simp (maxSteps:=1000000)(dsimp:=false)(disch:=omega) only [go_sem, Φa, hP, condVC]
  refine ⟨fun hc8 => hX4 ?_, fun hc8 => hY4 ?_⟩
  · clear hX4 hY4 X4 Y4
    refine SX.seq_k fun K5 hK5 => ?_
    refine SX.region_d [some 2] rfl (fun ops hops => ?_)
    unfold Dsts at hops
    simp (maxSteps:=1000000)(dsimp:=false)(disch:=omega) only [go_sem, Φa, hP, hops]
    refine hK5 _ _ ?_
    try clear hK5 K5
    refine SX.ret ?_
    simp only [andThen_normal, andThen_ret, andThen_exit, inBlk_normal, inBlk_ret, inBlk_exit, Nat.reduceEqDiff, if_true, if_false, ↓reduceIte, retQ_ret]
    try simp only [res0, res1, res2, res3, stK_e, go_sem, Φa, hP]
    exact ⟨_, _, Less.drop _ _, rfl, rfl, rfl⟩
  · clear hX4 hY4 X4 Y4
    refine SX.skip ?_
    try simp only [andThen_normal, andThen_ret, andThen_exit, inBlk_normal, inBlk_ret, inBlk_exit, Nat.reduceEqDiff, if_true, if_false, ↓reduceIte]
    refine hK2 _ _ ?_
    try clear hK2 K2
    refine SX.seq_k fun K6 hK6 => ?_
    obtain ⟨hv1, hv2⟩ := vast_no (by simpa using hc8)
    refine SX.region_d [some 10, some 11, some 9, some 12, some 13, some 3, some 4] rfl (fun ops hops => ?_)
    unfold Dsts at hops
    simp (maxSteps:=1000000)(dsimp:=false)(disch:=omega) only [go_sem, Φa, hP, hops]
    refine ⟨_, Cell.at 0 rfl (show (Fm.cells _ _)[0]? = _ from rfl), _, Cell.at 0 rfl (show (Fm.cells _ _)[1]? = _ from rfl), _, Cell.at 0 rfl (show (Fm.cells _ _)[2]? = _ from rfl), ?_⟩
    try with_reducible refine stI ?_
    try simp (maxSteps:=1000000)(dsimp:=false)(disch:=omega) only [go_sem, Φa, hP, hops]
    refine SCall.mono (Show_spec (f := f) hP (SlR.mono (fun a v h => Cell.cons _ (Cell.any h)) hr) (by omega) (by omega) hby) ?_
    rintro v_ L_ ⟨hv_, hL_⟩
    rw [hv_, hL_]
    clear hv_ hL_ v_ L_
    try with_reducible refine stI ?_
    try simp (maxSteps:=1000000)(dsimp:=false)(disch:=omega) only [go_sem, Φa, hP, hops]
    refine hK6 _ _ ?_
    try clear hK6 K6
    refine SX.live [1, 3, 4] (fun T1 hT1 => ?_)
    simp only [forall_mem_cons', forall_mem_nil', go_sem, Φa, hP] at hT1
    obtain ⟨h1_1, h1_3, h1_4⟩ := hT1
    refine SX.seq_k fun K7 hK7 => ?_
    refine SX.region_d [some 15, some 16, some 14, some 17, some 18, some 5, some 6] rfl (fun ops hops => ?_)
    unfold Dsts at hops
    simp (maxSteps:=1000000)(dsimp:=false)(disch:=omega) only [go_sem, Φa, hP, h1_1, h1_3, h1_4, hops]
    refine ⟨_, Cell.at 0 rfl (show (Fm.cells _ _)[0]? = _ from rfl), _, Cell.at 0 rfl (show (Fm.cells _ _)[1]? = _ from rfl), _, Cell.at 0 rfl (show (Fm.cells _ _)[2]? = _ from rfl), ?_⟩
    try with_reducible refine stI ?_
    try simp (maxSteps:=1000000)(dsimp:=false)(disch:=omega) only [go_sem, Φa, hP, h1_1, h1_3, h1_4, hops]
    refine SCall.mono (refShow_spec (f := f) hP (SlR.mono (fun a v h => Cell.cons _ (Cell.any h)) hr) (by omega) (by omega) hby) ?_
    rintro v_ L_ ⟨hv_, hL_⟩
    rw [hv_, hL_]
    clear hv_ hL_ v_ L_
    try with_reducible refine stI ?_
    try simp (maxSteps:=1000000)(dsimp:=false)(disch:=omega) only [go_sem, Φa, hP, h1_1, h1_3, h1_4, hops]
    refine hK7 _ _ ?_
    try clear hK7 K7
    refine SX.seq_k fun K8 hK8 => ?_
    refine SX.region_xd [some 19, some 20, some 21, some 22, some 23, some 24, some 25, some 26, some 27, some 28, some 29, some 2] rfl (fun ops hops => ?_)
    unfold Dsts at hops
    refine RX.live [3, 4, 5, 6] (fun T2 hT2 => ?_)
    simp only [forall_mem_cons', forall_mem_nil', go_sem, Φa, hP, h1_1, h1_3, h1_4] at hT2
    obtain ⟨h2_3, h2_4, h2_5, h2_6⟩ := hT2
    clear h1_1 h1_3 h1_4 T1
    refine RX.join 8 (fun (ss : Unit) T L' => T 26 = .bool (true) ∧ L' = some (b0, .cells (f.cells (.slice A f.rows.length c)).toArray 41 (0, 0)) :: L ∧ (True)) (fun K9 hK9 => ?_) ?_
    · simp (maxSteps:=1000000)(dsimp:=false)(disch:=omega) only [go_sem, Φa, hP, h2_3, h2_4, h2_5, h2_6, hops]
      repeat' (first | refine iteB (fun hg => ?_) (fun hg => ?_) | refine iteI (fun hg => ?_) (fun hg => ?_) | ((first | (refine SCall.mono (awake_spec hP S) ?_; rintro v_ L_ ⟨hv_, hL_⟩; rw [hv_, hL_]; clear hv_ hL_ v_ L_) | refine And.intro (by omega) ?_ | refine ⟨_, Cell.at 0 rfl rfl, ?_⟩ | fail); try (with_reducible refine stI ?_); try simp (maxSteps:=1000000)(dsimp:=false)(disch:=omega) only [go_sem, Φa, hP, h2_3, h2_4, h2_5, h2_6, hops]) | fail)
      all_goals
        refine hK9 () _ (some (b0, .cells (f.cells (.slice A f.rows.length c)).toArray 41 (0, 0)) :: L) _ (by first | exact Less.refl _ | exact Less.drop _ _ | exact Less.drops (Less.drop _ _) | exact Less.drops (Less.drops (Less.drop _ _)) | exact Less.drops (Less.drops (Less.drops (Less.drop _ _))) | exact Less.drops (Less.drops (Less.drops (Less.drops (Less.drop _ _))))) ?_
        try dsimp only
        refine ⟨?_, ?_, ?_⟩
        · simp (maxSteps:=1000000)(dsimp:=false)(disch:=omega) only [go_sem, Φa, hP, h2_3, h2_4, h2_5, h2_6]
          first | done | rfl
        · rfl
        · trivial
    · intro ss T3 L3 hI
      obtain ⟨h3_26, hL3, hinv⟩ := hI
      replace hL3 := hL3.symm
      subst hL3
      clear h2_3 h2_4 h2_5 h2_6 T2
      refine RX.live [26] (fun T4 hT4 => ?_)
      simp only [forall_mem_cons', forall_mem_nil', go_sem, Φa, hP, h3_26] at hT4
      have h4_26 := hT4; clear hT4
      clear h3_26 T3
      refine RX.join 3 (fun (ss : Unit) T L' => T 29 = .bool (true) ∧ L' = some (b0, .cells (f.cells (.slice A f.rows.length c)).toArray 41 (0, 0)) :: L ∧ (True)) (fun K10 hK10 => ?_) ?_
      · simp (maxSteps:=1000000)(dsimp:=false)(disch:=omega) only [go_sem, Φa, hP, h4_26, hops]
        repeat' (first | refine iteB (fun hg => ?_) (fun hg => ?_) | refine iteI (fun hg => ?_) (fun hg => ?_) | ((first | (refine SCall.mono (awake_spec hP S) ?_; rintro v_ L_ ⟨hv_, hL_⟩; rw [hv_, hL_]; clear hv_ hL_ v_ L_) | refine And.intro (by omega) ?_ | refine ⟨_, Cell.at 0 rfl rfl, ?_⟩ | fail); try (with_reducible refine stI ?_); try simp (maxSteps:=1000000)(dsimp:=false)(disch:=omega) only [go_sem, Φa, hP, h4_26, hops]) | fail)
        all_goals
          refine hK10 () _ (some (b0, .cells (f.cells (.slice A f.rows.length c)).toArray 41 (0, 0)) :: L) _ (by first | exact Less.refl _ | exact Less.drop _ _ | exact Less.drops (Less.drop _ _) | exact Less.drops (Less.drops (Less.drop _ _)) | exact Less.drops (Less.drops (Less.drops (Less.drop _ _))) | exact Less.drops (Less.drops (Less.drops (Less.drops (Less.drop _ _))))) ?_
          try dsimp only
          refine ⟨?_, ?_, ?_⟩
          · simp (maxSteps:=1000000)(dsimp:=false)(disch:=omega) only [go_sem, Φa, hP, h4_26]
            first | done | rfl
          · rfl
          · trivial
      · intro ss T5 L5 hI
        obtain ⟨h5_29, hL5, hinv⟩ := hI
        replace hL5 := hL5.symm
        subst hL5
        clear h4_26 T4
        refine RX.done ?_
        simp (maxSteps:=1000000)(dsimp:=false)(disch:=omega) only [go_sem, Φa, hP, h5_29, hops]
        refine hK8 _ _ ?_
        try clear hK8 K8
        refine SX.ret ?_
        simp only [andThen_normal, andThen_ret, andThen_exit, inBlk_normal, inBlk_ret, inBlk_exit, Nat.reduceEqDiff, if_true, if_false, ↓reduceIte, retQ_ret]
        try simp only [res0, res1, res2, res3, stK_e, go_sem, Φa, hP, h5_29]
        exact ⟨_, _, Less.drop _ _, rfl, rfl, rfl⟩
set_option maxHeartbeats 1000000 in
set_option maxRecDepth 100000 in
theorem FrameRuns_spec {Γ : Ctx} (hP : Γ.P = Tryd.prog) {L : Hp} (S : SH Γ) {x : Ras} {v : Value} {l : List Rc} {many : Int} (hl : SlC (Cell Γ []) v l) :
    SCall Γ 5 #[(.agg #[.int .i64 x.1, .int .i64 x.2.1, .bool x.2.2.1, .int .i64 x.2.2.2]), v, (.int .i64 many)] L (fun v L' => v = .bool true ∧ L' = L) := by
  obtain ⟨A, c, rfl, hc⟩ := Sl.shape hl
  obtain ⟨a1, e1, _, hA⟩ := Sl.at1 hl
  refine SCall.enter (n := 62) (res1 6) (hP ▸ Tryd.func5) rfl rfl (by simp) (res1_ok rfl) ?_
  refine SX.seq_k fun K1 hK1 => ?_
  refine SX.region_d [some 3, some 6] rfl (fun ops hops => ?_)
  unfold Dsts at hops
  simp (maxSteps:=1000000)(dsimp:=false)(disch:=omega) only [go_sem, Φa, hP, hops]
  intro bR
  try with_reducible refine stI ?_
  try simp (maxSteps:=1000000)(dsimp:=false)(disch:=omega) only [go_sem, Φa, hP, hops]
  refine hK1 _ _ ?_
  try clear hK1 K1
  refine SX.seq_k fun K2 hK2 => ?_
  refine SX.seq_k fun K3 hK3 => ?_
  refine SX.region_xd [some 14, some 15, some 16, some 17, some 18, some 19, some 20, some 21] rfl (fun ops hops => ?_)
  unfold Dsts at hops
  refine RX.live [1, 2, 3] (fun T1 hT1 => ?_)
  simp only [forall_mem_cons', forall_mem_nil', go_sem, Φa, hP] at hT1
  obtain ⟨h1_1, h1_2, h1_3⟩ := hT1
  refine RX.join 8 (fun (ss : Unit) T L' => T 21 = .bool (decide (2147483647 < l.length) || decide (l.length = 0)) ∧ T 1 = T1 1 ∧ T 2 = T1 2 ∧ T 3 = T1 3 ∧ L' = some (bR, .cells [.int .i64 x.1, .int .i64 x.2.1, .bool x.2.2.1, .int .i64 x.2.2.2].toArray 24 (0, 0)) :: L ∧ (True)) (fun K4 hK4 => ?_) ?_
  · simp only [h1_1, h1_2, h1_3] at hK4
    simp (maxSteps:=1000000)(dsimp:=false)(disch:=omega) only [go_sem, Φa, hP, h1_1, h1_2, h1_3, hops]
    repeat' (first | refine iteB (fun hg => ?_) (fun hg => ?_) | refine iteI (fun hg => ?_) (fun hg => ?_) | ((first | refine And.intro (by omega) ?_ | refine ⟨_, Cell.at 0 rfl rfl, ?_⟩ | fail); try (with_reducible refine stI ?_); try simp (maxSteps:=1000000)(dsimp:=false)(disch:=omega) only [go_sem, Φa, hP, h1_1, h1_2, h1_3, hops]) | fail)
    all_goals
      refine hK4 () _ (some (bR, .cells [.int .i64 x.1, .int .i64 x.2.1, .bool x.2.2.1, .int .i64 x.2.2.2].toArray 24 (0, 0)) :: L) _ (by first | exact Less.refl _ | exact Less.drop _ _ | exact Less.drops (Less.drop _ _) | exact Less.drops (Less.drops (Less.drop _ _)) | exact Less.drops (Less.drops (Less.drops (Less.drop _ _))) | exact Less.drops (Less.drops (Less.drops (Less.drops (Less.drop _ _))))) ?_
      try dsimp only
      refine ⟨?_, ?_, ?_, ?_, ?_, ?_⟩
      · simp (maxSteps:=1000000)(dsimp:=false)(disch:=omega) only [go_sem, Φa, hP, h1_1, h1_2, h1_3]
        first | done | (refine congrArg Value.bool ?_; rw [Bool.eq_iff_iff]; simp only [Bool.or_eq_true,Bool.and_eq_true,Bool.not_eq_true',Bool.not_eq_false',bne_iff_ne,decide_eq_true_eq,decide_eq_false_iff_not,Bool.true_eq_false,Bool.false_eq_true,true_iff,iff_true,false_iff,iff_false,ne_eq]; omega) | (refine congrArg Value.bool ?_; simp_all; first | done | omega)
      · simp (maxSteps:=1000000)(dsimp:=false)(disch:=omega) only [go_sem, Φa, hP, h1_1, h1_2, h1_3]
      · simp (maxSteps:=1000000)(dsimp:=false)(disch:=omega) only [go_sem, Φa, hP, h1_1, h1_2, h1_3]
      · simp (maxSteps:=1000000)(dsimp:=false)(disch:=omega) only [go_sem, Φa, hP, h1_1, h1_2, h1_3]
      · rfl
      · trivial
  · intro ss T2 L2 hI
    simp only [h1_1, h1_2, h1_3] at hI 
    obtain ⟨h2_21, h2_1, h2_2, h2_3, hL2, hinv⟩ := hI
    replace hL2 := hL2.symm
    subst hL2
    clear h1_1 h1_2 h1_3 T1
    refine RX.done ?_
    simp (maxSteps:=1000000)(dsimp:=false)(disch:=omega) only [go_sem, Φa, hP, h2_21, h2_1, h2_2, h2_3, hops]
    refine hK3 _ _ ?_
    try clear hK3 K3
    refine SX.cond_k fun X5 Y5 hX5 hY5 => ?_
    simp (maxSteps:=1000000)(dsimp:=false)(disch:=omega) only [go_sem, Φa, hP, h2_21, h2_1, h2_2, h2_3, condVC]
    refine ⟨fun hc21 => hX5 ?_, fun hc21 => hY5 ?_⟩
    · clear hX5 hY5 X5 Y5
      refine SX.seq_k fun K6 hK6 => ?_
      refine SX.region_d [some 6] rfl (fun ops hops => ?_)
      unfold Dsts at hops
      simp (maxSteps:=1000000)(dsimp:=false)(disch:=omega) only [go_sem, Φa, hP, h2_21, h2_1, h2_2, h2_3, hops]
      refine hK6 _ _ ?_
      try clear hK6 K6
      refine SX.ret ?_
      simp only [andThen_normal, andThen_ret, andThen_exit, inBlk_normal, inBlk_ret, inBlk_exit, Nat.reduceEqDiff, if_true, if_false, ↓reduceIte, retQ_ret]
      try simp only [res0, res1, res2, res3, stK_e, go_sem, Φa, hP, h2_21, h2_1, h2_2, h2_3]
      exact ⟨_, _, Less.drop _ _, rfl, rfl, rfl⟩
    · clear hX5 hY5 X5 Y5
      refine SX.skip ?_
      try simp only [andThen_normal, andThen_ret, andThen_exit, inBlk_normal, inBlk_ret, inBlk_exit, Nat.reduceEqDiff, if_true, if_false, ↓reduceIte]
      refine hK2 _ _ ?_
      try clear hK2 K2
      refine SX.seq_k fun K7 hK7 => ?_
      have hno : l.length ≤ 2147483647 ∧ 0 < l.length := by simp only [Bool.or_eq_false_iff, decide_eq_false_iff_not] at hc21; omega
      obtain ⟨n, hn, hn2⟩ := i64_and_le many 16383 (by decide)
      rw [show (((16383 : Nat)) : Int) = 16383 from rfl] at hn
      refine SX.region_d [some 22, some 23, some 7] rfl (fun ops hops => ?_)
      unfold Dsts at hops
      simp (maxSteps:=1000000)(dsimp:=false)(disch:=omega) only [go_sem, Φa, hP, h2_21, h2_1, h2_2, h2_3, hops, hn]
      repeat' ((first | refine And.intro (by omega) ?_ | fail); try (with_reducible refine stI ?_); try simp (maxSteps:=1000000)(dsimp:=false)(disch:=omega) only [go_sem, Φa, hP, h2_21, h2_1, h2_2, h2_3, hops, hn])
      refine hK7 _ _ ?_
      try clear hK7 K7
      refine SX.seq_k fun K8 hK8 => ?_
      refine SX.less (Less.none _) ?_
      refine SX.region_d [some 8] rfl (fun ops hops => ?_)
      unfold Dsts at hops
      simp (maxSteps:=1000000)(dsimp:=false)(disch:=omega) only [go_sem, Φa, hP, h2_21, h2_1, h2_2, h2_3, hops]
      refine hK8 _ _ ?_
      try clear hK8 K8
      refine SX.seq_k fun K9 hK9 => ?_
      refine SX.seq_k fun K10 hK10 => ?_
      refine SX.region_d [some 9] rfl (fun ops hops => ?_)
      unfold Dsts at hops
      simp (maxSteps:=1000000)(dsimp:=false)(disch:=omega) only [go_sem, Φa, hP, h2_21, h2_1, h2_2, h2_3, hops]
      refine hK10 _ _ ?_
      try clear hK10 K10
      refine SX.block ?_
      refine SX.live [1, 3, 7, 8, 9] (fun T3 hT3 => ?_)
      simp only [forall_mem_cons', forall_mem_nil', go_sem, Φa, hP, h2_21, h2_1, h2_2, h2_3] at hT3
      obtain ⟨h3_1, h3_3, h3_7, h3_8, h3_9⟩ := hT3
      clear h2_21 h2_1 h2_2 h2_3 T2
      refine SX.loop_k (fun (ss : (Nat) × (Value) × (Slot)) T L' => (fun (i : Nat) (vx : Value) (sx : Slot) => T 8 = vx ∧ T 9 = .int .i64 (i : Int) ∧ T 1 = T3 1 ∧ T 3 = T3 3 ∧ T 7 = T3 7 ∧ L' = sx :: some (bR, .cells [.int .i64 x.1, .int .i64 x.2.1, .bool x.2.2.1, .int .i64 x.2.2.2].toArray 24 (0, 0)) :: L ∧ (i ≤ n ∧ RowL Rc.cells 29 8 vx (cyc l i) sx)) (ss.1) (ss.2.1) (ss.2.2)) (fun (ss : (Nat) × (Value) × (Slot)) => (fun (i : Nat) (vx : Value) (sx : Slot) => n - i) (ss.1) (ss.2.1) (ss.2.2)) (0, .slice none 0 0, none) ?_ ?_
      · try dsimp only
        refine ⟨?_, ?_, ?_, ?_, ?_, ?_, ?_⟩
        · first | exact h3_8 | (rw [h3_8]; rfl) | (rw [h3_8]; simp; done)
        · first | exact h3_9 | (rw [h3_9]; rfl) | (rw [h3_9]; simp; done)
        · rfl
        · rfl
        · rfl
        · rfl
        · exact ⟨Nat.zero_le _, RowL.nil _ _ _⟩
      · intro ss T4 L4 hI K11 hK11
        obtain ⟨i, vx, sx⟩ := ss
        try dsimp only at hI hK11
        simp only [h3_1, h3_3, h3_7] at hI hK11
        obtain ⟨h4_8, h4_9, h4_1, h4_3, h4_7, hL4, ⟨hi, hrow⟩⟩ := hI
        replace hL4 := hL4.symm
        subst hL4
        clear h3_1 h3_3 h3_7 h3_8 h3_9 T3
        refine SX.seq_k fun K12 hK12 => ?_
        refine SX.seq_k fun K13 hK13 => ?_
        refine SX.region_d [some 24, some 25, some 26] rfl (fun ops hops => ?_)
        unfold Dsts at hops
        simp (maxSteps:=1000000)(dsimp:=false)(disch:=omega) only [go_sem, Φa, hP, h4_8, h4_9, h4_1, h4_3, h4_7, hops]
        repeat' ((first | refine And.intro (by omega) ?_ | fail); try (with_reducible refine stI ?_); try simp (maxSteps:=1000000)(dsimp:=false)(disch:=omega) only [go_sem, Φa, hP, h4_8, h4_9, h4_1, h4_3, h4_7, hops])
        refine hK13 _ _ ?_
        try clear hK13 K13
        refine SX.cond_k fun X14 Y14 hX14 hY14 => ?_
        simp (maxSteps:=1000000)(dsimp:=false)(disch:=omega) only [go_sem, Φa, hP, h4_8, h4_9, h4_1, h4_3, h4_7, condVC]
        refine ⟨fun hc26 => hX14 ?_, fun hc26 => hY14 ?_⟩
        · clear hX14 hY14 X14 Y14
          refine SX.skip ?_
          try simp only [andThen_normal, andThen_ret, andThen_exit, inBlk_normal, inBlk_ret, inBlk_exit, Nat.reduceEqDiff, if_true, if_false, ↓reduceIte]
          refine hK12 _ _ ?_
          try clear hK12 K12
          refine SX.seq_k fun K15 hK15 => ?_
          refine SX.block ?_
          have hcy : i % l.length < l.length := Nat.mod_lt _ (by omega)
          have hck := hA (i % l.length) _ (getD_get (d := default) hcy)
          have htm := tmod_nat i l.length
          have hcl := cyc_len l i
          refine SX.region_d [some 29, some 30, some 31, some 32, some 33, some 34, some 35, some 36, some 37, some 38, some 8] rfl (fun ops hops => ?_)
          unfold Dsts at hops
          simp (maxSteps:=1000000)(dsimp:=false)(disch:=omega) only [go_sem, Φa, hP, h4_8, h4_9, h4_1, h4_3, h4_7, hops, ia_at e1, htm]
          refine ⟨_, Cell.cons _ (Cell.cons _ (Cell.any (hck 0 _ rfl))), _, Cell.cons _ (Cell.cons _ (Cell.any (hck 1 _ rfl))), _, Cell.cons _ (Cell.cons _ (Cell.any (hck 2 _ rfl))), _, Cell.cons _ (Cell.cons _ (Cell.any (hck 3 _ rfl))), _, Cell.cons _ (Cell.cons _ (Cell.any (hck 4 _ rfl))), _, Cell.cons _ (Cell.cons _ (Cell.any (hck 5 _ rfl))), _, Cell.cons _ (Cell.cons _ (Cell.any (hck 6 _ rfl))), _, Cell.cons _ (Cell.cons _ (Cell.any (hck 7 _ rfl))), ?_⟩
          try with_reducible refine stI ?_
          try simp (maxSteps:=1000000)(dsimp:=false)(disch:=omega) only [go_sem, Φa, hP, h4_8, h4_9, h4_1, h4_3, h4_7, hops, ia_at e1, htm]
          intro g8
          try with_reducible refine stI ?_
          try simp (maxSteps:=1000000)(dsimp:=false)(disch:=omega) only [go_sem, Φa, hP, h4_8, h4_9, h4_1, h4_3, h4_7, hops, ia_at e1, htm]
          refine YAppend.rowL (f := Rc.cells) (x := l.getD (i % l.length) default) (i := 0) (z := [.int .u8 0, .int .u16 0, .int .u8 0, .bool false, .bool false, .int .u8 0, .bool false, .int .u8 0]) (hP ▸ T.elS_25) (hP ▸ T.zr_29) rfl rfl rfl rfl hrow (by omega) (by decide) ?_
          intro v' s' hrow'
          try with_reducible refine stI ?_
          try simp (maxSteps:=1000000)(dsimp:=false)(disch:=omega) only [go_sem, Φa, hP, h4_8, h4_9, h4_1, h4_3, h4_7, hops, ia_at e1, htm]
          refine hK15 _ _ ?_
          try clear hK15 K15
          refine SX.live [1, 3, 7, 8, 9] (fun T5 hT5 => ?_)
          simp only [forall_mem_cons', forall_mem_nil', go_sem, Φa, hP, h4_8, h4_9, h4_1, h4_3, h4_7] at hT5
          obtain ⟨h5_1, h5_3, h5_7, h5_8, h5_9⟩ := hT5
          clear h4_8 h4_9 h4_1 h4_3 h4_7 T4
          refine SX.region_d [some 27, some 28, some 9] rfl (fun ops hops => ?_)
          unfold Dsts at hops
          simp (maxSteps:=1000000)(dsimp:=false)(disch:=omega) only [go_sem, Φa, hP, h5_1, h5_3, h5_7, h5_8, h5_9, hops]
          repeat' ((first | refine And.intro (by omega) ?_ | fail); try (with_reducible refine stI ?_); try simp (maxSteps:=1000000)(dsimp:=false)(disch:=omega) only [go_sem, Φa, hP, h5_1, h5_3, h5_7, h5_8, h5_9, hops])
          refine hK11 (i + 1, v', s') _ (s' :: some (bR, .cells [.int .i64 x.1, .int .i64 x.2.1, .bool x.2.2.1, .int .i64 x.2.2.2].toArray 24 (0, 0)) :: L) _ (by exact Less.drop _ _) ?_ ?_
          · try dsimp only
            refine ⟨?_, ?_, ?_, ?_, ?_, ?_, ?_⟩
            · simp (maxSteps:=1000000)(dsimp:=false)(disch:=omega) only [go_sem, Φa, hP, h5_1, h5_3, h5_7, h5_8, h5_9]
              first | done | rfl | skip
            · simp (maxSteps:=1000000)(dsimp:=false)(disch:=omega) only [go_sem, Φa, hP, h5_1, h5_3, h5_7, h5_8, h5_9]
              first | done | rfl | skip
            · simp (maxSteps:=1000000)(dsimp:=false)(disch:=omega) only [go_sem, Φa, hP, h5_1, h5_3, h5_7, h5_8, h5_9]
            · simp (maxSteps:=1000000)(dsimp:=false)(disch:=omega) only [go_sem, Φa, hP, h5_1, h5_3, h5_7, h5_8, h5_9]
            · simp (maxSteps:=1000000)(dsimp:=false)(disch:=omega) only [go_sem, Φa, hP, h5_1, h5_3, h5_7, h5_8, h5_9]
            · rfl
            · refine ⟨by omega, ?_⟩
              rw [cyc_succ]
              exact hrow'
          · (try dsimp only); omega
        · clear hX14 hY14 X14 Y14
          refine SX.exit ?_
          try simp only [andThen_normal, andThen_ret, andThen_exit, inBlk_normal, inBlk_ret, inBlk_exit, Nat.reduceEqDiff, if_true, if_false, ↓reduceIte]
          refine hK9 _ _ ?_
          try clear hK9 K9
          refine SX.seq_k fun K16 hK16 => ?_
          obtain rfl : i = n := by omega
          have hcl := cyc_len l i
          refine SX.region_d [some 40, some 41, some 42, some 39, some 43, some 44, some 10, some 11] rfl (fun ops hops => ?_)
          unfold Dsts at hops
          simp (maxSteps:=1000000)(dsimp:=false)(disch:=omega) only [go_sem, Φa, hP, h4_8, h4_9, h4_1, h4_3, h4_7, hops]
          refine ⟨_, Cell.at 1 rfl rfl, _, Cell.at 1 rfl rfl, _, Cell.at 1 rfl rfl, _, Cell.at 1 rfl rfl, ?_⟩
          try with_reducible refine stI ?_
          try simp (maxSteps:=1000000)(dsimp:=false)(disch:=omega) only [go_sem, Φa, hP, h4_8, h4_9, h4_1, h4_3, h4_7, hops]
          refine SCall.mono (Of_spec (l := cyc l i) hP (RowL.sl Rc.len hrow (i := 0) rfl) (by omega) S) ?_
          rintro v_ L_ ⟨vo1, so1, fs1, rfl, rfl, hrow1, hfs1, hmap1⟩
          try with_reducible refine stI ?_
          try simp (maxSteps:=1000000)(dsimp:=false)(disch:=omega) only [go_sem, Φa, hP, h4_8, h4_9, h4_1, h4_3, h4_7, hops]
          refine hK16 _ _ ?_
          try clear hK16 K16
          refine SX.live [3, 8, 10, 11] (fun T6 hT6 => ?_)
          simp only [forall_mem_cons', forall_mem_nil', go_sem, Φa, hP, h4_8, h4_9, h4_1, h4_3, h4_7] at hT6
          obtain ⟨h6_3, h6_8, h6_10, h6_11⟩ := hT6
          clear h4_8 h4_9 h4_1 h4_3 h4_7 T4
          refine SX.seq_k fun K17 hK17 => ?_
          refine SX.region_d [some 46, some 47, some 48, some 45, some 49, some 50, some 12, some 13] rfl (fun ops hops => ?_)
          unfold Dsts at hops
          simp (maxSteps:=1000000)(dsimp:=false)(disch:=omega) only [go_sem, Φa, hP, h6_3, h6_8, h6_10, h6_11, hops]
          refine ⟨_, Cell.cons _ (Cell.app _ (Cell.at 1 rfl rfl)), _, Cell.cons _ (Cell.app _ (Cell.at 1 rfl rfl)), _, Cell.cons _ (Cell.app _ (Cell.at 1 rfl rfl)), _, Cell.cons _ (Cell.app _ (Cell.at 1 rfl rfl)), ?_⟩
          try with_reducible refine stI ?_
          try simp (maxSteps:=1000000)(dsimp:=false)(disch:=omega) only [go_sem, Φa, hP, h6_3, h6_8, h6_10, h6_11, hops]
          refine SCall.mono (refOf_spec (l := cyc l i) hP (SlC.mono (fun a v h => Cell.cons _ (Cell.app _ h)) (RowL.sl Rc.len hrow (L := sx :: some (bR, .cells [.int .i64 x.1, .int .i64 x.2.1, .bool x.2.2.1, .int .i64 x.2.2.2].toArray 24 (0, 0)) :: L) (i := 0) rfl)) (by omega)) ?_
          rintro v_ L_ ⟨vo2, so2, fs2, rfl, rfl, hrow2, hfs2, hmap2⟩
          try with_reducible refine stI ?_
          try simp (maxSteps:=1000000)(dsimp:=false)(disch:=omega) only [go_sem, Φa, hP, h6_3, h6_8, h6_10, h6_11, hops]
          refine hK17 _ _ ?_
          try clear hK17 K17
          refine SX.seq_k fun K18 hK18 => ?_
          refine SX.region_xd [some 51, some 52, some 53, some 54, some 55, some 56, some 57, some 58, some 59, some 60, some 61, some 6] rfl (fun ops hops => ?_)
          unfold Dsts at hops
          refine RX.live [10, 11, 12, 13] (fun T7 hT7 => ?_)
          simp only [forall_mem_cons', forall_mem_nil', go_sem, Φa, hP, h6_3, h6_8, h6_10, h6_11] at hT7
          obtain ⟨h7_10, h7_11, h7_12, h7_13⟩ := hT7
          clear h6_3 h6_8 h6_10 h6_11 T6
          refine RX.join 8 (fun (ss : Unit) T L' => T 58 = .bool (true) ∧ L' = so2 :: (segs fs2 ++ (so1 :: (segs fs1 ++ (sx :: some (bR, .cells [.int .i64 x.1, .int .i64 x.2.1, .bool x.2.2.1, .int .i64 x.2.2.2].toArray 24 (0, 0)) :: L)))) ∧ (True)) (fun K19 hK19 => ?_) ?_
          · simp (maxSteps:=1000000)(dsimp:=false)(disch:=omega) only [go_sem, Φa, hP, h7_10, h7_11, h7_12, h7_13, hops]
            repeat' (first | refine iteB (fun hg => ?_) (fun hg => ?_) | refine iteI (fun hg => ?_) (fun hg => ?_) | ((first | (refine SCall.mono (SameAll_spec (l := (ofP x (cyc l i)).1) hP (hrow1.slM hfs1 hmap1 (by simp) (fun s hs => by simp [hs])) (hrow2.slM hfs2 hmap2 (by simp) (fun s hs => by simp [hs])) (ofP_bnd' _ _).1 (ofP_bnd' _ _).2) ?_; rintro v_ L_ ⟨hv_, hL_⟩; rw [hv_, hL_]; clear hv_ hL_ v_ L_) | (refine SCall.mono (awake_spec hP S) ?_; rintro v_ L_ ⟨hv_, hL_⟩; rw [hv_, hL_]; clear hv_ hL_ v_ L_) | refine And.intro (by omega) ?_ | refine ⟨_, Cell.at 0 rfl rfl, ?_⟩ | refine ⟨_, Cell.at 1 rfl rfl, ?_⟩ | refine ⟨_, Cell.at 2 rfl rfl, ?_⟩ | refine ⟨_, Cell.at 3 rfl rfl, ?_⟩ | fail); try (with_reducible refine stI ?_); try simp (maxSteps:=1000000)(dsimp:=false)(disch:=omega) only [go_sem, Φa, hP, h7_10, h7_11, h7_12, h7_13, hops]) | fail)
            all_goals
              refine hK19 () _ (so2 :: (segs fs2 ++ (so1 :: (segs fs1 ++ (sx :: some (bR, .cells [.int .i64 x.1, .int .i64 x.2.1, .bool x.2.2.1, .int .i64 x.2.2.2].toArray 24 (0, 0)) :: L))))) _ (by first | exact Less.refl _ | exact Less.drop _ _ | exact Less.drops (Less.drop _ _) | exact Less.drops (Less.drops (Less.drop _ _)) | exact Less.drops (Less.drops (Less.drops (Less.drop _ _))) | exact Less.drops (Less.drops (Less.drops (Less.drops (Less.drop _ _))))) ?_
              try dsimp only
              refine ⟨?_, ?_, ?_⟩
              · simp (maxSteps:=1000000)(dsimp:=false)(disch:=omega) only [go_sem, Φa, hP, h7_10, h7_11, h7_12, h7_13]
                first | done | rfl
              · rfl
              · trivial
          · intro ss T8 L8 hI
            obtain ⟨h8_58, hL8, hinv⟩ := hI
            replace hL8 := hL8.symm
            subst hL8
            clear h7_10 h7_11 h7_12 h7_13 T7
            refine RX.live [58] (fun T9 hT9 => ?_)
            simp only [forall_mem_cons', forall_mem_nil', go_sem, Φa, hP, h8_58] at hT9
            have h9_58 := hT9; clear hT9
            clear h8_58 T8
            refine RX.join 3 (fun (ss : Unit) T L' => T 61 = .bool (true) ∧ L' = so2 :: (segs fs2 ++ (so1 :: (segs fs1 ++ (sx :: some (bR, .cells [.int .i64 x.1, .int .i64 x.2.1, .bool x.2.2.1, .int .i64 x.2.2.2].toArray 24 (0, 0)) :: L)))) ∧ (True)) (fun K20 hK20 => ?_) ?_
            · simp (maxSteps:=1000000)(dsimp:=false)(disch:=omega) only [go_sem, Φa, hP, h9_58, hops]
              repeat' (first | refine iteB (fun hg => ?_) (fun hg => ?_) | refine iteI (fun hg => ?_) (fun hg => ?_) | ((first | (refine SCall.mono (SameAll_spec (l := (ofP x (cyc l i)).1) hP (hrow1.slM hfs1 hmap1 (by simp) (fun s hs => by simp [hs])) (hrow2.slM hfs2 hmap2 (by simp) (fun s hs => by simp [hs])) (ofP_bnd' _ _).1 (ofP_bnd' _ _).2) ?_; rintro v_ L_ ⟨hv_, hL_⟩; rw [hv_, hL_]; clear hv_ hL_ v_ L_) | (refine SCall.mono (awake_spec hP S) ?_; rintro v_ L_ ⟨hv_, hL_⟩; rw [hv_, hL_]; clear hv_ hL_ v_ L_) | refine And.intro (by omega) ?_ | refine ⟨_, Cell.at 0 rfl rfl, ?_⟩ | refine ⟨_, Cell.at 1 rfl rfl, ?_⟩ | refine ⟨_, Cell.at 2 rfl rfl, ?_⟩ | refine ⟨_, Cell.at 3 rfl rfl, ?_⟩ | fail); try (with_reducible refine stI ?_); try simp (maxSteps:=1000000)(dsimp:=false)(disch:=omega) only [go_sem, Φa, hP, h9_58, hops]) | fail)
              all_goals
                refine hK20 () _ (so2 :: (segs fs2 ++ (so1 :: (segs fs1 ++ (sx :: some (bR, .cells [.int .i64 x.1, .int .i64 x.2.1, .bool x.2.2.1, .int .i64 x.2.2.2].toArray 24 (0, 0)) :: L))))) _ (by first | exact Less.refl _ | exact Less.drop _ _ | exact Less.drops (Less.drop _ _) | exact Less.drops (Less.drops (Less.drop _ _)) | exact Less.drops (Less.drops (Less.drops (Less.drop _ _))) | exact Less.drops (Less.drops (Less.drops (Less.drops (Less.drop _ _))))) ?_
                try dsimp only
                refine ⟨?_, ?_, ?_⟩
                · simp (maxSteps:=1000000)(dsimp:=false)(disch:=omega) only [go_sem, Φa, hP, h9_58]
                  first | done | rfl
                · rfl
                · trivial
            · intro ss T10 L10 hI
              obtain ⟨h10_61, hL10, hinv⟩ := hI
              replace hL10 := hL10.symm
              subst hL10
              clear h9_58 T9
              refine RX.done ?_
              simp (maxSteps:=1000000)(dsimp:=false)(disch:=omega) only [go_sem, Φa, hP, h10_61, hops]
              refine hK18 _ _ ?_
              try clear hK18 K18
              refine SX.ret ?_
              simp only [andThen_normal, andThen_ret, andThen_exit, inBlk_normal, inBlk_ret, inBlk_exit, Nat.reduceEqDiff, if_true, if_false, ↓reduceIte, retQ_ret]
              try simp only [res0, res1, res2, res3, stK_e, go_sem, Φa, hP, h10_61]
              exact ⟨_, _, Less.drops (Less.sublist subl_end), rfl, rfl, rfl⟩

end Go.Proofs.YtpakphgeichopaaDoor
set_option linter.unusedVariables false
set_option linter.unusedSimpArgs false
namespace Go.Proofs.YtpakphgeichopaaDoor
open Go.RowKit Go.SX
/-! A trace cut in two; frames follow each other; no row has more than eight bytes. -/
theorem stF_ras (s : St) (k : Int) (r : Rc) : (stF s k r).ras = rasN s.ras r := by
  unfold stF
  split
  · rfl
  · split <;> rfl
theorem begunN_lt {x : Ras} {w : Option (Int × List (List Int))} {k : Nat} {a : Int} {rows : List (List Int)} (h : ∀ a rows, w = some (a, rows) → 0 ≤ a ∧ a < k) (hb : begunN x w k = some (a, rows)) : 0 ≤ a ∧ a < (k : Int) + 1 := by
  unfold begunN at hb
  split at hb
  · cases hb; omega
  · have := h _ _ hb; omega
theorem stAt_lt (x : Ras) (l : List Rc) : ∀ k : Nat, (∀ a rows, (stAt x l k).now = some (a, rows) → 0 ≤ a ∧ a < k) ∧ ∀ f ∈ (stAt x l k).out, 0 ≤ f.at_ ∧ f.at_ < k
  | 0 => ⟨fun a rows h => (by cases h), fun f hf => (by cases hf)⟩
  | k + 1 => by
    obtain ⟨h1, h2⟩ := stAt_lt x l k
    have hb : ∀ a rows, begunN (stAt x l k).ras (stAt x l k).now k = some (a, rows) → 0 ≤ a ∧ a < (k : Int) + 1 := fun a rows h => begunN_lt h1 h
    rw [stAt]
    generalize l.getD k default = r
    unfold stF
    split
    · exact ⟨fun a rows h => (by cases h), fun f hf => by have := h2 f hf; omega⟩
    · rename_i a rows hs
      have c1 := hb a rows hs
      split
      · refine ⟨fun a rows h => (by cases h), fun f hf => ?_⟩
        rcases List.mem_append.1 hf with hf | hf
        · have := h2 f hf; omega
        · rw [List.mem_singleton.1 hf]; dsimp only; omega
      · refine ⟨fun a' rows' h => ?_, fun f hf => by have := h2 f hf; omega⟩
        cases h
        omega
def shiftF (k : Int) (f : Fm) : Fm := ⟨f.at_ - k, f.rows, f.sh⟩
def late (k : Int) (f : Fm) : Bool := decide (k ≤ f.at_)
def nowK (k : Int) : Option (Int × List (List Int)) → Option (Int × List (List Int))
  | some (a, rows) => if k ≤ a then some (a - k, rows) else none
  | none => none
theorem begunN_K (x : Ras) (w : Option (Int × List (List Int))) (k : Nat) (m : Nat) : begunN x (nowK k w) m = nowK k (begunN x w ((k + m : Nat) : Int)) := by
  unfold begunN
  split
  · show some _ = if (k : Int) ≤ ((k + m : Nat) : Int) then some (((k + m : Nat) : Int) - k, List.replicate 128 []) else none
    rw [if_pos (by omega), show ((k + m : Nat) : Int) - k = m by omega]
  · rfl
theorem stF_K (s : St) (k m : Nat) (r : Rc) : stF ⟨s.ras, nowK k s.now, (s.out.filter (late k)).map (shiftF k)⟩ m r = ⟨(stF s ((k + m : Nat) : Int) r).ras, nowK k (stF s ((k + m : Nat) : Int) r).now, ((stF s ((k + m : Nat) : Int) r).out.filter (late k)).map (shiftF k)⟩ := by
  have hb := begunN_K s.ras s.now k m
  obtain ⟨x, w, o⟩ := s
  dsimp only at hb ⊢
  cases hbs : begunN x w ((k + m : Nat) : Int) with
  | none =>
    rw [hbs] at hb
    rw [stF_none hbs, stF_none (show begunN x (nowK k w) m = none from hb)]
    rfl
  | some p =>
    obtain ⟨a, rows⟩ := p
    rw [hbs] at hb
    by_cases hk : (k : Int) ≤ a
    · have hb' : begunN x (nowK k w) m = some (a - k, rows) := by rw [hb]; exact if_pos hk
      cases hz : atZ (rasN x r) with
      | true =>
        rw [stF_fin hbs hz, stF_fin hb' hz]
        dsimp only
        rw [List.filter_append, List.map_append]
        simp only [List.filter_cons, List.filter_nil, late, decide_eq_true hk, if_true, List.map_cons, List.map_nil, shiftF, nowK]
      | false =>
        rw [stF_go hbs hz, stF_go hb' hz]
        simp only [nowK, if_pos hk]
    · have hb' : begunN x (nowK k w) m = none := by rw [hb]; exact if_neg hk
      rw [stF_none hb']
      cases hz : atZ (rasN x r) with
      | true =>
        rw [stF_fin hbs hz]
        dsimp only
        rw [List.filter_append]
        simp only [List.filter_cons, List.filter_nil, late, decide_eq_false hk, Bool.false_eq_true, if_false, List.append_nil, nowK]
      | false =>
        rw [stF_go hbs hz]
        simp only [nowK, if_neg hk]
theorem drop_getD (l : List Rc) (k m : Nat) : (l.drop k).getD m default = l.getD (k + m) default := by
  rw [List.getD_eq_getElem?_getD, List.getElem?_drop, List.getD_eq_getElem?_getD]
theorem stAt_cut (x : Ras) (l : List Rc) (k : Nat) : ∀ m, stAt (stAt x l k).ras (l.drop k) m = ⟨(stAt x l (k + m)).ras, nowK k (stAt x l (k + m)).now, ((stAt x l (k + m)).out.filter (late k)).map (shiftF k)⟩
  | 0 => by
    obtain ⟨h1, h2⟩ := stAt_lt x l k
    have hn : nowK k (stAt x l k).now = none := by
      cases hw : (stAt x l k).now with
      | none => rfl
      | some p => obtain ⟨a, rows⟩ := p; exact if_neg (by have := h1 a rows hw; omega)
    have ho : (stAt x l k).out.filter (late k) = [] := by
      rw [List.filter_eq_nil_iff]
      intro f hf
      have := h2 f hf
      simp only [late, decide_eq_true_eq]
      omega
    rw [Nat.add_zero, hn, ho]
    rfl
  | m + 1 => by
    rw [stAt, stAt_cut x l k m, drop_getD, ← Nat.add_assoc, stAt]
    exact stF_K (stAt x l (k + m)) k m _
theorem chkL_drop {l : List Rc} (h : chkL l = 0) (k : Nat) : chkL (l.drop k) = 0 := by
  obtain ⟨h1, h2⟩ := chkL_zero h
  refine chkL_good (by rw [List.length_drop]; omega) fun j hj => ?_
  rw [List.length_drop] at hj
  rw [drop_getD]
  exact h2 _ (by omega)
theorem ofP_cut {x : Ras} {l : List Rc} {k : Nat} (h : (ofP x l).2 = 0) (hk : k ≤ l.length) : ofP (stAt x l k).ras (l.drop k) = (((ofP x l).1.filter (late k)).map (shiftF k), 0) ∧ okR x = true ∧ chkL l = 0 := by
  have hok : okR x = true := by
    cases ho : okR x with
    | true => rfl
    | false => unfold ofP at h; rw [if_pos ho] at h; cases h
  have hch : chkL l = 0 := by
    by_cases hc : chkL l = 0
    · exact hc
    · rw [ofP_bad hok hc] at h; exact h
  obtain ⟨_, hm⟩ := chkL_zero hch
  refine ⟨?_, hok, hch⟩
  rw [ofP_ok (stAt_ok hok hm k hk) (chkL_drop hch k), ofP_ok hok hch, List.length_drop, stAt_cut, show k + (l.length - k) = l.length by omega]
/-! following each other -/
theorem atZ_P {x : Ras} (h : okR x = true) : atZ x = decide (P x = 0) := by
  obtain ⟨l, c, o, g⟩ := x
  have hk := of_okB h
  dsimp only at hk
  unfold atZ P
  dsimp only
  rw [Bool.eq_iff_iff]
  simp only [Bool.and_eq_true, decide_eq_true_eq]
  omega
theorem rasN_P {x : Ras} {r : Rc} (h : okR x = true) (hm : mayB r = true) : P (rasN x r) = (P x + 1) % 3668 := by
  obtain ⟨l, c, o, g⟩ := x
  have hk := of_okB h
  unfold mayB at hm
  simp only [Bool.and_eq_true, decide_eq_true_eq] at hm
  have hm3 := hm.1.2
  unfold rasN step
  rw [if_pos ⟨h, hm3⟩]
  dsimp only at hk ⊢
  unfold P
  split
  · dsimp only
    split <;> omega
  · dsimp only
    omega
structure Follow (k : Nat) (s : St) : Prop where
  ok : okR s.ras = true
  con : ∀ i f g, s.out[i]? = some f → s.out[i + 1]? = some g → g.at_ = f.at_ + 3668
  opn : ∀ a rows, s.now = some (a, rows) → (k : Int) - a = P s.ras ∧ 0 < P s.ras
  lst : ∀ f, s.out.getLast? = some f → (∀ a rows, s.now = some (a, rows) → a = f.at_ + 3668) ∧ (s.now = none → (k : Int) = f.at_ + 3668 ∧ P s.ras = 0)
theorem con_app {l : List Fm} {g : Fm} (h : ∀ i f g, l[i]? = some f → l[i + 1]? = some g → g.at_ = f.at_ + 3668) (hl : ∀ f, l.getLast? = some f → g.at_ = f.at_ + 3668) : ∀ i f g', (l ++ [g])[i]? = some f → (l ++ [g])[i + 1]? = some g' → g'.at_ = f.at_ + 3668 := by
  intro i f g' h1 h2
  by_cases hi : i + 1 < l.length
  · rw [List.getElem?_append_left (by omega)] at h1
    rw [List.getElem?_append_left hi] at h2
    exact h i f g' h1 h2
  · have hlt := (List.getElem?_eq_some_iff.1 h2).1
    rw [List.length_append] at hlt
    simp only [List.length_cons, List.length_nil] at hlt
    have he : i + 1 = l.length := by omega
    rw [List.getElem?_append_left (by omega)] at h1
    rw [he, List.getElem?_append_right (Nat.le_refl _), Nat.sub_self] at h2
    cases h2
    refine hl f ?_
    rw [List.getLast?_eq_getElem?, show l.length - 1 = i by omega]
    exact h1
theorem Follow.step {k : Nat} {s : St} {r : Rc} (h : Follow k s) (hm : mayB r = true) : Follow (k + 1) (stF s k r) := by
  have hok' := rasN_ok h.ok hm
  have hP := rasN_P h.ok hm
  have hlt := P_lt h.ok
  have hz := atZ_P h.ok
  have hz' := atZ_P hok'
  have hcon := h.con
  have hopn := h.opn
  have hlst := h.lst
  obtain ⟨x, w, o⟩ := s
  dsimp only at hok' hP hlt hz hz' hcon hopn hlst
  have key : ∀ a rows, begunN x w k = some (a, rows) → (k : Int) - a = P x ∧ ∀ f, o.getLast? = some f → a = f.at_ + 3668 := by
    intro a rows hb
    unfold begunN at hb
    split at hb
    · rename_i hzt
      rw [hz, decide_eq_true_eq] at hzt
      cases hb
      refine ⟨by rw [hzt]; omega, fun f hf => ?_⟩
      obtain ⟨l1, l2⟩ := hlst f hf
      cases hw : w with
      | none => exact (l2 hw).1
      | some p =>
        obtain ⟨a', rows'⟩ := p
        have := (hopn a' rows' hw).2
        omega
    · exact ⟨(hopn a rows hb).1, fun f hf => (hlst f hf).1 a rows hb⟩
  cases hbs : begunN x w k with
  | none =>
    have hw : w = none ∧ P x ≠ 0 := by
      unfold begunN at hbs
      split at hbs
      · cases hbs
      · rename_i hzf
        rw [hz, decide_eq_true_eq] at hzf
        exact ⟨hbs, hzf⟩
    have ho : o = [] := by
      cases ho : o.getLast? with
      | none => exact List.getLast?_eq_none_iff.1 ho
      | some f => exact absurd ((hlst f ho).2 hw.1).2 hw.2
    rw [stF_none hbs, ho]
    exact ⟨hok', fun i f g h1 => (by simp at h1), fun a rows h1 => (by cases h1), fun f h1 => (by simp at h1)⟩
  | some p =>
    obtain ⟨a, rows⟩ := p
    obtain ⟨k1, k2⟩ := key a rows hbs
    cases hzn : atZ (rasN x r) with
    | true =>
      rw [hzn] at hz'
      have hp0 : P (rasN x r) = 0 := by have := hz'.symm; rwa [decide_eq_true_eq] at this
      rw [stF_fin hbs hzn]
      refine ⟨hok', con_app hcon k2, fun a' rows' h1 => (by cases h1), fun f hf => ?_⟩
      dsimp only at hf ⊢
      rw [List.getLast?_concat] at hf
      simp only [Option.some.injEq] at hf
      subst hf
      refine ⟨fun a' rows' h1 => (by cases h1), fun _ => ⟨?_, hp0⟩⟩
      dsimp only
      omega
    | false =>
      rw [hzn] at hz'
      have hp0 : P (rasN x r) ≠ 0 := by have := hz'.symm; rwa [decide_eq_false_iff_not] at this
      rw [stF_go hbs hzn]
      refine ⟨hok', hcon, fun a' rows' h1 => ?_, fun f hf => ⟨fun a' rows' h1 => ?_, fun h1 => (by cases h1)⟩⟩
      · cases h1
        dsimp only
        omega
      · cases h1
        exact k2 f hf
theorem stAt_follow {x : Ras} {l : List Rc} (hok : okR x = true) (hm : ∀ j, j < l.length → mayB (l.getD j default) = true) : ∀ k, k ≤ l.length → Follow k (stAt x l k)
  | 0, _ => ⟨hok, fun i f g h => (by simp [stAt] at h), fun a rows h => (by cases h), fun f h => (by simp [stAt] at h)⟩
  | k + 1, hk => by
    rw [stAt]
    exact (stAt_follow hok hm k (by omega)).step (hm k (by omega))
/-! no row has more than eight bytes -/
def Eight (x : Ras) (rows : List (List Int)) : Prop := rows.length = 128 ∧ ∀ j, j < 128 → (rows.getD j []).length ≤ 8 ∧ (x.1 < 80 + j → rows.getD j [] = []) ∧ (x.1 = 80 + j → ((rows.getD j []).length : Int) ≤ x.2.2.2)
theorem Eight.start {x : Ras} (h : okR x = true) : Eight x (List.replicate 128 []) := by
  obtain ⟨l, c, o, g⟩ := x
  have hk := of_okB h
  refine ⟨List.length_replicate .., fun j hj => ?_⟩
  rw [rep_getD hj]
  dsimp only at hk ⊢
  exact ⟨by simp, fun _ => rfl, fun _ => by simp; omega⟩
theorem Eight.next {x : Ras} {r : Rc} {rows : List (List Int)} (h : Eight x rows) (hok : okR x = true) (hm : mayB r = true) : (∀ j, j < 128 → ((tookN x r rows).getD j []).length ≤ 8) ∧ (atZ (rasN x r) = false → Eight (rasN x r) (tookN x r rows)) := by
  have hok' := rasN_ok hok hm
  have hz' := atZ_P hok'
  have hP := rasN_P hok hm
  obtain ⟨hn, h⟩ := h
  obtain ⟨l, c, o, g⟩ := x
  have hk := of_okB hok
  unfold mayB at hm
  simp only [Bool.and_eq_true, decide_eq_true_eq] at hm
  have hm3 := hm.1.2
  have hras : rasN (l, c, o, g) r = if c + 1 = 14 then (if l + 1 = 262 then 0 else l + 1, 0, onB o r.port r.rd r.wr r.md, 0) else (l, c + 1, onB o r.port r.rd r.wr r.md, if tB l c o g r.code r.rd = true then g + 1 else g) := by
    unfold rasN step
    rw [if_pos ⟨hok, hm3⟩]
  dsimp only at hk h
  by_cases ht : takesN (l, c, o, g) r = true
  · have hlt := takesN_line ht
    have htb : tB l c o g r.code r.rd = true := ht
    have hg8 : g < 8 := by
      unfold tB wB at htb
      simp only [Bool.and_eq_true, decide_eq_true_eq] at htb
      exact htb.1.1.2
    have hln : lineN (l, c, o, g) = (l - 80).toNat := rfl
    have htook : tookN (l, c, o, g) r rows = rows.set (lineN (l, c, o, g)) (rows.getD (lineN (l, c, o, g)) [] ++ [r.data]) := if_pos ht
    dsimp only at hlt
    have hget : ∀ j, (tookN (l, c, o, g) r rows).getD j [] = if lineN (l, c, o, g) = j ∧ lineN (l, c, o, g) < rows.length then rows.getD (lineN (l, c, o, g)) [] ++ [r.data] else rows.getD j [] := fun j => by rw [htook, set_getD]
    refine ⟨fun j hj => ?_, fun hzf => ⟨by rw [tookN_len]; exact hn, fun j hj => ?_⟩⟩
    · rw [hget]
      split
      · rename_i he
        have := (h j hj).2.2 (by omega)
        rw [← he.1] at this
        rw [List.length_append]
        simp only [List.length_cons, List.length_nil]
        omega
      · exact (h j hj).1
    · rw [hget, hras]
      rw [hz', hras] at hzf
      rw [if_pos htb] at hzf ⊢
      obtain ⟨h1, h2, h3⟩ := h j hj
      by_cases he : lineN (l, c, o, g) = j
      · rw [if_pos ⟨he, by omega⟩, he]
        have h3' := h3 (by omega)
        rw [List.length_append]
        simp only [List.length_cons, List.length_nil]
        by_cases hc : c + 1 = 14
        · rw [if_pos hc]
          dsimp only
          refine ⟨by omega, fun hh => ?_, fun hh => ?_⟩
          · exfalso; split at hh <;> omega
          · exfalso; split at hh <;> omega
        · rw [if_neg hc]
          dsimp only
          exact ⟨by omega, fun hh => by exfalso; omega, fun hh => by omega⟩
      · rw [if_neg (fun hh => he hh.1)]
        by_cases hc : c + 1 = 14
        · rw [if_pos hc] at hzf ⊢
          dsimp only
          unfold P at hzf
          dsimp only at hzf
          rw [decide_eq_false_iff_not] at hzf
          by_cases hw : l + 1 = 262
          · rw [if_pos hw] at hzf; exfalso; exact hzf rfl
          · rw [if_neg hw]
            exact ⟨h1, fun hh => h2 (by omega), fun hh => by rw [h2 (by omega)]; simp⟩
        · rw [if_neg hc]
          dsimp only
          exact ⟨h1, fun hh => h2 hh, fun hh => by exfalso; omega⟩
  · have htb : tB l c o g r.code r.rd = false := by
      cases hb : tB l c o g r.code r.rd with
      | false => rfl
      | true => exact absurd hb ht
    have htook : tookN (l, c, o, g) r rows = rows := if_neg ht
    rw [htook]
    refine ⟨fun j hj => (h j hj).1, fun hzf => ⟨hn, fun j hj => ?_⟩⟩
    rw [hras]
    rw [hz', hras] at hzf
    rw [htb] at hzf ⊢
    simp only [Bool.false_eq_true, if_false] at hzf ⊢
    obtain ⟨h1, h2, h3⟩ := h j hj
    by_cases hc : c + 1 = 14
    · rw [if_pos hc] at hzf ⊢
      dsimp only
      unfold P at hzf
      dsimp only at hzf
      rw [decide_eq_false_iff_not] at hzf
      by_cases hw : l + 1 = 262
      · rw [if_pos hw] at hzf; exfalso; exact hzf rfl
      · rw [if_neg hw]
        exact ⟨h1, fun hh => h2 (by omega), fun hh => by rw [h2 (by omega)]; simp⟩
    · rw [if_neg hc]
      dsimp only
      exact ⟨h1, h2, h3⟩
theorem stAt_eight {x : Ras} {l : List Rc} (hok : okR x = true) (hm : ∀ j, j < l.length → mayB (l.getD j default) = true) : ∀ k, k ≤ l.length → (∀ a rows, (stAt x l k).now = some (a, rows) → Eight (stAt x l k).ras rows) ∧ ∀ f ∈ (stAt x l k).out, ∀ j, j < 128 → (f.rows.getD j []).length ≤ 8
  | 0, _ => ⟨fun a rows h => (by cases h), fun f hf => (by cases hf)⟩
  | k + 1, hk => by
    obtain ⟨h1, h2⟩ := stAt_eight hok hm k (by omega)
    have ho := stAt_ok hok hm k (by omega)
    have hr := hm k (by omega)
    rw [stAt]
    generalize l.getD k default = r at hr
    generalize stAt x l k = s at h1 h2 ho
    obtain ⟨y, w, o⟩ := s
    dsimp only at h1 h2 ho
    cases hbs : begunN y w k with
    | none => rw [stF_none hbs]; exact ⟨fun a rows h => (by cases h), h2⟩
    | some p =>
      obtain ⟨a, rows⟩ := p
      have he : Eight y rows := by
        unfold begunN at hbs
        split at hbs
        · cases hbs; exact Eight.start ho
        · exact h1 a rows hbs
      obtain ⟨e1, e2⟩ := he.next ho hr
      cases hz : atZ (rasN y r) with
      | true =>
        rw [stF_fin hbs hz]
        refine ⟨fun a rows h => (by cases h), fun f hf => ?_⟩
        rcases List.mem_append.1 hf with hf | hf
        · exact h2 f hf
        · rw [List.mem_singleton.1 hf]; exact e1
      | false =>
        rw [stF_go hbs hz]
        exact ⟨fun a' rows' h => by cases h; exact e2 hz, h2⟩
/-! counting -/
theorem filter_at {α : Type} {p : α → Bool} {l : List α} {i : Nat} {x : α} (h : l[i]? = some x) (hp : p x = true) : (l.filter p)[((l.take i).filter p).length]? = some x := by
  obtain ⟨hi, he⟩ := List.getElem?_eq_some_iff.1 h
  have e : l = l.take i ++ x :: l.drop (i + 1) := by rw [← he, ← List.drop_eq_getElem_cons hi, List.take_append_drop]
  have e2 : l.filter p = (l.take i).filter p ++ x :: (l.drop (i + 1)).filter p := by
    conv => lhs; rw [e]
    rw [List.filter_append, List.filter_cons, if_pos hp]
  rw [e2, List.getElem?_append_right (Nat.le_refl _), Nat.sub_self]
  rfl
theorem filter_take {α : Type} {p : α → Bool} {l : List α} {i : Nat} {x : α} (h : l[i]? = some x) : ((l.take (i + 1)).filter p).length = ((l.take i).filter p).length + if p x = true then 1 else 0 := by
  rw [List.take_add_one, h, List.filter_append, List.length_append]
  congr 1
  simp only [Option.toList_some, List.filter_cons, List.filter_nil]
  split <;> rfl
end Go.Proofs.YtpakphgeichopaaDoor
set_option linter.unusedVariables false
set_option linter.unusedSimpArgs false
namespace Go.Proofs.YtpakphgeichopaaDoor
open Go.RowKit Go.SX Go.Proofs
open Go.SX renaming ia_someH → Φa

theorem Sl.drop {α : Type} {sz : Nat} {R : (Addr → Value → Prop) → Addr → α → Prop} {C : Addr → Value → Prop} {A : Option Addr} {n c k : Nat} {xs : List α} (h : Sl sz R C (.slice A n c) xs) (hk : k ≤ n) : Sl sz R C (.slice (cutA A sz c k) (n - k) (c - k)) (xs.drop k) := by
  obtain ⟨A', c', he, hc, hA⟩ := h
  injection he with e1 e2 e3
  subst e1 e2 e3
  refine ⟨_, c - k, by rw [List.length_drop], by rw [List.length_drop]; omega, fun j x hj => ?_⟩
  rw [List.getElem?_drop] at hj
  obtain ⟨a, ha, hR⟩ := hA (k + j) x hj
  have hlt := (List.getElem?_eq_some_iff.1 hj).1
  refine ⟨a.add (k * sz), ?_, ?_⟩
  · unfold cutA
    rw [if_neg (by omega), ha]
    rfl
  · rw [add_addS, ← Nat.add_mul]
    exact hR
theorem RowL.at0 {Γ : Ctx} {α : Type} {f : α → List Value} {e sz : Nat} {l : List α} {g cap n : Nat} {s : Slot} (hf : ∀ x, (f x).length = sz) (h : RowL f e sz (.slice (some ⟨g, 0, none⟩) n cap) l s) : ∀ H : Hp, s ∈ H → ∀ j x, l[j]? = some x → ∀ i u, (f x)[i]? = some u → Cell Γ H ⟨g, j * sz + i, none⟩ u := by
  intro H hs j x hj i u hu
  obtain ⟨p, hp⟩ := List.mem_iff_getElem?.1 hs
  obtain ⟨A', c', he, hc, hA⟩ := RowL.sl (Γ := Γ) hf h hp
  injection he with e1 e2 e3
  subst e1
  obtain ⟨a, ha, hR⟩ := hA j x hj
  cases ha
  have := hR i u hu
  rw [add_addS, Addr.add_lit, Nat.zero_add] at this
  exact this
theorem less_front {a b c d : Slot} {S R : Hp} : Less (a :: (S ++ (b :: c :: d :: R))) (d :: b :: a :: (S ++ (c :: R))) := by
  refine Less.perm ?_
  have p1 : (S ++ (b :: c :: d :: R)).Perm (b :: (S ++ (c :: d :: R))) := List.perm_middle
  have p2 : (S ++ (c :: d :: R)).Perm (d :: (S ++ (c :: R))) := by
    have e1 : S ++ (c :: d :: R) = (S ++ [c]) ++ d :: R := by simp
    have e2 : S ++ (c :: R) = (S ++ [c]) ++ R := by simp
    rw [e1, e2]
    exact List.perm_middle
  refine (List.Perm.cons a (p1.trans (List.Perm.cons b p2))).trans ?_
  exact (List.Perm.swap b a _).trans ((List.Perm.cons b (List.Perm.swap d a _)).trans (List.Perm.swap d b _))
theorem subl_end4 {a b c d : Slot} {S1 S2 R : Hp} : List.Sublist R (S1 ++ (a :: b :: c :: (S2 ++ (d :: R)))) :=
  (((List.Sublist.refl R).cons d).trans (List.sublist_append_right S2 _) |>.cons c |>.cons b |>.cons a).trans (List.sublist_append_right S1 _)
theorem ofP_err {x : Ras} {l : List Rc} (h : ¬ (ofP x l).2 = 0) : (ofP x l).1 = [] := by
  unfold ofP at h ⊢
  split
  · rfl
  · split
    · rename_i h1 h2; rw [if_neg h1, if_pos h2] at h; exact absurd rfl h
    · rfl
theorem ofP_facts {x : Ras} {l : List Rc} (h : (ofP x l).2 = 0) : (∀ f ∈ (ofP x l).1, 0 ≤ f.at_ ∧ f.at_ ≤ 4194304 ∧ cnt f.rows ≤ 4194304 ∧ f.rows.length = 128 ∧ ∀ j, j < 128 → (f.rows.getD j []).length ≤ 8) ∧ ∀ i f g, (ofP x l).1[i]? = some f → (ofP x l).1[i + 1]? = some g → g.at_ = f.at_ + 3668 := by
  obtain ⟨_, hok, hch⟩ := ofP_cut h (Nat.zero_le _)
  obtain ⟨hl, hm⟩ := chkL_zero hch
  have h1 := (stAt_lt x l l.length).2
  have h2 := (stAt_cnt x l l.length).2
  have h3 := (stAt_eight hok hm l.length (Nat.le_refl _)).2
  have h4 := (stAt_follow hok hm l.length (Nat.le_refl _)).con
  rw [ofP_ok hok hch]
  exact ⟨fun f hf => by
    have := h1 f hf
    have := h2 f hf
    exact ⟨by omega, by omega, by omega, by omega, h3 f hf⟩, h4⟩
set_option maxHeartbeats 1000000 in
set_option maxRecDepth 100000 in
theorem FrameParts_spec {Γ : Ctx} (hP : Γ.P = Tryd.prog) {L : Hp} (S : SH Γ) {x : Ras} {v : Value} {l : List Rc} {ta tb tm : Int} (hl : SlC (Cell Γ []) v l) :
    SCall Γ 7 #[(.agg #[.int .i64 x.1, .int .i64 x.2.1, .bool x.2.2.1, .int .i64 x.2.2.2]), v, (.agg #[.int .i64 ta, .int .u8 tb, .int .i64 tm])] L (fun v L' => v = .bool true ∧ L' = L) := by
  obtain ⟨A, c, rfl, hc⟩ := Sl.shape hl
  obtain ⟨a1, e1, _, hA⟩ := Sl.at1 hl
  refine SCall.enter (n := 182) (res1 6) (hP ▸ Tryd.func7) rfl rfl (by simp) (res1_ok rfl) ?_
  refine SX.seq_k fun K1 hK1 => ?_
  refine SX.region_d [some 3, some 5, some 6] rfl (fun ops hops => ?_)
  unfold Dsts at hops
  simp (maxSteps:=1000000)(dsimp:=false)(disch:=omega) only [go_sem, Φa, hP, hops]
  intro bR
  try with_reducible refine stI ?_
  try simp (maxSteps:=1000000)(dsimp:=false)(disch:=omega) only [go_sem, Φa, hP, hops]
  intro bT
  try with_reducible refine stI ?_
  try simp (maxSteps:=1000000)(dsimp:=false)(disch:=omega) only [go_sem, Φa, hP, hops]
  refine hK1 _ _ ?_
  try clear hK1 K1
  refine SX.seq_k fun K2 hK2 => ?_
  refine SX.seq_k fun K3 hK3 => ?_
  refine SX.region_xd [some 20, some 21, some 22, some 23, some 24, some 25, some 26, some 27] rfl (fun ops hops => ?_)
  unfold Dsts at hops
  refine RX.live [1, 3, 5] (fun T1 hT1 => ?_)
  simp only [forall_mem_cons', forall_mem_nil', go_sem, Φa, hP] at hT1
  obtain ⟨h1_1, h1_3, h1_5⟩ := hT1
  refine RX.join 8 (fun (ss : Unit) T L' => T 27 = .bool (decide (2147483647 < l.length) || decide (l.length = 0)) ∧ T 1 = T1 1 ∧ T 3 = T1 3 ∧ T 5 = T1 5 ∧ L' = some (bT, .cells [.int .i64 ta, .int .u8 tb, .int .i64 tm].toArray 46 (0, 0)) :: some (bR, .cells [.int .i64 x.1, .int .i64 x.2.1, .bool x.2.2.1, .int .i64 x.2.2.2].toArray 24 (0, 0)) :: L ∧ (True)) (fun K4 hK4 => ?_) ?_
  · simp only [h1_1, h1_3, h1_5] at hK4
    simp (maxSteps:=1000000)(dsimp:=false)(disch:=omega) only [go_sem, Φa, hP, h1_1, h1_3, h1_5, hops]
    repeat' (first | refine iteB (fun hg => ?_) (fun hg => ?_) | refine iteI (fun hg => ?_) (fun hg => ?_) | ((first | refine And.intro (by omega) ?_ | refine ⟨_, Cell.at 0 rfl rfl, ?_⟩ | refine ⟨_, Cell.at 1 rfl rfl, ?_⟩ | fail); try (with_reducible refine stI ?_); try simp (maxSteps:=1000000)(dsimp:=false)(disch:=omega) only [go_sem, Φa, hP, h1_1, h1_3, h1_5, hops]) | fail)
    all_goals
      refine hK4 () _ (some (bT, .cells [.int .i64 ta, .int .u8 tb, .int .i64 tm].toArray 46 (0, 0)) :: some (bR, .cells [.int .i64 x.1, .int .i64 x.2.1, .bool x.2.2.1, .int .i64 x.2.2.2].toArray 24 (0, 0)) :: L) _ (by first | exact Less.refl _ | exact Less.drop _ _ | exact Less.drops (Less.drop _ _) | exact Less.drops (Less.drops (Less.drop _ _)) | exact Less.drops (Less.drops (Less.drops (Less.drop _ _))) | exact Less.drops (Less.drops (Less.drops (Less.drops (Less.drop _ _))))) ?_
      try dsimp only
      refine ⟨?_, ?_, ?_, ?_, ?_, ?_⟩
      · simp (maxSteps:=1000000)(dsimp:=false)(disch:=omega) only [go_sem, Φa, hP, h1_1, h1_3, h1_5]
        first | done | (refine congrArg Value.bool ?_; rw [Bool.eq_iff_iff]; simp only [Bool.or_eq_true,Bool.and_eq_true,Bool.not_eq_true',Bool.not_eq_false',bne_iff_ne,decide_eq_true_eq,decide_eq_false_iff_not,Bool.true_eq_false,Bool.false_eq_true,true_iff,iff_true,false_iff,iff_false,ne_eq]; omega) | (refine congrArg Value.bool ?_; simp_all; first | done | omega)
      · simp (maxSteps:=1000000)(dsimp:=false)(disch:=omega) only [go_sem, Φa, hP, h1_1, h1_3, h1_5]
      · simp (maxSteps:=1000000)(dsimp:=false)(disch:=omega) only [go_sem, Φa, hP, h1_1, h1_3, h1_5]
      · simp (maxSteps:=1000000)(dsimp:=false)(disch:=omega) only [go_sem, Φa, hP, h1_1, h1_3, h1_5]
      · rfl
      · trivial
  · intro ss T2 L2 hI
    simp only [h1_1, h1_3, h1_5] at hI 
    obtain ⟨h2_27, h2_1, h2_3, h2_5, hL2, hinv⟩ := hI
    replace hL2 := hL2.symm
    subst hL2
    clear h1_1 h1_3 h1_5 T1
    refine RX.done ?_
    simp (maxSteps:=1000000)(dsimp:=false)(disch:=omega) only [go_sem, Φa, hP, h2_27, h2_1, h2_3, h2_5, hops]
    refine hK3 _ _ ?_
    try clear hK3 K3
    refine SX.cond_k fun X5 Y5 hX5 hY5 => ?_
    simp (maxSteps:=1000000)(dsimp:=false)(disch:=omega) only [go_sem, Φa, hP, h2_27, h2_1, h2_3, h2_5, condVC]
    refine ⟨fun hc27 => hX5 ?_, fun hc27 => hY5 ?_⟩
    · clear hX5 hY5 X5 Y5
      refine SX.seq_k fun K6 hK6 => ?_
      refine SX.region_d [some 6] rfl (fun ops hops => ?_)
      unfold Dsts at hops
      simp (maxSteps:=1000000)(dsimp:=false)(disch:=omega) only [go_sem, Φa, hP, h2_27, h2_1, h2_3, h2_5, hops]
      refine hK6 _ _ ?_
      try clear hK6 K6
      refine SX.ret ?_
      simp only [andThen_normal, andThen_ret, andThen_exit, inBlk_normal, inBlk_ret, inBlk_exit, Nat.reduceEqDiff, if_true, if_false, ↓reduceIte, retQ_ret]
      try simp only [res0, res1, res2, res3, stK_e, go_sem, Φa, hP, h2_27, h2_1, h2_3, h2_5]
      exact ⟨_, _, Less.drops (Less.drop _ _), rfl, rfl, rfl⟩
    · clear hX5 hY5 X5 Y5
      refine SX.skip ?_
      try simp only [andThen_normal, andThen_ret, andThen_exit, inBlk_normal, inBlk_ret, inBlk_exit, Nat.reduceEqDiff, if_true, if_false, ↓reduceIte]
      refine hK2 _ _ ?_
      try clear hK2 K2
      refine SX.seq_k fun K7 hK7 => ?_
      have hno : l.length ≤ 2147483647 ∧ 0 < l.length := by simp only [Bool.or_eq_false_iff, decide_eq_false_iff_not] at hc27; omega
      obtain ⟨n, hn, hn2⟩ := i64_and_le tm 16383 (by decide)
      rw [show (((16383 : Nat)) : Int) = 16383 from rfl] at hn
      obtain ⟨N, hN⟩ : ∃ N : Nat, N = 3000 + n := ⟨_, rfl⟩
      have hNi : (3000 : Int) + (n : Int) = (N : Int) := by omega
      refine SX.region_d [some 28, some 29, some 30, some 31, some 7] rfl (fun ops hops => ?_)
      unfold Dsts at hops
      simp (maxSteps:=1000000)(dsimp:=false)(disch:=omega) only [go_sem, Φa, hP, h2_27, h2_1, h2_3, h2_5, hops, hn, hNi]
      refine ⟨_, Cell.at 0 rfl rfl, ?_⟩
      try with_reducible refine stI ?_
      try simp (maxSteps:=1000000)(dsimp:=false)(disch:=omega) only [go_sem, Φa, hP, h2_27, h2_1, h2_3, h2_5, hops, hn, hNi]
      refine hK7 _ _ ?_
      try clear hK7 K7
      refine SX.seq_k fun K8 hK8 => ?_
      refine SX.less (Less.none _) ?_
      refine SX.region_d [some 8] rfl (fun ops hops => ?_)
      unfold Dsts at hops
      simp (maxSteps:=1000000)(dsimp:=false)(disch:=omega) only [go_sem, Φa, hP, h2_27, h2_1, h2_3, h2_5, hops]
      refine hK8 _ _ ?_
      try clear hK8 K8
      refine SX.seq_k fun K9 hK9 => ?_
      refine SX.seq_k fun K10 hK10 => ?_
      refine SX.region_d [some 9] rfl (fun ops hops => ?_)
      unfold Dsts at hops
      simp (maxSteps:=1000000)(dsimp:=false)(disch:=omega) only [go_sem, Φa, hP, h2_27, h2_1, h2_3, h2_5, hops]
      refine hK10 _ _ ?_
      try clear hK10 K10
      refine SX.block ?_
      refine SX.live [1, 3, 5, 7, 8, 9] (fun T3 hT3 => ?_)
      simp only [forall_mem_cons', forall_mem_nil', go_sem, Φa, hP, h2_27, h2_1, h2_3, h2_5] at hT3
      obtain ⟨h3_1, h3_3, h3_5, h3_7, h3_8, h3_9⟩ := hT3
      clear h2_27 h2_1 h2_3 h2_5 T2
      refine SX.loop_k (fun (ss : (Nat) × (Value) × (Slot)) T L' => (fun (i : Nat) (vx : Value) (sx : Slot) => T 8 = vx ∧ T 9 = .int .i64 (i : Int) ∧ T 1 = T3 1 ∧ T 3 = T3 3 ∧ T 5 = T3 5 ∧ T 7 = T3 7 ∧ L' = sx :: some (bT, .cells [.int .i64 ta, .int .u8 tb, .int .i64 tm].toArray 46 (0, 0)) :: some (bR, .cells [.int .i64 x.1, .int .i64 x.2.1, .bool x.2.2.1, .int .i64 x.2.2.2].toArray 24 (0, 0)) :: L ∧ (i ≤ N ∧ RowL Rc.cells 29 8 vx (cyc l i) sx)) (ss.1) (ss.2.1) (ss.2.2)) (fun (ss : (Nat) × (Value) × (Slot)) => (fun (i : Nat) (vx : Value) (sx : Slot) => N - i) (ss.1) (ss.2.1) (ss.2.2)) (0, .slice none 0 0, none) ?_ ?_
      · try dsimp only
        refine ⟨?_, ?_, ?_, ?_, ?_, ?_, ?_, ?_⟩
        · first | exact h3_8 | (rw [h3_8]; rfl) | (rw [h3_8]; simp; done)
        · first | exact h3_9 | (rw [h3_9]; rfl) | (rw [h3_9]; simp; done)
        · rfl
        · rfl
        · rfl
        · rfl
        · rfl
        · exact ⟨Nat.zero_le _, RowL.nil _ _ _⟩
      · intro ss T4 L4 hI K11 hK11
        obtain ⟨i, vx, sx⟩ := ss
        try dsimp only at hI hK11
        simp only [h3_1, h3_3, h3_5, h3_7] at hI hK11
        obtain ⟨h4_8, h4_9, h4_1, h4_3, h4_5, h4_7, hL4, ⟨hi, hrow⟩⟩ := hI
        replace hL4 := hL4.symm
        subst hL4
        clear h3_1 h3_3 h3_5 h3_7 h3_8 h3_9 T3
        refine SX.seq_k fun K12 hK12 => ?_
        refine SX.seq_k fun K13 hK13 => ?_
        refine SX.region_d [some 32, some 33, some 34] rfl (fun ops hops => ?_)
        unfold Dsts at hops
        simp (maxSteps:=1000000)(dsimp:=false)(disch:=omega) only [go_sem, Φa, hP, h4_8, h4_9, h4_1, h4_3, h4_5, h4_7, hops]
        repeat' ((first | refine And.intro (by omega) ?_ | fail); try (with_reducible refine stI ?_); try simp (maxSteps:=1000000)(dsimp:=false)(disch:=omega) only [go_sem, Φa, hP, h4_8, h4_9, h4_1, h4_3, h4_5, h4_7, hops])
        refine hK13 _ _ ?_
        try clear hK13 K13
        refine SX.cond_k fun X14 Y14 hX14 hY14 => ?_
        simp (maxSteps:=1000000)(dsimp:=false)(disch:=omega) only [go_sem, Φa, hP, h4_8, h4_9, h4_1, h4_3, h4_5, h4_7, condVC]
        refine ⟨fun hc34 => hX14 ?_, fun hc34 => hY14 ?_⟩
        · clear hX14 hY14 X14 Y14
          refine SX.skip ?_
          try simp only [andThen_normal, andThen_ret, andThen_exit, inBlk_normal, inBlk_ret, inBlk_exit, Nat.reduceEqDiff, if_true, if_false, ↓reduceIte]
          refine hK12 _ _ ?_
          try clear hK12 K12
          refine SX.seq_k fun K15 hK15 => ?_
          refine SX.block ?_
          have hcy : i % l.length < l.length := Nat.mod_lt _ (by omega)
          have hck := hA (i % l.length) _ (getD_get (d := default) hcy)
          have htm := tmod_nat i l.length
          have hcl := cyc_len l i
          refine SX.region_d [some 37, some 38, some 39, some 40, some 41, some 42, some 43, some 44, some 45, some 46, some 8] rfl (fun ops hops => ?_)
          unfold Dsts at hops
          simp (maxSteps:=1000000)(dsimp:=false)(disch:=omega) only [go_sem, Φa, hP, h4_8, h4_9, h4_1, h4_3, h4_5, h4_7, hops, ia_at e1, htm]
          refine ⟨_, Cell.cons _ (Cell.cons _ (Cell.cons _ (Cell.any (hck 0 _ rfl)))), _, Cell.cons _ (Cell.cons _ (Cell.cons _ (Cell.any (hck 1 _ rfl)))), _, Cell.cons _ (Cell.cons _ (Cell.cons _ (Cell.any (hck 2 _ rfl)))), _, Cell.cons _ (Cell.cons _ (Cell.cons _ (Cell.any (hck 3 _ rfl)))), _, Cell.cons _ (Cell.cons _ (Cell.cons _ (Cell.any (hck 4 _ rfl)))), _, Cell.cons _ (Cell.cons _ (Cell.cons _ (Cell.any (hck 5 _ rfl)))), _, Cell.cons _ (Cell.cons _ (Cell.cons _ (Cell.any (hck 6 _ rfl)))), _, Cell.cons _ (Cell.cons _ (Cell.cons _ (Cell.any (hck 7 _ rfl)))), ?_⟩
          try with_reducible refine stI ?_
          try simp (maxSteps:=1000000)(dsimp:=false)(disch:=omega) only [go_sem, Φa, hP, h4_8, h4_9, h4_1, h4_3, h4_5, h4_7, hops, ia_at e1, htm]
          intro g8
          try with_reducible refine stI ?_
          try simp (maxSteps:=1000000)(dsimp:=false)(disch:=omega) only [go_sem, Φa, hP, h4_8, h4_9, h4_1, h4_3, h4_5, h4_7, hops, ia_at e1, htm]
          refine YAppend.rowL (f := Rc.cells) (x := l.getD (i % l.length) default) (i := 0) (z := [.int .u8 0, .int .u16 0, .int .u8 0, .bool false, .bool false, .int .u8 0, .bool false, .int .u8 0]) (hP ▸ T.elS_25) (hP ▸ T.zr_29) rfl rfl rfl rfl hrow (by omega) (by decide) ?_
          intro v' s' hrow'
          try with_reducible refine stI ?_
          try simp (maxSteps:=1000000)(dsimp:=false)(disch:=omega) only [go_sem, Φa, hP, h4_8, h4_9, h4_1, h4_3, h4_5, h4_7, hops, ia_at e1, htm]
          refine hK15 _ _ ?_
          try clear hK15 K15
          refine SX.live [1, 3, 5, 7, 8, 9] (fun T5 hT5 => ?_)
          simp only [forall_mem_cons', forall_mem_nil', go_sem, Φa, hP, h4_8, h4_9, h4_1, h4_3, h4_5, h4_7] at hT5
          obtain ⟨h5_1, h5_3, h5_5, h5_7, h5_8, h5_9⟩ := hT5
          clear h4_8 h4_9 h4_1 h4_3 h4_5 h4_7 T4
          refine SX.region_d [some 35, some 36, some 9] rfl (fun ops hops => ?_)
          unfold Dsts at hops
          simp (maxSteps:=1000000)(dsimp:=false)(disch:=omega) only [go_sem, Φa, hP, h5_1, h5_3, h5_5, h5_7, h5_8, h5_9, hops]
          repeat' ((first | refine And.intro (by omega) ?_ | fail); try (with_reducible refine stI ?_); try simp (maxSteps:=1000000)(dsimp:=false)(disch:=omega) only [go_sem, Φa, hP, h5_1, h5_3, h5_5, h5_7, h5_8, h5_9, hops])
          refine hK11 (i + 1, v', s') _ (s' :: some (bT, .cells [.int .i64 ta, .int .u8 tb, .int .i64 tm].toArray 46 (0, 0)) :: some (bR, .cells [.int .i64 x.1, .int .i64 x.2.1, .bool x.2.2.1, .int .i64 x.2.2.2].toArray 24 (0, 0)) :: L) _ (by exact Less.drop _ _) ?_ ?_
          · try dsimp only
            refine ⟨?_, ?_, ?_, ?_, ?_, ?_, ?_, ?_⟩
            · simp (maxSteps:=1000000)(dsimp:=false)(disch:=omega) only [go_sem, Φa, hP, h5_1, h5_3, h5_5, h5_7, h5_8, h5_9]
              first | done | rfl | skip
            · simp (maxSteps:=1000000)(dsimp:=false)(disch:=omega) only [go_sem, Φa, hP, h5_1, h5_3, h5_5, h5_7, h5_8, h5_9]
              first | done | rfl | skip
            · simp (maxSteps:=1000000)(dsimp:=false)(disch:=omega) only [go_sem, Φa, hP, h5_1, h5_3, h5_5, h5_7, h5_8, h5_9]
            · simp (maxSteps:=1000000)(dsimp:=false)(disch:=omega) only [go_sem, Φa, hP, h5_1, h5_3, h5_5, h5_7, h5_8, h5_9]
            · simp (maxSteps:=1000000)(dsimp:=false)(disch:=omega) only [go_sem, Φa, hP, h5_1, h5_3, h5_5, h5_7, h5_8, h5_9]
            · simp (maxSteps:=1000000)(dsimp:=false)(disch:=omega) only [go_sem, Φa, hP, h5_1, h5_3, h5_5, h5_7, h5_8, h5_9]
            · rfl
            · refine ⟨by omega, ?_⟩
              rw [cyc_succ]
              exact hrow'
          · (try dsimp only); omega
        · clear hX14 hY14 X14 Y14
          refine SX.exit ?_
          try simp only [andThen_normal, andThen_ret, andThen_exit, inBlk_normal, inBlk_ret, inBlk_exit, Nat.reduceEqDiff, if_true, if_false, ↓reduceIte]
          refine hK9 _ _ ?_
          try clear hK9 K9
          refine SX.seq_k fun K16 hK16 => ?_
          obtain rfl : i = N := by omega
          have hcl := cyc_len l i
          obtain ⟨m, hm9, _⟩ := i64_and_le ta 1048575 (by decide)
          rw [show (((1048575 : Nat)) : Int) = 1048575 from rfl] at hm9
          obtain ⟨k, hk⟩ : ∃ k : Nat, k = m % (i + 1) := ⟨_, rfl⟩
          have hki : k ≤ i := by have := Nat.mod_lt m (show 0 < i + 1 by omega); omega
          have htm9 : (m : Int).tmod ((i : Int) + 1) = (k : Int) := by rw [hk, ← tmod_nat]; rfl
          refine SX.region_d [some 47, some 48, some 49, some 50, some 51, some 52, some 10] rfl (fun ops hops => ?_)
          unfold Dsts at hops
          simp (maxSteps:=1000000)(dsimp:=false)(disch:=omega) only [go_sem, Φa, hP, h4_8, h4_9, h4_1, h4_3, h4_5, h4_7, hops, hm9, htm9]
          refine ⟨_, Cell.at 1 rfl rfl, ?_⟩
          try with_reducible refine stI ?_
          try simp (maxSteps:=1000000)(dsimp:=false)(disch:=omega) only [go_sem, Φa, hP, h4_8, h4_9, h4_1, h4_3, h4_5, h4_7, hops, hm9, htm9]
          refine hK16 _ _ ?_
          try clear hK16 K16
          refine SX.live [3, 8, 10] (fun T6 hT6 => ?_)
          simp only [forall_mem_cons', forall_mem_nil', go_sem, Φa, hP, h4_8, h4_9, h4_1, h4_3, h4_5, h4_7] at hT6
          obtain ⟨h6_3, h6_8, h6_10⟩ := hT6
          clear h4_8 h4_9 h4_1 h4_3 h4_5 h4_7 T4
          refine SX.seq_k fun K17 hK17 => ?_
          refine SX.region_d [some 54, some 55, some 56, some 53, some 57, some 58, some 11, some 12] rfl (fun ops hops => ?_)
          unfold Dsts at hops
          simp (maxSteps:=1000000)(dsimp:=false)(disch:=omega) only [go_sem, Φa, hP, h6_3, h6_8, h6_10, hops]
          refine ⟨_, Cell.at 2 rfl rfl, _, Cell.at 2 rfl rfl, _, Cell.at 2 rfl rfl, _, Cell.at 2 rfl rfl, ?_⟩
          try with_reducible refine stI ?_
          try simp (maxSteps:=1000000)(dsimp:=false)(disch:=omega) only [go_sem, Φa, hP, h6_3, h6_8, h6_10, hops]
          refine SCall.mono (Of_spec (l := cyc l i) hP (RowL.sl Rc.len hrow (i := 0) rfl) (by omega) S) ?_
          rintro v_ L_ ⟨vo1, so1, fs1, rfl, rfl, hrow1, hfs1, hmap1⟩
          try with_reducible refine stI ?_
          try simp (maxSteps:=1000000)(dsimp:=false)(disch:=omega) only [go_sem, Φa, hP, h6_3, h6_8, h6_10, hops]
          refine hK17 _ _ ?_
          try clear hK17 K17
          refine SX.seq_k fun K18 hK18 => ?_
          refine SX.seq_k fun K19 hK19 => ?_
          refine SX.region_d [some 59, some 60] rfl (fun ops hops => ?_)
          unfold Dsts at hops
          simp (maxSteps:=1000000)(dsimp:=false)(disch:=omega) only [go_sem, Φa, hP, h6_3, h6_8, h6_10, hops]
          repeat' ((first | refine And.intro (by omega) ?_ | fail); try (with_reducible refine stI ?_); try simp (maxSteps:=1000000)(dsimp:=false)(disch:=omega) only [go_sem, Φa, hP, h6_3, h6_8, h6_10, hops])
          refine hK19 _ _ ?_
          try clear hK19 K19
          refine SX.live [3, 8, 10, 11, 60] (fun T7 hT7 => ?_)
          simp only [forall_mem_cons', forall_mem_nil', go_sem, Φa, hP, h6_3, h6_8, h6_10] at hT7
          obtain ⟨h7_3, h7_8, h7_10, h7_11, h7_60⟩ := hT7
          clear h6_3 h6_8 h6_10 T6
          refine SX.cond_k fun X20 Y20 hX20 hY20 => ?_
          simp (maxSteps:=1000000)(dsimp:=false)(disch:=omega) only [go_sem, Φa, hP, h7_3, h7_8, h7_10, h7_11, h7_60, condVC]
          refine ⟨fun hc60 => hX20 ?_, fun hc60 => hY20 ?_⟩
          · clear hX20 hY20 X20 Y20
            refine SX.seq_k fun K21 hK21 => ?_
            refine SX.region_xd [some 61, some 62, some 63, some 64, some 65, some 66, some 6] rfl (fun ops hops => ?_)
            unfold Dsts at hops
            refine RX.live [11] (fun T8 hT8 => ?_)
            simp only [forall_mem_cons', forall_mem_nil', go_sem, Φa, hP, h7_3, h7_8, h7_10, h7_11, h7_60] at hT8
            have h8_11 := hT8; clear hT8
            clear h7_3 h7_8 h7_10 h7_11 h7_60 T7
            have hno2 : ¬ (ofP x (cyc l i)).2 = 0 := by simpa using hc60
            have hf0 : fs1 = [] := List.map_eq_nil_iff.1 (hmap1.trans (ofP_err hno2))
            subst hf0
            obtain ⟨A0, c0, rfl, _, _⟩ := Row.form hrow1
            have hlen0 : ((List.length ([] : List Ff) : Nat) : Int) = 0 := rfl
            refine RX.join 6 (fun (ss : Unit) T L' => T 66 = .bool (true) ∧ L' = so1 :: (segs [] ++ (sx :: some (bT, .cells [.int .i64 ta, .int .u8 tb, .int .i64 tm].toArray 46 (0, 0)) :: some (bR, .cells [.int .i64 x.1, .int .i64 x.2.1, .bool x.2.2.1, .int .i64 x.2.2.2].toArray 24 (0, 0)) :: L)) ∧ (True)) (fun K22 hK22 => ?_) ?_
            · simp (maxSteps:=1000000)(dsimp:=false)(disch:=omega) only [go_sem, Φa, hP, h8_11, hops, hlen0]
              repeat' (first | refine iteB (fun hg => ?_) (fun hg => ?_) | refine iteI (fun hg => ?_) (fun hg => ?_) | ((first | (refine SCall.mono (awake_spec hP S) ?_; rintro v_ L_ ⟨hv_, hL_⟩; rw [hv_, hL_]; clear hv_ hL_ v_ L_) | refine And.intro (by omega) ?_ | refine ⟨_, Cell.at 0 rfl rfl, ?_⟩ | refine ⟨_, Cell.at 1 rfl rfl, ?_⟩ | refine ⟨_, Cell.at 2 rfl rfl, ?_⟩ | refine ⟨_, Cell.at 3 rfl rfl, ?_⟩ | fail); try (with_reducible refine stI ?_); try simp (maxSteps:=1000000)(dsimp:=false)(disch:=omega) only [go_sem, Φa, hP, h8_11, hops, hlen0]) | fail)
              all_goals
                refine hK22 () _ (so1 :: (segs [] ++ (sx :: some (bT, .cells [.int .i64 ta, .int .u8 tb, .int .i64 tm].toArray 46 (0, 0)) :: some (bR, .cells [.int .i64 x.1, .int .i64 x.2.1, .bool x.2.2.1, .int .i64 x.2.2.2].toArray 24 (0, 0)) :: L))) _ (by first | exact Less.refl _ | exact Less.drop _ _ | exact Less.drops (Less.drop _ _) | exact Less.drops (Less.drops (Less.drop _ _)) | exact Less.drops (Less.drops (Less.drops (Less.drop _ _))) | exact Less.drops (Less.drops (Less.drops (Less.drops (Less.drop _ _))))) ?_
                try dsimp only
                refine ⟨?_, ?_, ?_⟩
                · simp (maxSteps:=1000000)(dsimp:=false)(disch:=omega) only [go_sem, Φa, hP, h8_11]
                  first | done | rfl | (refine congrArg Value.bool ?_; simp)
                · rfl
                · trivial
            · intro ss T9 L9 hI
              obtain ⟨h9_66, hL9, hinv⟩ := hI
              replace hL9 := hL9.symm
              subst hL9
              clear h8_11 T8
              refine RX.done ?_
              simp (maxSteps:=1000000)(dsimp:=false)(disch:=omega) only [go_sem, Φa, hP, h9_66, hops]
              refine hK21 _ _ ?_
              try clear hK21 K21
              refine SX.ret ?_
              simp only [andThen_normal, andThen_ret, andThen_exit, inBlk_normal, inBlk_ret, inBlk_exit, Nat.reduceEqDiff, if_true, if_false, ↓reduceIte, retQ_ret]
              try simp only [res0, res1, res2, res3, stK_e, go_sem, Φa, hP, h9_66]
              exact ⟨_, _, Less.drops (Less.sublist (List.Sublist.trans (.cons _ (.cons _ (.cons _ (List.Sublist.refl _)))) (List.sublist_append_right _ _))), rfl, rfl, rfl⟩
          · clear hX20 hY20 X20 Y20
            refine SX.skip ?_
            try simp only [andThen_normal, andThen_ret, andThen_exit, inBlk_normal, inBlk_ret, inBlk_exit, Nat.reduceEqDiff, if_true, if_false, ↓reduceIte]
            refine hK18 _ _ ?_
            try clear hK18 K18
            refine SX.seq_k fun K23 hK23 => ?_
            refine SX.seq_k fun K24 hK24 => ?_
            have he0 : (ofP x (cyc l i)).2 = 0 := by simpa using hc60
            obtain ⟨hcut, hok, hch⟩ := ofP_cut he0 (show k ≤ (cyc l i).length by omega)
            obtain ⟨hfx, hcon⟩ := ofP_facts he0
            obtain ⟨_, hmay⟩ := chkL_zero hch
            obtain ⟨gx, capx, junkx, rfl, hsx, hcx, _⟩ := RowL.form hrow (by omega)
            have hX := RowL.at0 (Γ := Γ) Rc.len hrow
            refine SX.less less_front ?_
            refine SX.region_d [some 13] rfl (fun ops hops => ?_)
            unfold Dsts at hops
            simp (maxSteps:=1000000)(dsimp:=false)(disch:=omega) only [go_sem, Φa, hP, h7_3, h7_8, h7_10, h7_11, h7_60, hops]
            refine hK24 _ _ ?_
            try clear hK24 K24
            refine SX.block ?_
            refine SX.live [3, 8, 10, 11, 13] (fun T10 hT10 => ?_)
            simp only [forall_mem_cons', forall_mem_nil', go_sem, Φa, hP, h7_3, h7_8, h7_10, h7_11, h7_60] at hT10
            obtain ⟨h10_3, h10_8, h10_10, h10_11, h10_13⟩ := hT10
            clear h7_3 h7_8 h7_10 h7_11 h7_60 T7
            refine SX.loop_k (fun (ss : (Nat)) T L' => (fun (q : Nat) => T 13 = .int .i64 (q : Int) ∧ T 3 = T10 3 ∧ T 8 = T10 8 ∧ T 10 = T10 10 ∧ T 11 = T10 11 ∧ L' = some (bR, .cells [.int .i64 (stAt x (cyc l i) q).ras.1, .int .i64 (stAt x (cyc l i) q).ras.2.1, .bool (stAt x (cyc l i) q).ras.2.2.1, .int .i64 (stAt x (cyc l i) q).ras.2.2.2].toArray 24 (0, 0)) :: sx :: so1 :: (segs fs1 ++ (some (bT, .cells [.int .i64 ta, .int .u8 tb, .int .i64 tm].toArray 46 (0, 0)) :: L)) ∧ (q ≤ k)) (ss)) (fun (ss : (Nat)) => (fun (q : Nat) => k - q) (ss)) 0 ?_ ?_
            · try dsimp only
              refine ⟨?_, ?_, ?_, ?_, ?_, ?_, ?_⟩
              · first | exact h10_13 | (rw [h10_13]; rfl) | (rw [h10_13]; simp; done)
              · rfl
              · rfl
              · rfl
              · rfl
              · rfl
              · exact Nat.zero_le _
            · intro q T11 L11 hI K25 hK25
              try dsimp only at hI hK25
              simp only [h10_3, h10_8, h10_10, h10_11] at hI hK25
              obtain ⟨h11_13, h11_3, h11_8, h11_10, h11_11, hL11, hq⟩ := hI
              replace hL11 := hL11.symm
              subst hL11
              clear h10_3 h10_8 h10_10 h10_11 h10_13 T10
              refine SX.seq_k fun K26 hK26 => ?_
              refine SX.seq_k fun K27 hK27 => ?_
              refine SX.region_d [some 67, some 68, some 69] rfl (fun ops hops => ?_)
              unfold Dsts at hops
              simp (maxSteps:=1000000)(dsimp:=false)(disch:=omega) only [go_sem, Φa, hP, h11_13, h11_3, h11_8, h11_10, h11_11, hops]
              repeat' ((first | refine And.intro (by omega) ?_ | fail); try (with_reducible refine stI ?_); try simp (maxSteps:=1000000)(dsimp:=false)(disch:=omega) only [go_sem, Φa, hP, h11_13, h11_3, h11_8, h11_10, h11_11, hops])
              refine hK27 _ _ ?_
              try clear hK27 K27
              refine SX.cond_k fun X28 Y28 hX28 hY28 => ?_
              simp (maxSteps:=1000000)(dsimp:=false)(disch:=omega) only [go_sem, Φa, hP, h11_13, h11_3, h11_8, h11_10, h11_11, condVC]
              refine ⟨fun hc69 => hX28 ?_, fun hc69 => hY28 ?_⟩
              · clear hX28 hY28 X28 Y28
                refine SX.skip ?_
                try simp only [andThen_normal, andThen_ret, andThen_exit, inBlk_normal, inBlk_ret, inBlk_exit, Nat.reduceEqDiff, if_true, if_false, ↓reduceIte]
                refine hK26 _ _ ?_
                try clear hK26 K26
                refine SX.seq_k fun K29 hK29 => ?_
                refine SX.block ?_
                have hql : q < (cyc l i).length := by omega
                have hri := getD_get (d := default) hql
                have hrs : (stAt x (cyc l i) (q + 1)).ras = rasN (stAt x (cyc l i) q).ras ((cyc l i).getD q default) := by rw [stAt, stF_ras]
                refine SX.drawn_d [(0, .q), (1, .q), (2, .q), (3, .q), (4, .q), (5, .q), (6, .q), (7, .q), (8, .q), (9, .q), (10, .q), (11, .q), (12, .q), (13, .q), (14, .q), (15, .q), (16, .q), (17, .q), (18, .q), (19, .q), (20, .q), (21, .q), (22, .q), (23, .q), (24, .q), (25, .q), (26, .q), (27, .e), (28, .t)] (fun L => L) (hP ▸ T.mixed) (by kernel_rfl) (by exact Less.refl _) [some 72, some 73, some 74, some 75, some 76, some 77, some 78, some 79, some 80, some 81, some 82, some 83, some 84, some 85, some 86, some 87, some 88, some 89, some 90, some 91, some 92, some 93, some 94, some 95, some 96, some 97, some 98, some 99, none] rfl (fun ops hops hopl => ?_)
                unfold Dsts at hops
                simp (maxSteps:=1000000)(dsimp:=false)(disch:=omega) only [go_sem, Φa, hP, h11_13, h11_3, h11_8, h11_10, h11_11, hops, hopl]
                refine ⟨_, Cell.at 0 rfl rfl, _, Cell.at 0 rfl rfl, _, Cell.at 0 rfl rfl, _, Cell.at 0 rfl rfl, ?_⟩
                try with_reducible refine stI ?_
                try simp (maxSteps:=1000000)(dsimp:=false)(disch:=omega) only [go_sem, Φa, hP, h11_13, h11_3, h11_8, h11_10, h11_11, hops, hopl]
                refine ⟨_, hX _ (by simp) _ _ hri 0 _ rfl, ?_⟩
                try with_reducible refine stI ?_
                try simp (maxSteps:=1000000)(dsimp:=false)(disch:=omega) only [go_sem, Φa, hP, h11_13, h11_3, h11_8, h11_10, h11_11, hops, hopl]
                refine ⟨_, hX _ (by simp) _ _ hri 3 _ rfl, ?_⟩
                try with_reducible refine stI ?_
                try simp (maxSteps:=1000000)(dsimp:=false)(disch:=omega) only [go_sem, Φa, hP, h11_13, h11_3, h11_8, h11_10, h11_11, hops, hopl]
                refine ⟨_, hX _ (by simp) _ _ hri 4 _ rfl, ?_⟩
                try with_reducible refine stI ?_
                try simp (maxSteps:=1000000)(dsimp:=false)(disch:=omega) only [go_sem, Φa, hP, h11_13, h11_3, h11_8, h11_10, h11_11, hops, hopl]
                refine ⟨_, hX _ (by simp) _ _ hri 5 _ rfl, ?_⟩
                try with_reducible refine stI ?_
                try simp (maxSteps:=1000000)(dsimp:=false)(disch:=omega) only [go_sem, Φa, hP, h11_13, h11_3, h11_8, h11_10, h11_11, hops, hopl]
                refine ⟨_, hX _ (by simp) _ _ hri 7 _ rfl, ?_⟩
                try with_reducible refine stI ?_
                try simp (maxSteps:=1000000)(dsimp:=false)(disch:=omega) only [go_sem, Φa, hP, h11_13, h11_3, h11_8, h11_10, h11_11, hops, hopl]
                refine SCall.mono (refStepR_spec (r := (cyc l i).getD q default) hP) ?_
                rintro v_ L_ ⟨hv_, hL_⟩
                rw [hv_, hL_]
                clear hv_ hL_ v_ L_
                try with_reducible refine stI ?_
                try simp (maxSteps:=1000000)(dsimp:=false)(disch:=omega) only [go_sem, Φa, hP, h11_13, h11_3, h11_8, h11_10, h11_11, hops, hopl]
                refine ⟨0, _, _, _, rfl, (by simp), .inr (by decide), ?_⟩
                try with_reducible refine stI ?_
                try simp (maxSteps:=1000000)(dsimp:=false)(disch:=omega) only [go_sem, Φa, hP, h11_13, h11_3, h11_8, h11_10, h11_11, hops, hopl]
                refine hK29 _ _ ?_
                try clear hK29 K29
                refine SX.live [3, 8, 10, 11, 13] (fun T12 hT12 => ?_)
                simp only [forall_mem_cons', forall_mem_nil', go_sem, Φa, hP, h11_13, h11_3, h11_8, h11_10, h11_11] at hT12
                obtain ⟨h12_3, h12_8, h12_10, h12_11, h12_13⟩ := hT12
                clear h11_13 h11_3 h11_8 h11_10 h11_11 T11
                refine SX.region_d [some 70, some 71, some 13] rfl (fun ops hops => ?_)
                unfold Dsts at hops
                simp (maxSteps:=1000000)(dsimp:=false)(disch:=omega) only [go_sem, Φa, hP, h12_3, h12_8, h12_10, h12_11, h12_13, hops]
                repeat' ((first | refine And.intro (by omega) ?_ | fail); try (with_reducible refine stI ?_); try simp (maxSteps:=1000000)(dsimp:=false)(disch:=omega) only [go_sem, Φa, hP, h12_3, h12_8, h12_10, h12_11, h12_13, hops])
                refine hK25 (q + 1) _ (some (bR, .cells [.int .i64 (stAt x (cyc l i) ((q + 1))).ras.1, .int .i64 (stAt x (cyc l i) ((q + 1))).ras.2.1, .bool (stAt x (cyc l i) ((q + 1))).ras.2.2.1, .int .i64 (stAt x (cyc l i) ((q + 1))).ras.2.2.2].toArray 24 (0, 0)) :: sx :: so1 :: (segs fs1 ++ (some (bT, .cells [.int .i64 ta, .int .u8 tb, .int .i64 tm].toArray 46 (0, 0)) :: L))) _ (by rw [hrs]; exact Less.refl _) ?_ ?_
                · try dsimp only
                  refine ⟨?_, ?_, ?_, ?_, ?_, ?_, ?_⟩
                  · simp (maxSteps:=1000000)(dsimp:=false)(disch:=omega) only [go_sem, Φa, hP, h12_3, h12_8, h12_10, h12_11, h12_13]
                    first | done | rfl | skip
                  · simp (maxSteps:=1000000)(dsimp:=false)(disch:=omega) only [go_sem, Φa, hP, h12_3, h12_8, h12_10, h12_11, h12_13]
                  · simp (maxSteps:=1000000)(dsimp:=false)(disch:=omega) only [go_sem, Φa, hP, h12_3, h12_8, h12_10, h12_11, h12_13]
                  · simp (maxSteps:=1000000)(dsimp:=false)(disch:=omega) only [go_sem, Φa, hP, h12_3, h12_8, h12_10, h12_11, h12_13]
                  · simp (maxSteps:=1000000)(dsimp:=false)(disch:=omega) only [go_sem, Φa, hP, h12_3, h12_8, h12_10, h12_11, h12_13]
                  · rfl
                  · omega
                · (try dsimp only); omega
              · clear hX28 hY28 X28 Y28
                refine SX.exit ?_
                try simp only [andThen_normal, andThen_ret, andThen_exit, inBlk_normal, inBlk_ret, inBlk_exit, Nat.reduceEqDiff, if_true, if_false, ↓reduceIte]
                refine hK23 _ _ ?_
                try clear hK23 K23
                refine SX.seq_k fun K30 hK30 => ?_
                obtain rfl : q = k := by omega
                refine SX.drawn_d [(0, .q), (1, .q), (2, .q), (3, .q), (4, .e), (5, .q), (6, .q), (7, .q), (8, .q), (9, .q)] (fun L => L) (hP ▸ T.mixed) (by kernel_rfl) (by exact Less.refl _) [some 101, some 102, some 103, some 104, some 105, some 100, some 106, some 107, some 14, some 15] rfl (fun ops hops hopl => ?_)
                unfold Dsts at hops
                simp (maxSteps:=1000000)(dsimp:=false)(disch:=omega) only [go_sem, Φa, hP, h11_13, h11_3, h11_8, h11_10, h11_11, hops, hopl, Nat.sub_zero]
                refine ⟨_, Cell.at 0 rfl rfl, _, Cell.at 0 rfl rfl, _, Cell.at 0 rfl rfl, _, Cell.at 0 rfl rfl, ?_⟩
                try with_reducible refine stI ?_
                try simp (maxSteps:=1000000)(dsimp:=false)(disch:=omega) only [go_sem, Φa, hP, h11_13, h11_3, h11_8, h11_10, h11_11, hops, hopl, Nat.sub_zero]
                refine ⟨.inr (by omega), ?_⟩
                try with_reducible refine stI ?_
                try simp (maxSteps:=1000000)(dsimp:=false)(disch:=omega) only [go_sem, Φa, hP, h11_13, h11_3, h11_8, h11_10, h11_11, hops, hopl, Nat.sub_zero]
                refine SCall.mono (Of_spec (x := (stAt x (cyc l i) q).ras) (l := (cyc l i).drop q) hP (Sl.drop (RowL.sl Rc.len hrow (L := some (bR, .cells [.int .i64 (stAt x (cyc l i) q).ras.1, .int .i64 (stAt x (cyc l i) q).ras.2.1, .bool (stAt x (cyc l i) q).ras.2.2.1, .int .i64 (stAt x (cyc l i) q).ras.2.2.2].toArray 24 (0, 0)) :: sx :: so1 :: (segs fs1 ++ (some (bT, .cells [.int .i64 ta, .int .u8 tb, .int .i64 tm].toArray 46 (0, 0)) :: L))) (i := 1) rfl) (by omega)) (by rw [List.length_drop]; omega) S) ?_
                rintro v_ L_ ⟨vo2, so2, fs2, rfl, rfl, hrow2, hfs2, hmap2⟩
                try with_reducible refine stI ?_
                try simp (maxSteps:=1000000)(dsimp:=false)(disch:=omega) only [go_sem, Φa, hP, h11_13, h11_3, h11_8, h11_10, h11_11, hops, hopl, Nat.sub_zero]
                refine ⟨Less.drops (Less.tail _ _), ?_⟩
                try with_reducible refine stI ?_
                try simp (maxSteps:=1000000)(dsimp:=false)(disch:=omega) only [go_sem, Φa, hP, h11_13, h11_3, h11_8, h11_10, h11_11, hops, hopl, Nat.sub_zero]
                refine hK30 _ _ ?_
                try clear hK30 K30
                refine SX.live [10, 11, 14, 15] (fun T13 hT13 => ?_)
                simp only [forall_mem_cons', forall_mem_nil', go_sem, Φa, hP, h11_13, h11_3, h11_8, h11_10, h11_11] at hT13
                obtain ⟨h13_10, h13_11, h13_14, h13_15⟩ := hT13
                clear h11_13 h11_3 h11_8 h11_10 h11_11 T11
                refine SX.seq_k fun K31 hK31 => ?_
                rw [hcut] at hmap2
                generalize hALL : (ofP x (cyc l i)).1 = all at hmap1 hmap2 hfx hcon
                have hF1 : ∀ H : Hp, so1 ∈ H → (∀ s, s ∈ segs fs1 → s ∈ H) → SlF (Cell Γ H) vo1 all := fun H h1 h2 => hrow1.slM hfs1 hmap1 h1 h2
                have hF2 : ∀ H : Hp, so2 ∈ H → (∀ s, s ∈ segs fs2 → s ∈ H) → SlF (Cell Γ H) vo2 ((all.filter (late (q : Int))).map (shiftF (q : Int))) := fun H h1 h2 => hrow2.slM hfs2 hmap2 h1 h2
                have hal : all.length ≤ 4194304 := by rw [← hALL]; exact (ofP_bnd _ _).1
                generalize hH20 : (so2 :: (segs fs2 ++ (some (bR, .cells [.int .i64 (stAt x (cyc l i) q).ras.1, .int .i64 (stAt x (cyc l i) q).ras.2.1, .bool (stAt x (cyc l i) q).ras.2.2.1, .int .i64 (stAt x (cyc l i) q).ras.2.2.2].toArray 24 (0, 0)) :: sx :: so1 :: (segs fs1 ++ (some (bT, .cells [.int .i64 ta, .int .u8 tb, .int .i64 tm].toArray 46 (0, 0)) :: L)))) : Hp) = H20
                have hG1 := hF1 H20 (by rw [← hH20]; simp) (fun s hs => by rw [← hH20]; simp [hs])
                have hG2 := hF2 H20 (by rw [← hH20]; simp) (fun s hs => by rw [← hH20]; simp [hs])
                have hend : Less H20 L := by rw [← hH20]; exact Less.drops (Less.sublist subl_end4)
                obtain ⟨A1, c1, rfl, hc1⟩ := Sl.shape hG1
                obtain ⟨A2, c2, rfl, hc2⟩ := Sl.shape hG2
                obtain ⟨b1, f1, _, hB1⟩ := Sl.at1 hG1
                obtain ⟨b2, f2, _, hB2⟩ := Sl.at1 hG2
                have hml : ((all.filter (late (q : Int))).map (shiftF (q : Int))).length = (all.filter (late (q : Int))).length := by rw [List.length_map]
                have hfl : (all.filter (late (q : Int))).length ≤ all.length := List.length_filter_le _ _
                refine SX.region_d [some 16] rfl (fun ops hops => ?_)
                unfold Dsts at hops
                simp (maxSteps:=1000000)(dsimp:=false)(disch:=omega) only [go_sem, Φa, hP, h13_10, h13_11, h13_14, h13_15, hops]
                refine hK31 _ _ ?_
                try clear hK31 K31
                refine SX.seq_k fun K32 hK32 => ?_
                refine SX.seq_k fun K33 hK33 => ?_
                refine SX.region_d [some 17] rfl (fun ops hops => ?_)
                unfold Dsts at hops
                simp (maxSteps:=1000000)(dsimp:=false)(disch:=omega) only [go_sem, Φa, hP, h13_10, h13_11, h13_14, h13_15, hops]
                refine hK33 _ _ ?_
                try clear hK33 K33
                refine SX.block ?_
                refine SX.live [10, 11, 14, 15, 16, 17] (fun T14 hT14 => ?_)
                simp only [forall_mem_cons', forall_mem_nil', go_sem, Φa, hP, h13_10, h13_11, h13_14, h13_15] at hT14
                obtain ⟨h14_10, h14_11, h14_14, h14_15, h14_16, h14_17⟩ := hT14
                clear h13_10 h13_11 h13_14 h13_15 T13
                refine SX.loop_k (fun (ss : (Nat)) T L' => (fun (p : Nat) => T 16 = .int .i64 (((all.take p).filter (late (q : Int))).length : Int) ∧ T 17 = .int .i64 (p : Int) ∧ T 10 = T14 10 ∧ T 11 = T14 11 ∧ T 14 = T14 14 ∧ T 15 = T14 15 ∧ L' = H20 ∧ (p ≤ all.length)) (ss)) (fun (ss : (Nat)) => (fun (p : Nat) => all.length - p) (ss)) 0 ?_ ?_
                · try dsimp only
                  refine ⟨?_, ?_, ?_, ?_, ?_, ?_, ?_, ?_⟩
                  · first | exact h14_16 | (rw [h14_16]; rfl) | (rw [h14_16]; simp; done)
                  · first | exact h14_17 | (rw [h14_17]; rfl) | (rw [h14_17]; simp; done)
                  · rfl
                  · rfl
                  · rfl
                  · rfl
                  · rfl
                  · exact Nat.zero_le _
                · intro p T15 L15 hI K34 hK34
                  try dsimp only at hI hK34
                  simp only [h14_10, h14_11, h14_14, h14_15] at hI hK34
                  obtain ⟨h15_16, h15_17, h15_10, h15_11, h15_14, h15_15, hL15, hp⟩ := hI
                  replace hL15 := hL15.symm
                  subst hL15
                  clear h14_10 h14_11 h14_14 h14_15 h14_16 h14_17 T14
                  refine SX.seq_k fun K35 hK35 => ?_
                  refine SX.seq_k fun K36 hK36 => ?_
                  refine SX.region_d [some 108, some 109, some 110, some 111] rfl (fun ops hops => ?_)
                  unfold Dsts at hops
                  simp (maxSteps:=1000000)(dsimp:=false)(disch:=omega) only [go_sem, Φa, hP, h15_16, h15_17, h15_10, h15_11, h15_14, h15_15, hops]
                  repeat' ((first | refine And.intro (by omega) ?_ | fail); try (with_reducible refine stI ?_); try simp (maxSteps:=1000000)(dsimp:=false)(disch:=omega) only [go_sem, Φa, hP, h15_16, h15_17, h15_10, h15_11, h15_14, h15_15, hops])
                  refine hK36 _ _ ?_
                  try clear hK36 K36
                  refine SX.cond_k fun X37 Y37 hX37 hY37 => ?_
                  simp (maxSteps:=1000000)(dsimp:=false)(disch:=omega) only [go_sem, Φa, hP, h15_16, h15_17, h15_10, h15_11, h15_14, h15_15, condVC]
                  refine ⟨fun hc111 => hX37 ?_, fun hc111 => hY37 ?_⟩
                  · clear hX37 hY37 X37 Y37
                    refine SX.skip ?_
                    try simp only [andThen_normal, andThen_ret, andThen_exit, inBlk_normal, inBlk_ret, inBlk_exit, Nat.reduceEqDiff, if_true, if_false, ↓reduceIte]
                    refine hK35 _ _ ?_
                    try clear hK35 K35
                    refine SX.seq_k fun K38 hK38 => ?_
                    refine SX.block ?_
                    refine SX.seq_k fun K39 hK39 => ?_
                    have hpl : p < all.length := by omega
                    have hfi := getD_get (d := default) hpl
                    obtain ⟨rvi, hci, hsi⟩ := hB1 p _ hfi
                    obtain ⟨hx1, hx2, hx3, hx4, hx5⟩ := hfx _ (List.mem_of_getElem? hfi)
                    have hft := filter_take (p := late (q : Int)) hfi
                    obtain ⟨D, dc, rfl, hdc⟩ := Sl.shape hsi
                    obtain ⟨b3, f3, _, hB3⟩ := slR_at hsi
                    have hprev : 0 < p → Cell Γ H20 (b1.add ((p - 1) * 3)) (.int .i64 (all.getD (p - 1) default).at_) := fun h0 => (hB1 (p - 1) _ (getD_get (d := default) (by omega))).elim fun rv h => h.1 0 _ rfl
                    have hpc : 0 < p → (all.getD p default).at_ = (all.getD (p - 1) default).at_ + 3668 := fun h0 => hcon (p - 1) _ _ (getD_get (d := default) (by omega)) (by rw [show p - 1 + 1 = p by omega]; exact hfi)
                    have hpb : 0 < p → 0 ≤ (all.getD (p - 1) default).at_ ∧ (all.getD (p - 1) default).at_ ≤ 4194304 := fun h0 => by have := hfx _ (List.mem_of_getElem? (getD_get (d := default) (show p - 1 < all.length by omega))); omega
                    have hp1 : ((p : Int) - 1).toNat = p - 1 := by omega
                    refine SX.region_d [some 114, some 115, some 116, some 117, some 18, none] rfl (fun ops hops => ?_)
                    unfold Dsts at hops
                    simp (maxSteps:=1000000)(dsimp:=false)(disch:=omega) only [go_sem, Φa, hP, h15_16, h15_17, h15_10, h15_11, h15_14, h15_15, hops, ia_at f1]
                    refine ⟨_, hci 0 _ rfl, _, hci 1 _ rfl, _, hci 2 _ rfl, ?_⟩
                    try with_reducible refine stI ?_
                    try simp (maxSteps:=1000000)(dsimp:=false)(disch:=omega) only [go_sem, Φa, hP, h15_16, h15_17, h15_10, h15_11, h15_14, h15_15, hops, ia_at f1]
                    intro g22
                    try with_reducible refine stI ?_
                    try simp (maxSteps:=1000000)(dsimp:=false)(disch:=omega) only [go_sem, Φa, hP, h15_16, h15_17, h15_10, h15_11, h15_14, h15_15, hops, ia_at f1]
                    refine ⟨0, _, _, _, rfl, by simp, .inr (by decide), ?_⟩
                    try with_reducible refine stI ?_
                    try simp (maxSteps:=1000000)(dsimp:=false)(disch:=omega) only [go_sem, Φa, hP, h15_16, h15_17, h15_10, h15_11, h15_14, h15_15, hops, ia_at f1]
                    refine hK39 _ _ ?_
                    try clear hK39 K39
                    refine SX.live [10, 11, 14, 15, 16, 17, 18] (fun T16 hT16 => ?_)
                    simp only [forall_mem_cons', forall_mem_nil', go_sem, Φa, hP, h15_16, h15_17, h15_10, h15_11, h15_14, h15_15] at hT16
                    obtain ⟨h16_10, h16_11, h16_14, h16_15, h16_16, h16_17, h16_18⟩ := hT16
                    clear h15_16 h15_17 h15_10 h15_11 h15_14 h15_15 T15
                    refine SX.seq_k fun K40 hK40 => ?_
                    refine SX.seq_k fun K41 hK41 => ?_
                    refine SX.quiet_xd (hP ▸ T.mixed) (by kernel_rfl) [some 118, some 119, some 120, some 121, some 122, some 123, some 124, some 125, some 126, some 127, some 128, some 129, some 130, some 131, some 132, some 133, some 134, some 135, some 136, some 137] rfl (fun ops hops => ?_)
                    unfold Dsts at hops
                    refine QX.live [10, 11, 14, 15, 16, 17, 18] (fun T17 hT17 => ?_)
                    simp only [forall_mem_cons', forall_mem_nil', go_sem, Φa, hP, h16_10, h16_11, h16_14, h16_15, h16_16, h16_17, h16_18] at hT17
                    obtain ⟨h17_10, h17_11, h17_14, h17_15, h17_16, h17_17, h17_18⟩ := hT17
                    clear h16_10 h16_11 h16_14 h16_15 h16_16 h16_17 h16_18 T16
                    refine QX.join 14 (fun (ss : Unit) T L' => T 131 = .bool (false) ∧ T 10 = T17 10 ∧ T 11 = T17 11 ∧ T 14 = T17 14 ∧ T 15 = T17 15 ∧ T 16 = T17 16 ∧ T 17 = T17 17 ∧ T 18 = T17 18 ∧ L' = some (g22, .cells [.int .i64 (all.getD p default).at_, .slice D (all.getD p default).rows.length dc, .bool (all.getD p default).sh].toArray 41 (0, 0)) :: H20 ∧ (True)) (fun K42 hK42 => ?_) ?_
                    · simp only [h17_10, h17_11, h17_14, h17_15, h17_16, h17_17, h17_18] at hK42
                      simp (maxSteps:=1000000)(dsimp:=false)(disch:=omega) only [go_sem, Φa, hP, h17_10, h17_11, h17_14, h17_15, h17_16, h17_17, h17_18, hops, ia_at f1, hp1]
                      repeat' (first | refine iteB (fun hg => ?_) (fun hg => ?_) | refine iteI (fun hg => ?_) (fun hg => ?_) | ((first | refine ⟨_, Cell.cons _ (hprev (by omega)), ?_⟩ | refine And.intro (by omega) ?_ | refine ⟨_, Cell.at 0 rfl rfl, ?_⟩ | fail); try (with_reducible refine stI ?_); try simp (maxSteps:=1000000)(dsimp:=false)(disch:=omega) only [go_sem, Φa, hP, h17_10, h17_11, h17_14, h17_15, h17_16, h17_17, h17_18, hops, ia_at f1, hp1]) | fail)
                      all_goals
                        refine hK42 () _ (some (g22, .cells [.int .i64 (all.getD p default).at_, .slice D (all.getD p default).rows.length dc, .bool (all.getD p default).sh].toArray 41 (0, 0)) :: H20) _ (by rfl) ?_
                        try dsimp only
                        refine ⟨?_, ?_, ?_, ?_, ?_, ?_, ?_, ?_, ?_, ?_⟩
                        · simp (maxSteps:=1000000)(dsimp:=false)(disch:=omega) only [go_sem, Φa, hP, h17_10, h17_11, h17_14, h17_15, h17_16, h17_17, h17_18]
                          first | done | rfl | (refine congrArg Value.bool ?_; have := hpc (by omega); have := hpb (by omega); simp only [Bool.not_eq_false', decide_eq_true_eq]; omega) | (refine congrArg Value.bool ?_; simp_all; first | done | omega)
                        · simp (maxSteps:=1000000)(dsimp:=false)(disch:=omega) only [go_sem, Φa, hP, h17_10, h17_11, h17_14, h17_15, h17_16, h17_17, h17_18]
                        · simp (maxSteps:=1000000)(dsimp:=false)(disch:=omega) only [go_sem, Φa, hP, h17_10, h17_11, h17_14, h17_15, h17_16, h17_17, h17_18]
                        · simp (maxSteps:=1000000)(dsimp:=false)(disch:=omega) only [go_sem, Φa, hP, h17_10, h17_11, h17_14, h17_15, h17_16, h17_17, h17_18]
                        · simp (maxSteps:=1000000)(dsimp:=false)(disch:=omega) only [go_sem, Φa, hP, h17_10, h17_11, h17_14, h17_15, h17_16, h17_17, h17_18]
                        · simp (maxSteps:=1000000)(dsimp:=false)(disch:=omega) only [go_sem, Φa, hP, h17_10, h17_11, h17_14, h17_15, h17_16, h17_17, h17_18]
                        · simp (maxSteps:=1000000)(dsimp:=false)(disch:=omega) only [go_sem, Φa, hP, h17_10, h17_11, h17_14, h17_15, h17_16, h17_17, h17_18]
                        · simp (maxSteps:=1000000)(dsimp:=false)(disch:=omega) only [go_sem, Φa, hP, h17_10, h17_11, h17_14, h17_15, h17_16, h17_17, h17_18]
                        · rfl
                        · trivial
                    · intro ss T18 L18 hE18 hI
                      simp only [h17_10, h17_11, h17_14, h17_15, h17_16, h17_17, h17_18] at hI 
                      obtain ⟨h18_131, h18_10, h18_11, h18_14, h18_15, h18_16, h18_17, h18_18, hL18, hinv⟩ := hI
                      replace hL18 := hL18.symm
                      subst hL18
                      clear h17_10 h17_11 h17_14 h17_15 h17_16 h17_17 h17_18 T17
                      clear hE18
                      refine QX.live [10, 11, 14, 15, 16, 17, 18, 131] (fun T19 hT19 => ?_)
                      simp only [forall_mem_cons', forall_mem_nil', go_sem, Φa, hP, h18_131, h18_10, h18_11, h18_14, h18_15, h18_16, h18_17, h18_18] at hT19
                      obtain ⟨h19_10, h19_11, h19_14, h19_15, h19_16, h19_17, h19_18, h19_131⟩ := hT19
                      clear h18_131 h18_10 h18_11 h18_14 h18_15 h18_16 h18_17 h18_18 T18
                      refine QX.join 6 (fun (ss : Unit) T L' => T 137 = .bool (false) ∧ T 10 = T19 10 ∧ T 11 = T19 11 ∧ T 14 = T19 14 ∧ T 15 = T19 15 ∧ T 16 = T19 16 ∧ T 17 = T19 17 ∧ T 18 = T19 18 ∧ L' = some (g22, .cells [.int .i64 (all.getD p default).at_, .slice D (all.getD p default).rows.length dc, .bool (all.getD p default).sh].toArray 41 (0, 0)) :: H20 ∧ (True)) (fun K43 hK43 => ?_) ?_
                      · simp only [h19_10, h19_11, h19_14, h19_15, h19_16, h19_17, h19_18] at hK43
                        simp (maxSteps:=1000000)(dsimp:=false)(disch:=omega) only [go_sem, Φa, hP, h19_10, h19_11, h19_14, h19_15, h19_16, h19_17, h19_18, h19_131, hops, ia_at f1, hp1]
                        repeat' (first | refine iteB (fun hg => ?_) (fun hg => ?_) | refine iteI (fun hg => ?_) (fun hg => ?_) | ((first | refine ⟨_, Cell.cons _ (hprev (by omega)), ?_⟩ | refine And.intro (by omega) ?_ | refine ⟨_, Cell.at 0 rfl rfl, ?_⟩ | fail); try (with_reducible refine stI ?_); try simp (maxSteps:=1000000)(dsimp:=false)(disch:=omega) only [go_sem, Φa, hP, h19_10, h19_11, h19_14, h19_15, h19_16, h19_17, h19_18, h19_131, hops, ia_at f1, hp1]) | fail)
                        all_goals
                          refine hK43 () _ (some (g22, .cells [.int .i64 (all.getD p default).at_, .slice D (all.getD p default).rows.length dc, .bool (all.getD p default).sh].toArray 41 (0, 0)) :: H20) _ (by rfl) ?_
                          try dsimp only
                          refine ⟨?_, ?_, ?_, ?_, ?_, ?_, ?_, ?_, ?_, ?_⟩
                          · simp (maxSteps:=1000000)(dsimp:=false)(disch:=omega) only [go_sem, Φa, hP, h19_10, h19_11, h19_14, h19_15, h19_16, h19_17, h19_18, h19_131]
                            first | done | rfl | (refine congrArg Value.bool ?_; have := hpc (by omega); have := hpb (by omega); simp only [Bool.not_eq_false', decide_eq_true_eq]; omega) | (refine congrArg Value.bool ?_; simp_all; first | done | omega)
                          · simp (maxSteps:=1000000)(dsimp:=false)(disch:=omega) only [go_sem, Φa, hP, h19_10, h19_11, h19_14, h19_15, h19_16, h19_17, h19_18, h19_131]
                          · simp (maxSteps:=1000000)(dsimp:=false)(disch:=omega) only [go_sem, Φa, hP, h19_10, h19_11, h19_14, h19_15, h19_16, h19_17, h19_18, h19_131]
                          · simp (maxSteps:=1000000)(dsimp:=false)(disch:=omega) only [go_sem, Φa, hP, h19_10, h19_11, h19_14, h19_15, h19_16, h19_17, h19_18, h19_131]
                          · simp (maxSteps:=1000000)(dsimp:=false)(disch:=omega) only [go_sem, Φa, hP, h19_10, h19_11, h19_14, h19_15, h19_16, h19_17, h19_18, h19_131]
                          · simp (maxSteps:=1000000)(dsimp:=false)(disch:=omega) only [go_sem, Φa, hP, h19_10, h19_11, h19_14, h19_15, h19_16, h19_17, h19_18, h19_131]
                          · simp (maxSteps:=1000000)(dsimp:=false)(disch:=omega) only [go_sem, Φa, hP, h19_10, h19_11, h19_14, h19_15, h19_16, h19_17, h19_18, h19_131]
                          · simp (maxSteps:=1000000)(dsimp:=false)(disch:=omega) only [go_sem, Φa, hP, h19_10, h19_11, h19_14, h19_15, h19_16, h19_17, h19_18, h19_131]
                          · rfl
                          · trivial
                      · intro ss T20 L20 hE20 hI
                        simp only [h19_10, h19_11, h19_14, h19_15, h19_16, h19_17, h19_18] at hI 
                        obtain ⟨h20_137, h20_10, h20_11, h20_14, h20_15, h20_16, h20_17, h20_18, hL20, hinv⟩ := hI
                        replace hL20 := hL20.symm
                        subst hL20
                        clear h19_10 h19_11 h19_14 h19_15 h19_16 h19_17 h19_18 h19_131 T19
                        clear hE20
                        refine QX.done ?_
                        simp (maxSteps:=1000000)(dsimp:=false)(disch:=omega) only [go_sem, Φa, hP, h20_137, h20_10, h20_11, h20_14, h20_15, h20_16, h20_17, h20_18, hops]
                        refine hK41 _ _ ?_
                        try clear hK41 K41
                        refine SX.cond_k fun X44 Y44 hX44 hY44 => ?_
                        simp (maxSteps:=1000000)(dsimp:=false)(disch:=omega) only [go_sem, Φa, hP, h20_137, h20_10, h20_11, h20_14, h20_15, h20_16, h20_17, h20_18, condVC]
                        refine hY44 ?_
                        clear hX44 hY44 X44 Y44
                        refine SX.skip ?_
                        try simp only [andThen_normal, andThen_ret, andThen_exit, inBlk_normal, inBlk_ret, inBlk_exit, Nat.reduceEqDiff, if_true, if_false, ↓reduceIte]
                        refine hK40 _ _ ?_
                        try clear hK40 K40
                        refine SX.seq_k fun K45 hK45 => ?_
                        refine SX.seq_k fun K46 hK46 => ?_
                        refine SX.region_d [some 19] rfl (fun ops hops => ?_)
                        unfold Dsts at hops
                        simp (maxSteps:=1000000)(dsimp:=false)(disch:=omega) only [go_sem, Φa, hP, h20_137, h20_10, h20_11, h20_14, h20_15, h20_16, h20_17, h20_18, hops]
                        refine hK46 _ _ ?_
                        try clear hK46 K46
                        refine SX.block ?_
                        refine SX.live [10, 11, 14, 15, 16, 17, 18, 19] (fun T21 hT21 => ?_)
                        simp only [forall_mem_cons', forall_mem_nil', go_sem, Φa, hP, h20_137, h20_10, h20_11, h20_14, h20_15, h20_16, h20_17, h20_18] at hT21
                        obtain ⟨h21_10, h21_11, h21_14, h21_15, h21_16, h21_17, h21_18, h21_19⟩ := hT21
                        clear h20_137 h20_10 h20_11 h20_14 h20_15 h20_16 h20_17 h20_18 T20
                        refine SX.loop_k (fun (ss : (Nat)) T L' => (fun (j : Nat) => T 19 = .int .i64 (j : Int) ∧ T 10 = T21 10 ∧ T 11 = T21 11 ∧ T 14 = T21 14 ∧ T 15 = T21 15 ∧ T 16 = T21 16 ∧ T 17 = T21 17 ∧ T 18 = T21 18 ∧ L' = some (g22, .cells [.int .i64 (all.getD p default).at_, .slice D (all.getD p default).rows.length dc, .bool (all.getD p default).sh].toArray 41 (0, 0)) :: H20 ∧ (j ≤ 128)) (ss)) (fun (ss : (Nat)) => (fun (j : Nat) => 128 - j) (ss)) 0 ?_ ?_
                        · try dsimp only
                          refine ⟨?_, ?_, ?_, ?_, ?_, ?_, ?_, ?_, ?_, ?_⟩
                          · first | exact h21_19 | (rw [h21_19]; rfl) | (rw [h21_19]; simp; done)
                          · rfl
                          · rfl
                          · rfl
                          · rfl
                          · rfl
                          · rfl
                          · rfl
                          · rfl
                          · exact Nat.zero_le _
                        · intro j T22 L22 hI K47 hK47
                          try dsimp only at hI hK47
                          simp only [h21_10, h21_11, h21_14, h21_15, h21_16, h21_17, h21_18] at hI hK47
                          obtain ⟨h22_19, h22_10, h22_11, h22_14, h22_15, h22_16, h22_17, h22_18, hL22, hj⟩ := hI
                          replace hL22 := hL22.symm
                          subst hL22
                          clear h21_10 h21_11 h21_14 h21_15 h21_16 h21_17 h21_18 h21_19 T21
                          refine SX.seq_k fun K48 hK48 => ?_
                          refine SX.seq_k fun K49 hK49 => ?_
                          refine SX.region_d [some 138, some 139] rfl (fun ops hops => ?_)
                          unfold Dsts at hops
                          simp (maxSteps:=1000000)(dsimp:=false)(disch:=omega) only [go_sem, Φa, hP, h22_19, h22_10, h22_11, h22_14, h22_15, h22_16, h22_17, h22_18, hops]
                          repeat' ((first | refine And.intro (by omega) ?_ | fail); try (with_reducible refine stI ?_); try simp (maxSteps:=1000000)(dsimp:=false)(disch:=omega) only [go_sem, Φa, hP, h22_19, h22_10, h22_11, h22_14, h22_15, h22_16, h22_17, h22_18, hops])
                          refine hK49 _ _ ?_
                          try clear hK49 K49
                          refine SX.cond_k fun X50 Y50 hX50 hY50 => ?_
                          simp (maxSteps:=1000000)(dsimp:=false)(disch:=omega) only [go_sem, Φa, hP, h22_19, h22_10, h22_11, h22_14, h22_15, h22_16, h22_17, h22_18, condVC]
                          refine ⟨fun hc139 => hX50 ?_, fun hc139 => hY50 ?_⟩
                          · clear hX50 hY50 X50 Y50
                            refine SX.skip ?_
                            try simp only [andThen_normal, andThen_ret, andThen_exit, inBlk_normal, inBlk_ret, inBlk_exit, Nat.reduceEqDiff, if_true, if_false, ↓reduceIte]
                            refine hK48 _ _ ?_
                            try clear hK48 K48
                            refine SX.seq_k fun K51 hK51 => ?_
                            refine SX.block ?_
                            refine SX.seq_k fun K52 hK52 => ?_
                            have hjl : j < (all.getD p default).rows.length := by omega
                            obtain ⟨E, ec, hcj, hecj, hsj⟩ := hB3 j hjl
                            have h8 := hx5 j (by omega)
                            refine SX.region_d [some 142, some 143, some 144, some 145, some 146, some 147, some 148] rfl (fun ops hops => ?_)
                            unfold Dsts at hops
                            simp (maxSteps:=1000000)(dsimp:=false)(disch:=omega) only [go_sem, Φa, hP, h22_19, h22_10, h22_11, h22_14, h22_15, h22_16, h22_17, h22_18, hops, ia_at f3]
                            refine ⟨_, Cell.at 0 rfl rfl, ?_⟩
                            try with_reducible refine stI ?_
                            try simp (maxSteps:=1000000)(dsimp:=false)(disch:=omega) only [go_sem, Φa, hP, h22_19, h22_10, h22_11, h22_14, h22_15, h22_16, h22_17, h22_18, hops, ia_at f3]
                            refine ⟨_, Cell.cons _ hcj, ?_⟩
                            try with_reducible refine stI ?_
                            try simp (maxSteps:=1000000)(dsimp:=false)(disch:=omega) only [go_sem, Φa, hP, h22_19, h22_10, h22_11, h22_14, h22_15, h22_16, h22_17, h22_18, hops, ia_at f3]
                            refine hK52 _ _ ?_
                            try clear hK52 K52
                            refine SX.live [10, 11, 14, 15, 16, 17, 18, 19, 148] (fun T23 hT23 => ?_)
                            simp only [forall_mem_cons', forall_mem_nil', go_sem, Φa, hP, h22_19, h22_10, h22_11, h22_14, h22_15, h22_16, h22_17, h22_18] at hT23
                            obtain ⟨h23_10, h23_11, h23_14, h23_15, h23_16, h23_17, h23_18, h23_19, h23_148⟩ := hT23
                            clear h22_19 h22_10 h22_11 h22_14 h22_15 h22_16 h22_17 h22_18 T22
                            refine SX.cond_k fun X53 Y53 hX53 hY53 => ?_
                            simp (maxSteps:=1000000)(dsimp:=false)(disch:=omega) only [go_sem, Φa, hP, h23_10, h23_11, h23_14, h23_15, h23_16, h23_17, h23_18, h23_19, h23_148, condVC]
                            refine hY53 ?_
                            clear hX53 hY53 X53 Y53
                            refine SX.skip ?_
                            try simp only [andThen_normal, andThen_ret, andThen_exit, inBlk_normal, inBlk_ret, inBlk_exit, Nat.reduceEqDiff, if_true, if_false, ↓reduceIte]
                            refine hK51 _ _ ?_
                            try clear hK51 K51
                            refine SX.region_d [some 140, some 141, some 19] rfl (fun ops hops => ?_)
                            unfold Dsts at hops
                            simp (maxSteps:=1000000)(dsimp:=false)(disch:=omega) only [go_sem, Φa, hP, h23_10, h23_11, h23_14, h23_15, h23_16, h23_17, h23_18, h23_19, h23_148, hops]
                            repeat' ((first | refine And.intro (by omega) ?_ | fail); try (with_reducible refine stI ?_); try simp (maxSteps:=1000000)(dsimp:=false)(disch:=omega) only [go_sem, Φa, hP, h23_10, h23_11, h23_14, h23_15, h23_16, h23_17, h23_18, h23_19, h23_148, hops])
                            refine hK47 (j + 1) _ (some (g22, .cells [.int .i64 (all.getD p default).at_, .slice D (all.getD p default).rows.length dc, .bool (all.getD p default).sh].toArray 41 (0, 0)) :: H20) _ (by first | exact Less.refl _ | exact Less.drop _ _ | exact Less.drops (Less.drop _ _) | exact Less.drops (Less.drops (Less.drop _ _)) | exact Less.drops (Less.drops (Less.drops (Less.drop _ _))) | exact Less.drops (Less.drops (Less.drops (Less.drops (Less.drop _ _))))) ?_ ?_
                            · try dsimp only
                              refine ⟨?_, ?_, ?_, ?_, ?_, ?_, ?_, ?_, ?_, ?_⟩
                              · simp (maxSteps:=1000000)(dsimp:=false)(disch:=omega) only [go_sem, Φa, hP, h23_10, h23_11, h23_14, h23_15, h23_16, h23_17, h23_18, h23_19, h23_148]
                                first | done | rfl | skip
                              · simp (maxSteps:=1000000)(dsimp:=false)(disch:=omega) only [go_sem, Φa, hP, h23_10, h23_11, h23_14, h23_15, h23_16, h23_17, h23_18, h23_19, h23_148]
                              · simp (maxSteps:=1000000)(dsimp:=false)(disch:=omega) only [go_sem, Φa, hP, h23_10, h23_11, h23_14, h23_15, h23_16, h23_17, h23_18, h23_19, h23_148]
                              · simp (maxSteps:=1000000)(dsimp:=false)(disch:=omega) only [go_sem, Φa, hP, h23_10, h23_11, h23_14, h23_15, h23_16, h23_17, h23_18, h23_19, h23_148]
                              · simp (maxSteps:=1000000)(dsimp:=false)(disch:=omega) only [go_sem, Φa, hP, h23_10, h23_11, h23_14, h23_15, h23_16, h23_17, h23_18, h23_19, h23_148]
                              · simp (maxSteps:=1000000)(dsimp:=false)(disch:=omega) only [go_sem, Φa, hP, h23_10, h23_11, h23_14, h23_15, h23_16, h23_17, h23_18, h23_19, h23_148]
                              · simp (maxSteps:=1000000)(dsimp:=false)(disch:=omega) only [go_sem, Φa, hP, h23_10, h23_11, h23_14, h23_15, h23_16, h23_17, h23_18, h23_19, h23_148]
                              · simp (maxSteps:=1000000)(dsimp:=false)(disch:=omega) only [go_sem, Φa, hP, h23_10, h23_11, h23_14, h23_15, h23_16, h23_17, h23_18, h23_19, h23_148]
                              · rfl
                              · omega
                            · (try dsimp only); omega
                          · clear hX50 hY50 X50 Y50
                            refine SX.exit ?_
                            try simp only [andThen_normal, andThen_ret, andThen_exit, inBlk_normal, inBlk_ret, inBlk_exit, Nat.reduceEqDiff, if_true, if_false, ↓reduceIte]
                            refine hK45 _ _ ?_
                            try clear hK45 K45
                            refine SX.seq_k fun K54 hK54 => ?_
                            refine SX.region_d [some 149, some 150, some 151, some 152] rfl (fun ops hops => ?_)
                            unfold Dsts at hops
                            simp (maxSteps:=1000000)(dsimp:=false)(disch:=omega) only [go_sem, Φa, hP, h22_19, h22_10, h22_11, h22_14, h22_15, h22_16, h22_17, h22_18, hops]
                            refine ⟨_, Cell.at 0 rfl rfl, ?_⟩
                            try with_reducible refine stI ?_
                            try simp (maxSteps:=1000000)(dsimp:=false)(disch:=omega) only [go_sem, Φa, hP, h22_19, h22_10, h22_11, h22_14, h22_15, h22_16, h22_17, h22_18, hops]
                            refine hK54 _ _ ?_
                            try clear hK54 K54
                            refine SX.cond_k fun X55 Y55 hX55 hY55 => ?_
                            simp (maxSteps:=1000000)(dsimp:=false)(disch:=omega) only [go_sem, Φa, hP, h22_19, h22_10, h22_11, h22_14, h22_15, h22_16, h22_17, h22_18, condVC]
                            refine ⟨fun hc152 => hX55 ?_, fun hc152 => hY55 ?_⟩
                            · clear hX55 hY55 X55 Y55
                              have hlate : late (q : Int) (all.getD p default) = true := by unfold late; simpa using hc152
                              have hfa := filter_at (p := late (q : Int)) hfi hlate
                              have hba : ((all.filter (late (q : Int))).map (shiftF (q : Int)))[((all.take p).filter (late (q : Int))).length]? = some (shiftF (q : Int) (all.getD p default)) := by rw [List.getElem?_map, hfa]; rfl
                              have hbl := (List.getElem?_eq_some_iff.1 hba).1
                              obtain ⟨rvb, hcb, hsb⟩ := hB2 _ _ hba
                              refine SX.seq_k fun K56 hK56 => ?_
                              refine SX.seq_k fun K57 hK57 => ?_
                              refine SX.region_d [some 153, some 154, some 155, some 156] rfl (fun ops hops => ?_)
                              unfold Dsts at hops
                              simp (maxSteps:=1000000)(dsimp:=false)(disch:=omega) only [go_sem, Φa, hP, h22_19, h22_10, h22_11, h22_14, h22_15, h22_16, h22_17, h22_18, hops]
                              repeat' ((first | refine And.intro (by omega) ?_ | fail); try (with_reducible refine stI ?_); try simp (maxSteps:=1000000)(dsimp:=false)(disch:=omega) only [go_sem, Φa, hP, h22_19, h22_10, h22_11, h22_14, h22_15, h22_16, h22_17, h22_18, hops])
                              refine hK57 _ _ ?_
                              try clear hK57 K57
                              refine SX.live [10, 11, 14, 15, 16, 17, 18, 156] (fun T24 hT24 => ?_)
                              simp only [forall_mem_cons', forall_mem_nil', go_sem, Φa, hP, h22_19, h22_10, h22_11, h22_14, h22_15, h22_16, h22_17, h22_18] at hT24
                              obtain ⟨h24_10, h24_11, h24_14, h24_15, h24_16, h24_17, h24_18, h24_156⟩ := hT24
                              clear h22_19 h22_10 h22_11 h22_14 h22_15 h22_16 h22_17 h22_18 T22
                              refine SX.cond_k fun X58 Y58 hX58 hY58 => ?_
                              simp (maxSteps:=1000000)(dsimp:=false)(disch:=omega) only [go_sem, Φa, hP, h24_10, h24_11, h24_14, h24_15, h24_16, h24_17, h24_18, h24_156, condVC]
                              refine hY58 ?_
                              clear hX58 hY58 X58 Y58
                              refine SX.skip ?_
                              try simp only [andThen_normal, andThen_ret, andThen_exit, inBlk_normal, inBlk_ret, inBlk_exit, Nat.reduceEqDiff, if_true, if_false, ↓reduceIte]
                              refine hK56 _ _ ?_
                              try clear hK56 K56
                              refine SX.seq_k fun K59 hK59 => ?_
                              refine SX.region_d [some 157, some 158, some 159, some 160, some 161, none] rfl (fun ops hops => ?_)
                              unfold Dsts at hops
                              simp (maxSteps:=1000000)(dsimp:=false)(disch:=omega) only [go_sem, Φa, hP, h24_10, h24_11, h24_14, h24_15, h24_16, h24_17, h24_18, h24_156, hops]
                              refine ⟨_, Cell.at 0 rfl rfl, ?_⟩
                              try with_reducible refine stI ?_
                              try simp (maxSteps:=1000000)(dsimp:=false)(disch:=omega) only [go_sem, Φa, hP, h24_10, h24_11, h24_14, h24_15, h24_16, h24_17, h24_18, h24_156, hops]
                              refine ⟨0, _, _, _, rfl, by simp, .inr (by decide), ?_⟩
                              try with_reducible refine stI ?_
                              try simp (maxSteps:=1000000)(dsimp:=false)(disch:=omega) only [go_sem, Φa, hP, h24_10, h24_11, h24_14, h24_15, h24_16, h24_17, h24_18, h24_156, hops]
                              refine hK59 _ _ ?_
                              try clear hK59 K59
                              refine SX.seq_k fun K60 hK60 => ?_
                              refine SX.seq_k fun K61 hK61 => ?_
                              refine SX.quiet_d (hP ▸ T.mixed) (by kernel_rfl) [some 162, some 163, some 164, some 165, some 166, some 167, some 168] rfl (fun ops hops => ?_)
                              unfold Dsts at hops
                              simp (maxSteps:=1000000)(dsimp:=false)(disch:=omega) only [go_sem, Φa, hP, h24_10, h24_11, h24_14, h24_15, h24_16, h24_17, h24_18, h24_156, hops, ia_at f2]
                              refine ⟨_, Cell.at 0 rfl rfl, _, Cell.at 0 rfl rfl, _, Cell.at 0 rfl rfl, ?_⟩
                              try with_reducible refine stI ?_
                              try simp (maxSteps:=1000000)(dsimp:=false)(disch:=omega) only [go_sem, Φa, hP, h24_10, h24_11, h24_14, h24_15, h24_16, h24_17, h24_18, h24_156, hops, ia_at f2]
                              refine ⟨_, Cell.cons _ (hcb 0 _ rfl), _, Cell.cons _ (hcb 1 _ rfl), _, Cell.cons _ (hcb 2 _ rfl), ?_⟩
                              try with_reducible refine stI ?_
                              try simp (maxSteps:=1000000)(dsimp:=false)(disch:=omega) only [go_sem, Φa, hP, h24_10, h24_11, h24_14, h24_15, h24_16, h24_17, h24_18, h24_156, hops, ia_at f2]
                              refine ⟨_, Same_spec hP (f := shiftF (q : Int) (all.getD p default)) (SlR.mono (fun a v h => Cell.cons _ h) hsi) (SlR.mono (fun a v h => Cell.cons _ h) hsb) (by show cnt (all.getD p default).rows ≤ _; omega) (by show (all.getD p default).rows.length ≤ _; omega), ?_⟩
                              try with_reducible refine stI ?_
                              try simp (maxSteps:=1000000)(dsimp:=false)(disch:=omega) only [go_sem, Φa, hP, h24_10, h24_11, h24_14, h24_15, h24_16, h24_17, h24_18, h24_156, hops, ia_at f2]
                              refine hK61 _ _ ?_
                              try clear hK61 K61
                              refine SX.live [10, 11, 14, 15, 16, 17, 168] (fun T25 hT25 => ?_)
                              simp only [forall_mem_cons', forall_mem_nil', go_sem, Φa, hP, h24_10, h24_11, h24_14, h24_15, h24_16, h24_17, h24_18, h24_156] at hT25
                              obtain ⟨h25_10, h25_11, h25_14, h25_15, h25_16, h25_17, h25_168⟩ := hT25
                              clear h24_10 h24_11 h24_14 h24_15 h24_16 h24_17 h24_18 h24_156 T24
                              refine SX.cond_k fun X62 Y62 hX62 hY62 => ?_
                              simp (maxSteps:=1000000)(dsimp:=false)(disch:=omega) only [go_sem, Φa, hP, h25_10, h25_11, h25_14, h25_15, h25_16, h25_17, h25_168, condVC]
                              refine hY62 ?_
                              clear hX62 hY62 X62 Y62
                              refine SX.skip ?_
                              try simp only [andThen_normal, andThen_ret, andThen_exit, inBlk_normal, inBlk_ret, inBlk_exit, Nat.reduceEqDiff, if_true, if_false, ↓reduceIte]
                              refine hK60 _ _ ?_
                              try clear hK60 K60
                              refine SX.region_d [some 169, some 170, some 16] rfl (fun ops hops => ?_)
                              unfold Dsts at hops
                              simp (maxSteps:=1000000)(dsimp:=false)(disch:=omega) only [go_sem, Φa, hP, h25_10, h25_11, h25_14, h25_15, h25_16, h25_17, h25_168, hops]
                              repeat' ((first | refine And.intro (by omega) ?_ | fail); try (with_reducible refine stI ?_); try simp (maxSteps:=1000000)(dsimp:=false)(disch:=omega) only [go_sem, Φa, hP, h25_10, h25_11, h25_14, h25_15, h25_16, h25_17, h25_168, hops])
                              refine hK38 _ _ ?_
                              try clear hK38 K38
                              refine SX.region_d [some 112, some 113, some 17] rfl (fun ops hops => ?_)
                              unfold Dsts at hops
                              simp (maxSteps:=1000000)(dsimp:=false)(disch:=omega) only [go_sem, Φa, hP, h25_10, h25_11, h25_14, h25_15, h25_16, h25_17, h25_168, hops]
                              repeat' ((first | refine And.intro (by omega) ?_ | fail); try (with_reducible refine stI ?_); try simp (maxSteps:=1000000)(dsimp:=false)(disch:=omega) only [go_sem, Φa, hP, h25_10, h25_11, h25_14, h25_15, h25_16, h25_17, h25_168, hops])
                              refine hK34 (p + 1) _ (H20) _ (by exact Less.drop _ _) ?_ ?_
                              · try dsimp only
                                refine ⟨?_, ?_, ?_, ?_, ?_, ?_, ?_, ?_⟩
                                · simp (maxSteps:=1000000)(dsimp:=false)(disch:=omega) only [go_sem, Φa, hP, h25_10, h25_11, h25_14, h25_15, h25_16, h25_17, h25_168]
                                  refine congrArg (Value.int .i64) ?_; first | (rw [hft, if_pos hlate]; omega) | (rw [hft, if_neg (by rw [hlate]; exact Bool.false_ne_true)]; omega)
                                · simp (maxSteps:=1000000)(dsimp:=false)(disch:=omega) only [go_sem, Φa, hP, h25_10, h25_11, h25_14, h25_15, h25_16, h25_17, h25_168]
                                  first | done | rfl | skip
                                · simp (maxSteps:=1000000)(dsimp:=false)(disch:=omega) only [go_sem, Φa, hP, h25_10, h25_11, h25_14, h25_15, h25_16, h25_17, h25_168]
                                · simp (maxSteps:=1000000)(dsimp:=false)(disch:=omega) only [go_sem, Φa, hP, h25_10, h25_11, h25_14, h25_15, h25_16, h25_17, h25_168]
                                · simp (maxSteps:=1000000)(dsimp:=false)(disch:=omega) only [go_sem, Φa, hP, h25_10, h25_11, h25_14, h25_15, h25_16, h25_17, h25_168]
                                · simp (maxSteps:=1000000)(dsimp:=false)(disch:=omega) only [go_sem, Φa, hP, h25_10, h25_11, h25_14, h25_15, h25_16, h25_17, h25_168]
                                · rfl
                                · omega
                              · (try dsimp only); omega
                            · clear hX55 hY55 X55 Y55
                              have hlate : late (q : Int) (all.getD p default) = false := by unfold late; simpa using hc152
                              refine SX.skip ?_
                              try simp only [andThen_normal, andThen_ret, andThen_exit, inBlk_normal, inBlk_ret, inBlk_exit, Nat.reduceEqDiff, if_true, if_false, ↓reduceIte]
                              refine hK38 _ _ ?_
                              try clear hK38 K38
                              refine SX.region_d [some 112, some 113, some 17] rfl (fun ops hops => ?_)
                              unfold Dsts at hops
                              simp (maxSteps:=1000000)(dsimp:=false)(disch:=omega) only [go_sem, Φa, hP, h22_19, h22_10, h22_11, h22_14, h22_15, h22_16, h22_17, h22_18, hops]
                              repeat' ((first | refine And.intro (by omega) ?_ | fail); try (with_reducible refine stI ?_); try simp (maxSteps:=1000000)(dsimp:=false)(disch:=omega) only [go_sem, Φa, hP, h22_19, h22_10, h22_11, h22_14, h22_15, h22_16, h22_17, h22_18, hops])
                              refine hK34 (p + 1) _ (H20) _ (by exact Less.drop _ _) ?_ ?_
                              · try dsimp only
                                refine ⟨?_, ?_, ?_, ?_, ?_, ?_, ?_, ?_⟩
                                · simp (maxSteps:=1000000)(dsimp:=false)(disch:=omega) only [go_sem, Φa, hP, h22_19, h22_10, h22_11, h22_14, h22_15, h22_16, h22_17, h22_18]
                                  refine congrArg (Value.int .i64) ?_; first | (rw [hft, if_pos hlate]; omega) | (rw [hft, if_neg (by rw [hlate]; exact Bool.false_ne_true)]; omega)
                                · simp (maxSteps:=1000000)(dsimp:=false)(disch:=omega) only [go_sem, Φa, hP, h22_19, h22_10, h22_11, h22_14, h22_15, h22_16, h22_17, h22_18]
                                  first | done | rfl | skip
                                · simp (maxSteps:=1000000)(dsimp:=false)(disch:=omega) only [go_sem, Φa, hP, h22_19, h22_10, h22_11, h22_14, h22_15, h22_16, h22_17, h22_18]
                                · simp (maxSteps:=1000000)(dsimp:=false)(disch:=omega) only [go_sem, Φa, hP, h22_19, h22_10, h22_11, h22_14, h22_15, h22_16, h22_17, h22_18]
                                · simp (maxSteps:=1000000)(dsimp:=false)(disch:=omega) only [go_sem, Φa, hP, h22_19, h22_10, h22_11, h22_14, h22_15, h22_16, h22_17, h22_18]
                                · simp (maxSteps:=1000000)(dsimp:=false)(disch:=omega) only [go_sem, Φa, hP, h22_19, h22_10, h22_11, h22_14, h22_15, h22_16, h22_17, h22_18]
                                · rfl
                                · omega
                              · (try dsimp only); omega
                  · clear hX37 hY37 X37 Y37
                    refine SX.exit ?_
                    try simp only [andThen_normal, andThen_ret, andThen_exit, inBlk_normal, inBlk_ret, inBlk_exit, Nat.reduceEqDiff, if_true, if_false, ↓reduceIte]
                    refine hK32 _ _ ?_
                    try clear hK32 K32
                    refine SX.seq_k fun K63 hK63 => ?_
                    refine SX.region_xd [some 171, some 172, some 173, some 174, some 175, some 176, some 177, some 178, some 179, some 180, some 181, some 6] rfl (fun ops hops => ?_)
                    unfold Dsts at hops
                    refine RX.live [14, 15, 16] (fun T26 hT26 => ?_)
                    simp only [forall_mem_cons', forall_mem_nil', go_sem, Φa, hP, h15_16, h15_17, h15_10, h15_11, h15_14, h15_15] at hT26
                    obtain ⟨h26_14, h26_15, h26_16⟩ := hT26
                    clear h15_16 h15_17 h15_10 h15_11 h15_14 h15_15 T15
                    obtain rfl : p = all.length := by omega
                    have htk : ((all.take all.length).filter (late (q : Int))).length = (all.filter (late (q : Int))).length := by rw [List.take_length]
                    refine RX.join 8 (fun (ss : Unit) T L' => T 178 = .bool (true) ∧ L' = H20 ∧ (True)) (fun K64 hK64 => ?_) ?_
                    · simp (maxSteps:=1000000)(dsimp:=false)(disch:=omega) only [go_sem, Φa, hP, h26_14, h26_15, h26_16, hops, htk, hml, hcut]
                      repeat' (first | refine iteB (fun hg => ?_) (fun hg => ?_) | refine iteI (fun hg => ?_) (fun hg => ?_) | ((first | (refine SCall.mono (awake_spec hP S) ?_; rintro v_ L_ ⟨hv_, hL_⟩; rw [hv_, hL_]; clear hv_ hL_ v_ L_) | refine And.intro (by omega) ?_ | fail); try (with_reducible refine stI ?_); try simp (maxSteps:=1000000)(dsimp:=false)(disch:=omega) only [go_sem, Φa, hP, h26_14, h26_15, h26_16, hops, htk, hml, hcut]) | fail)
                      all_goals
                        refine hK64 () _ (H20) _ (by first | exact Less.refl _ | exact Less.drop _ _ | exact Less.drops (Less.drop _ _) | exact Less.drops (Less.drops (Less.drop _ _)) | exact Less.drops (Less.drops (Less.drops (Less.drop _ _))) | exact Less.drops (Less.drops (Less.drops (Less.drops (Less.drop _ _))))) ?_
                        try dsimp only
                        refine ⟨?_, ?_, ?_⟩
                        · simp (maxSteps:=1000000)(dsimp:=false)(disch:=omega) only [go_sem, Φa, hP, h26_14, h26_15, h26_16]
                          first | done | rfl | (refine congrArg Value.bool ?_; simp; done) | (refine congrArg Value.bool ?_; exact decide_eq_true (by omega))
                        · rfl
                        · trivial
                    · intro ss T27 L27 hI
                      obtain ⟨h27_178, hL27, hinv⟩ := hI
                      replace hL27 := hL27.symm
                      subst hL27
                      clear h26_14 h26_15 h26_16 T26
                      refine RX.live [178] (fun T28 hT28 => ?_)
                      simp only [forall_mem_cons', forall_mem_nil', go_sem, Φa, hP, h27_178] at hT28
                      have h28_178 := hT28; clear hT28
                      clear h27_178 T27
                      refine RX.join 3 (fun (ss : Unit) T L' => T 181 = .bool (true) ∧ L' = H20 ∧ (True)) (fun K65 hK65 => ?_) ?_
                      · simp (maxSteps:=1000000)(dsimp:=false)(disch:=omega) only [go_sem, Φa, hP, h28_178, hops, htk, hml, hcut]
                        repeat' (first | refine iteB (fun hg => ?_) (fun hg => ?_) | refine iteI (fun hg => ?_) (fun hg => ?_) | ((first | (refine SCall.mono (awake_spec hP S) ?_; rintro v_ L_ ⟨hv_, hL_⟩; rw [hv_, hL_]; clear hv_ hL_ v_ L_) | refine And.intro (by omega) ?_ | fail); try (with_reducible refine stI ?_); try simp (maxSteps:=1000000)(dsimp:=false)(disch:=omega) only [go_sem, Φa, hP, h28_178, hops, htk, hml, hcut]) | fail)
                        all_goals
                          refine hK65 () _ (H20) _ (by first | exact Less.refl _ | exact Less.drop _ _ | exact Less.drops (Less.drop _ _) | exact Less.drops (Less.drops (Less.drop _ _)) | exact Less.drops (Less.drops (Less.drops (Less.drop _ _))) | exact Less.drops (Less.drops (Less.drops (Less.drops (Less.drop _ _))))) ?_
                          try dsimp only
                          refine ⟨?_, ?_, ?_⟩
                          · simp (maxSteps:=1000000)(dsimp:=false)(disch:=omega) only [go_sem, Φa, hP, h28_178]
                            first | done | rfl | (refine congrArg Value.bool ?_; simp; done) | (refine congrArg Value.bool ?_; exact decide_eq_true (by omega))
                          · rfl
                          · trivial
                      · intro ss T29 L29 hI
                        obtain ⟨h29_181, hL29, hinv⟩ := hI
                        replace hL29 := hL29.symm
                        subst hL29
                        clear h28_178 T28
                        refine RX.done ?_
                        simp (maxSteps:=1000000)(dsimp:=false)(disch:=omega) only [go_sem, Φa, hP, h29_181, hops]
                        refine hK63 _ _ ?_
                        try clear hK63 K63
                        refine SX.ret ?_
                        simp only [andThen_normal, andThen_ret, andThen_exit, inBlk_normal, inBlk_ret, inBlk_exit, Nat.reduceEqDiff, if_true, if_false, ↓reduceIte, retQ_ret]
                        try simp only [res0, res1, res2, res3, stK_e, go_sem, Φa, hP, h29_181]
                        exact ⟨_, _, hend, rfl, rfl, rfl⟩

end Go.Proofs.YtpakphgeichopaaDoor
set_option linter.unusedVariables false
namespace Go.Proofs.YtpakphgeichopaaDoor
open Go.ChangeShapes Go.WideShapes Go.ChangeAt Go.RowKit Go.SX
/-! What is handed in: rasters, records, frames; the laid variable. -/
theorem own : ownKnob Tryd.prog.godebug = none := by kernel_rfl
theorem laidOut : laidOutB Tryd.prog = true := by kernel_rfl
theorem cells3 : Tryd.prog.cellsOf 3 = 1 := by kernel_rfl
theorem cells5 : Tryd.prog.cellsOf 5 = 1 := by kernel_rfl
theorem cells41 : Tryd.prog.cellsOf 41 = 3 := by kernel_rfl
theorem cells50 : Tryd.prog.cellsOf 50 = 1 := by kernel_rfl
theorem cellsE : Tryd.prog.cellsOf 89 = 2 := by kernel_rfl
theorem cellsS : Tryd.prog.cellsOf 90 = 2 := by kernel_rfl
theorem gSh : Tryd.prog.globalNamed "vesper/pixie.shown" = some 0 := by kernel_rfl
theorem tSh : (Tryd.prog.globals[0]?).map (·.type) = some 90 := by kernel_rfl
theorem shown_of {W : World} {laid : List (String × DataW Unit)} (hp : (laid.all fun x => x.2.handleName?.isNone) = true) (hL : laidMetH Tryd.prog laid W) (hm : ("vesper/pixie.shown", Rows.laid_vesper_pixie_shown) ∈ laid) : SH ⟨Tryd.prog, W, []⟩ := by
  obtain ⟨cs, f, p, h1, h2⟩ := laid_var hp hL hm gSh tSh
  have key := trod_arr_arr (zss := [[80, 207]]) Tryd.underlying90 Tryd.underlying89 Tryd.underlying3 cells3 cellsE cellsS (by intro zs hz; rw [List.mem_singleton.1 hz]; rfl) h1 rfl
  intro L i b hb
  have hi : ([[80, 207]] : List (List Int))[i]? = some [b.1, b.2] := by
    cases i with
    | zero => simp at hb; subst hb; rfl
    | succ i => simp at hb
  constructor
  · refine Cell.old (by simp) ?_
    rw [Addr.add_lit, Nat.zero_add, h2]
    exact key i 0 _ _ hi rfl
  · refine Cell.old (by simp) ?_
    rw [Addr.add_lit, Nat.zero_add, h2]
    exact key i 1 _ _ hi rfl
theorem flat24 : flatK Tryd.prog 9 24 = some [.i .i64, .i .i64, .b, .i .i64] := by kernel_rfl
theorem flat29 : flatK Tryd.prog 9 29 = some [.i .u8, .i .u16, .i .u8, .b, .b, .i .u8, .b, .i .u8] := by kernel_rfl
theorem flat46 : flatK Tryd.prog 9 46 = some [.i .i64, .i .u8, .i .i64] := by kernel_rfl
section
variable {H : Type} {enc : TypeId × Value → H} {W : World} {base : Nat} {v : Value} {d : DataW H} {p : List MemPlace}
theorem open_ras (hv : Value.okWide Tryd.prog W .any base 24 v) (h : DataW.Trod enc Tryd.prog W 0 (fun _ => true) true 24 v d p) :
    ∃ x : Ras, v = .agg #[.int .i64 x.1, .int .i64 x.2.1, .bool x.2.2.1, .int .i64 x.2.2.2] ∧ (Lit.int .i64 x.1).wf = true ∧ (Lit.int .i64 x.2.1).wf = true ∧ (Lit.int .i64 x.2.2.2).wf = true := by
  obtain ⟨cs, rfl, _⟩ := okWide_struct Tryd.underlying24 hv
  have hk := open_flat flat24 h
  obtain ⟨l, v1, e1, h1, hk⟩ := okVs_i hk
  obtain ⟨c, v2, e2, h2, hk⟩ := okVs_i hk
  obtain ⟨o, v3, e3, hk⟩ := okVs_b hk
  obtain ⟨g, v4, e4, h3, hk⟩ := okVs_i hk
  have e5 := okVs_nil hk
  subst e5 e4 e3 e2
  exact ⟨(l, c, o, g), congrArg Value.agg (Array.toList_inj.1 e1), h1, h2, h3⟩
theorem rc_of {cs : List Value} (hk : okVs [.i .u8, .i .u16, .i .u8, .b, .b, .i .u8, .b, .i .u8] cs = true) : ∃ r : Rc, cs = r.cells ∧ 0 ≤ r.data ∧ r.data ≤ 255 ∧ (Lit.int .u8 r.code).wf = true ∧ (Lit.int .u16 r.ad).wf = true ∧ (Lit.int .u8 r.data).wf = true ∧ (Lit.int .u8 r.port).wf = true ∧ (Lit.int .u8 r.md).wf = true := by
  obtain ⟨c0, v1, e1, h1, hk⟩ := okVs_i hk
  obtain ⟨c1, v2, e2, h2, hk⟩ := okVs_i hk
  obtain ⟨c2, v3, e3, h3, hk⟩ := okVs_i hk
  obtain ⟨c3, v4, e4, hk⟩ := okVs_b hk
  obtain ⟨c4, v5, e5, hk⟩ := okVs_b hk
  obtain ⟨c5, v6, e6, h6, hk⟩ := okVs_i hk
  obtain ⟨c6, v7, e7, hk⟩ := okVs_b hk
  obtain ⟨c7, v8, e8, h8, hk⟩ := okVs_i hk
  have e9 := okVs_nil hk
  subst e9 e8 e7 e6 e5 e4 e3 e2 e1
  have hb := bounds_u8 h3
  exact ⟨⟨c0, c1, c2, c3, c4, c5, c6, c7⟩, rfl, by dsimp only; omega, by dsimp only; omega, h1, h2, h3, h6, h8⟩
def OkRc (r : Rc) : Prop := 0 ≤ r.data ∧ r.data ≤ 255 ∧ (Lit.int .u8 r.code).wf = true ∧ (Lit.int .u16 r.ad).wf = true ∧ (Lit.int .u8 r.data).wf = true ∧ (Lit.int .u8 r.port).wf = true ∧ (Lit.int .u8 r.md).wf = true
theorem open_recs (hv : Value.okWide Tryd.prog W .any base 25 v) (h : DataW.Trod enc Tryd.prog W 0 (fun _ => true) true 25 v d p) :
    ∃ l : List Rc, SlC (Cell ⟨Tryd.prog, W, []⟩ []) v l ∧ (∀ r ∈ l, OkRc r) ∧ l.length ≤ 9223372036854775807 := by
  have hkk : Tryd.prog.cellsOf 29 = 8 := by kernel_rfl
  obtain ⟨l, ⟨A, c, h1, h2, h3⟩, hl⟩ := open_slRT (R := fun cs (r : Rc) => cs = r.cells ∧ OkRc r) Tryd.underlying25 hkk (fun n cs y hy => rc_of (trod_flat 9 29 _ _ _ _ flat29 hy)) hv h
  refine ⟨l, ⟨A, c, h1, h2, fun j x hj => ?_⟩, fun r hr => ?_, hl⟩
  · obtain ⟨a, ha, cs, _, ⟨rfl, _⟩, k⟩ := h3 j x hj
    exact ⟨a, ha, k⟩
  · obtain ⟨j, hj⟩ := List.mem_iff_getElem?.1 hr
    obtain ⟨a, ha, cs, _, ⟨_, k⟩, _⟩ := h3 j r hj
    exact k
/-- Rows of bytes that are handed in. -/
def RowsIn (W : World) (v : Value) (l : List (List Int)) : Prop := SlR (Cell ⟨Tryd.prog, W, []⟩ []) v l ∧ (∀ r ∈ l, Byte r ∧ r.length ≤ 9223372036854775807) ∧ l.length ≤ 9223372036854775807
set_option maxRecDepth 100000 in
theorem open_rowsV {n : Nat} {y : DataW H × List MemPlace} (hy : DataW.trod enc Tryd.prog W 0 (fun _ => true) true n 39 [v] = some y) : ∃ l, RowsIn W v l := by
  obtain ⟨l, ⟨A, c, h1, h2, h3⟩, hl⟩ := open_slR (R := fun cs (r : List Int) => ∃ u, cs = [u] ∧ SlI .u8 (Cell ⟨Tryd.prog, W, []⟩ []) u r ∧ Byte r ∧ r.length ≤ 9223372036854775807) Tryd.underlying39 cells50 (fun n cs y hy => by
    cases n with
    | zero => simp [DataW.trod] at hy
    | succ n =>
      obtain ⟨u, rfl⟩ : ∃ u, cs = [u] := by
        rcases DataW.trod_slice Tryd.underlying50 hy with ⟨h, _⟩ | ⟨a, len, cap, _, _, _, _, h, _⟩
        · exact ⟨_, h⟩
        · exact ⟨_, h⟩
      obtain ⟨xs, hx, hw, hl⟩ := open_slv Tryd.underlying50 Tryd.underlying5 cells5 hy
      exact ⟨xs, u, rfl, hx, fun n hn => by have := bounds_u8 (hw n hn); omega, hl⟩) hy
  refine ⟨l, ⟨A, c, h1, h2, fun j x hj => ?_⟩, fun r hr => ?_, hl⟩
  · obtain ⟨a, ha, cs, _, ⟨u, rfl, k1, _⟩, k⟩ := h3 j x hj
    refine ⟨a, ha, u, ?_, k1⟩
    have := k 0 _ rfl
    simpa [Addr.add_zero'] using this
  · obtain ⟨j, hj⟩ := List.mem_iff_getElem?.1 hr
    obtain ⟨a, ha, cs, _, ⟨u, _, _, k⟩, _⟩ := h3 j r hj
    exact k
set_option maxRecDepth 100000 in
theorem open_frame (hv : Value.okWide Tryd.prog W .any base 41 v) (h : DataW.Trod enc Tryd.prog W 0 (fun _ => true) true 41 v d p) :
    ∃ (f : Fm) (rv : Value), v = .agg (f.cells rv).toArray ∧ RowsIn W rv f.rows ∧ (Lit.int .i64 f.at_).wf = true := by
  obtain ⟨cs, rfl, _⟩ := okWide_struct Tryd.underlying41 hv
  obtain ⟨fuel, hy⟩ := h
  obtain ⟨xs, m, _, _, hcs, hxs, hf⟩ := DataW.trod_struct Tryd.underlying41 hy
  rw [cells41] at hcs
  obtain ⟨l⟩ := cs
  match l, hcs with
  | [c0, c1, c2], _ =>
    have h0 : DataW.trod enc Tryd.prog W 0 (fun _ => true) true m 3 [c0] = xs[0]? := hf 0 _ rfl
    have h1 : DataW.trod enc Tryd.prog W 0 (fun _ => true) true m 39 [c1] = xs[1]? := hf 1 _ rfl
    have h2 : DataW.trod enc Tryd.prog W 0 (fun _ => true) true m 4 [c2] = xs[2]? := hf 2 _ rfl
    rw [List.getElem?_eq_getElem (by rw [hxs]; decide)] at h0 h1 h2
    obtain ⟨n, e1, _, e3⟩ := DataW.trod_int Tryd.underlying3 h0
    obtain ⟨b, e2, _⟩ := DataW.trod_bool Tryd.underlying4 h2
    obtain ⟨rows, hr⟩ := open_rowsV h1
    simp at e1 e2
    subst e1 e2
    exact ⟨⟨n, rows, b⟩, c1, rfl, hr, e3⟩
theorem open_turn (hv : Value.okWide Tryd.prog W .any base 46 v) (h : DataW.Trod enc Tryd.prog W 0 (fun _ => true) true 46 v d p) :
    ∃ (a b m : Int), v = .agg #[.int .i64 a, .int .u8 b, .int .i64 m] ∧ (Lit.int .i64 a).wf = true ∧ (0 ≤ b ∧ b ≤ 255) ∧ (Lit.int .i64 m).wf = true := by
  obtain ⟨cs, rfl, _⟩ := okWide_struct Tryd.underlying46 hv
  have hk := open_flat flat46 h
  obtain ⟨a, v1, e1, h1, hk⟩ := okVs_i hk
  obtain ⟨b, v2, e2, h2, hk⟩ := okVs_i hk
  obtain ⟨m, v3, e3, h3, hk⟩ := okVs_i hk
  have e4 := okVs_nil hk
  subst e4 e3 e2
  exact ⟨a, b, m, congrArg Value.agg (Array.toList_inj.1 e1), h1, by have := bounds_u8 h2; omega, h3⟩
theorem RowsIn.by_ {rv : Value} {l : List (List Int)} (h : RowsIn W rv l) : ∀ i, i < l.length → ∀ j, j < (l.getD i []).length → 0 ≤ (l.getD i []).getD j 0 ∧ (l.getD i []).getD j 0 ≤ 255 := fun i hi j hj => by
  have hm := (h.2.1 _ (List.mem_of_getElem? (getD_get (d := []) hi))).1
  exact hm _ (List.mem_of_getElem? (getD_get (d := 0) hj))
end
end Go.Proofs.YtpakphgeichopaaDoor
