/- A part of a proof: contracts and plain facts that it stands on. -/
import Derived.Test.YtcenlgofldnfcaaDoorCC
import Derived.Lib.EndianBits
import Derived.Test.YtcenlgofldnfcaaDoorRows
import Derived.Test.YtcenlgofldnfcaaDoorCards
import Derived.Test.YtcenlgofldnfcaaDoorTie
import Derived.SevenTiedAt
import Derived.Lib.SmallJoins
set_option linter.unusedVariables false
set_option linter.unusedSimpArgs false
namespace Go.Proofs.YtcenlgofldnfcaaDoor
open Go.RowKit Go.SX Go.Proofs
open Go.SX renaming ia_someH → Φa

/-! The document's bytes. -/
def v0 (x : Rc) : Int := x.code + 32 * x.md
def v1 (x : Rc) : Int := if x.rd = true then v0 x + 4 else v0 x
def v2 (x : Rc) : Int := if x.wr = true then v1 x + 8 else v1 x
def v3 (x : Rc) : Int := if x.q = true then v2 x + 16 else v2 x
def v4 (x : Rc) (next : Int) : Int := if farB x next = true then v3 x + 128 else v3 x
theorem hd_all : ∀ c m : Fin 4, ∀ r w q : Bool, (r && w) = false → hd3 ⟨(c.1 : Int), 0, 0, r, w, 0, q, (m.1 : Int)⟩ = v3 ⟨(c.1 : Int), 0, 0, r, w, 0, q, (m.1 : Int)⟩ ∧ bits .or .u8 (hd3 ⟨(c.1 : Int), 0, 0, r, w, 0, q, (m.1 : Int)⟩) 128 = v3 ⟨(c.1 : Int), 0, 0, r, w, 0, q, (m.1 : Int)⟩ + 128 ∧ 0 ≤ v3 ⟨(c.1 : Int), 0, 0, r, w, 0, q, (m.1 : Int)⟩ ∧ v3 ⟨(c.1 : Int), 0, 0, r, w, 0, q, (m.1 : Int)⟩ ≤ 127 := by decide +kernel
theorem hd_eq {x : Rc} (ho : OkR x) (hm : mayB x = true) : hd3 x = v3 x ∧ bits .or .u8 (hd3 x) 128 = v3 x + 128 ∧ 0 ≤ v3 x ∧ v3 x ≤ 127 := by
  have hcd := ho.code
  have hmd := ho.md
  simp only [mayB, Bool.and_eq_true, decide_eq_true_eq] at hm
  obtain ⟨⟨⟨hm1, hm2⟩, hm3⟩, hm4⟩ := hm
  have h := hd_all ⟨x.code.toNat, by omega⟩ ⟨x.md.toNat, by omega⟩ x.rd x.wr x.q (by cases hr : x.rd <;> cases hw : x.wr <;> simp_all)
  rw [show ((x.code.toNat : Nat) : Int) = x.code by omega, show ((x.md.toNat : Nat) : Int) = x.md by omega] at h
  exact h
theorem v1_le (x : Rc) : v0 x ≤ v1 x ∧ v1 x ≤ v0 x + 4 := by unfold v1; split <;> omega
theorem v2_le (x : Rc) : v1 x ≤ v2 x ∧ v2 x ≤ v1 x + 8 := by unfold v2; split <;> omega
theorem v3_le (x : Rc) : v2 x ≤ v3 x ∧ v3 x ≤ v2 x + 16 := by unfold v3; split <;> omega
set_option maxHeartbeats 1000000 in
set_option maxRecDepth 100000 in
theorem refHead_spec {Γ : Ctx} (hP : Γ.P = Tryd.prog) {L : Hp} {x : Rc} {next : Int} (ho : OkR x) (hm : mayB x = true) :
    SCall Γ 36 #[(.agg x.cells.toArray), (.int .u16 next)] L (fun v L' => v = .int .u8 (v4 x next) ∧ L' = L) := by
  obtain ⟨he1, he2, he3, he4⟩ := hd_eq ho hm
  have hcd := ho.code
  have hmd := ho.md
  have q1 := v1_le x
  have q2 := v2_le x
  have q3 := v3_le x
  have q0 : v0 x = x.code + 32 * x.md := rfl
  have hmm := hm
  simp only [mayB, Bool.and_eq_true, decide_eq_true_eq] at hmm
  obtain ⟨⟨⟨hm1, hm2⟩, hm3⟩, hm4⟩ := hmm
  refine SCall.enter (n := 36) (res1 4) (hP ▸ Tryd.func36) rfl rfl (by simp) (res1_ok rfl) ?_
  refine SX.seq_k fun K1 hK1 => ?_
  refine SX.region_d [some 2, some 4] rfl (fun ops hops => ?_)
  unfold Dsts at hops
  simp (maxSteps:=1000000)(dsimp:=false)(disch:=omega) only [go_sem, Φa, hP, hops]
  intro b0
  try with_reducible refine stI ?_
  try simp (maxSteps:=1000000)(dsimp:=false)(disch:=omega) only [go_sem, Φa, hP, hops]
  refine hK1 _ _ ?_
  try clear hK1 K1
  refine SX.live [1, 2] (fun T1 hT1 => ?_)
  simp only [forall_mem_cons', forall_mem_nil', go_sem, Φa, hP] at hT1
  obtain ⟨h1_1, h1_2⟩ := hT1
  refine SX.join (fun (ss : Unit) T L' => T 5 = .int .u8 (v0 x) ∧ T 1 = T1 1 ∧ T 2 = T1 2 ∧ L' = some (b0, .cells x.cells.toArray 46 (0, 0)) :: L ∧ (True)) (fun K2 hK2 => ?_) ?_
  · simp only [h1_1, h1_2] at hK2
    refine SX.region_d [some 6, some 7, some 8, some 9, some 10, some 11, some 5] rfl (fun ops hops => ?_)
    unfold Dsts at hops
    simp (maxSteps:=1000000)(dsimp:=false)(disch:=omega) only [go_sem, Φa, hP, h1_1, h1_2, hops]
    refine ⟨_, Cell.at 0 rfl (show (Rc.cells _)[0]? = _ from rfl), ?_⟩
    try with_reducible refine stI ?_
    try simp (maxSteps:=1000000)(dsimp:=false)(disch:=omega) only [go_sem, Φa, hP, h1_1, h1_2, hops]
    refine ⟨_, Cell.at 0 rfl (show (Rc.cells _)[7]? = _ from rfl), ?_⟩
    try with_reducible refine stI ?_
    try simp (maxSteps:=1000000)(dsimp:=false)(disch:=omega) only [go_sem, Φa, hP, h1_1, h1_2, hops]
    refine hK2 () _ (some (b0, .cells x.cells.toArray 46 (0, 0)) :: L) _ (by first | exact Less.refl _ | exact Less.drop _ _ | exact Less.drops (Less.drop _ _) | exact Less.drops (Less.drops (Less.drop _ _)) | exact Less.drops (Less.drops (Less.drops (Less.drop _ _))) | exact Less.drops (Less.drops (Less.drops (Less.drops (Less.drop _ _))))) ?_
    try dsimp only
    refine ⟨?_, ?_, ?_, ?_, ?_⟩
    · simp (maxSteps:=1000000)(dsimp:=false)(disch:=omega) only [go_sem, Φa, hP, h1_1, h1_2]
      first | done | rfl
    · simp (maxSteps:=1000000)(dsimp:=false)(disch:=omega) only [go_sem, Φa, hP, h1_1, h1_2]
    · simp (maxSteps:=1000000)(dsimp:=false)(disch:=omega) only [go_sem, Φa, hP, h1_1, h1_2]
    · rfl
    · trivial
  · intro ss T2 L2 hI
    simp only [h1_1, h1_2] at hI 
    obtain ⟨h2_5, h2_1, h2_2, hL2, hinv⟩ := hI
    replace hL2 := hL2.symm
    subst hL2
    clear h1_1 h1_2 T1
    refine SX.live [1, 2, 5] (fun T3 hT3 => ?_)
    simp only [forall_mem_cons', forall_mem_nil', go_sem, Φa, hP, h2_5, h2_1, h2_2] at hT3
    obtain ⟨h3_1, h3_2, h3_5⟩ := hT3
    clear h2_5 h2_1 h2_2 T2
    refine SX.join (fun (ss : Unit) T L' => T 5 = .int .u8 (v1 x) ∧ T 1 = T3 1 ∧ T 2 = T3 2 ∧ L' = some (b0, .cells x.cells.toArray 46 (0, 0)) :: L ∧ (True)) (fun K3 hK3 => ?_) ?_
    · simp only [h3_1, h3_2] at hK3
      refine SX.seq_k fun K4 hK4 => ?_
      refine SX.region_d [some 12, some 13] rfl (fun ops hops => ?_)
      unfold Dsts at hops
      simp (maxSteps:=1000000)(dsimp:=false)(disch:=omega) only [go_sem, Φa, hP, h3_1, h3_2, h3_5, hops]
      refine ⟨_, Cell.at 0 rfl (show (Rc.cells _)[3]? = _ from rfl), ?_⟩
      try with_reducible refine stI ?_
      try simp (maxSteps:=1000000)(dsimp:=false)(disch:=omega) only [go_sem, Φa, hP, h3_1, h3_2, h3_5, hops]
      refine hK4 _ _ ?_
      try clear hK4 K4
      refine SX.cond_k fun X5 Y5 hX5 hY5 => ?_
      simp (maxSteps:=1000000)(dsimp:=false)(disch:=omega) only [go_sem, Φa, hP, h3_1, h3_2, h3_5, condVC]
      refine ⟨fun hc13 => hX5 ?_, fun hc13 => hY5 ?_⟩
      · clear hX5 hY5 X5 Y5
        refine SX.region_d [some 14, some 15, some 5] rfl (fun ops hops => ?_)
        unfold Dsts at hops
        simp (maxSteps:=1000000)(dsimp:=false)(disch:=omega) only [go_sem, Φa, hP, h3_1, h3_2, h3_5, hops]
        repeat' ((first | refine And.intro (by omega) ?_ | fail); try (with_reducible refine stI ?_); try simp (maxSteps:=1000000)(dsimp:=false)(disch:=omega) only [go_sem, Φa, hP, h3_1, h3_2, h3_5, hops])
        refine hK3 () _ (some (b0, .cells x.cells.toArray 46 (0, 0)) :: L) _ (by first | exact Less.refl _ | exact Less.drop _ _ | exact Less.drops (Less.drop _ _) | exact Less.drops (Less.drops (Less.drop _ _)) | exact Less.drops (Less.drops (Less.drops (Less.drop _ _))) | exact Less.drops (Less.drops (Less.drops (Less.drops (Less.drop _ _))))) ?_
        try dsimp only
        refine ⟨?_, ?_, ?_, ?_, ?_⟩
        · simp (maxSteps:=1000000)(dsimp:=false)(disch:=omega) only [go_sem, Φa, hP, h3_1, h3_2, h3_5]
          first | (unfold v1; rw [if_pos hc13]; done) | (unfold v1; rw [if_pos hc13]; rfl)
        · simp (maxSteps:=1000000)(dsimp:=false)(disch:=omega) only [go_sem, Φa, hP, h3_1, h3_2, h3_5]
        · simp (maxSteps:=1000000)(dsimp:=false)(disch:=omega) only [go_sem, Φa, hP, h3_1, h3_2, h3_5]
        · rfl
        · trivial
      · clear hX5 hY5 X5 Y5
        refine SX.skip ?_
        try simp only [andThen_normal, andThen_ret, andThen_exit, inBlk_normal, inBlk_ret, inBlk_exit, Nat.reduceEqDiff, if_true, if_false, ↓reduceIte]
        refine hK3 () _ (some (b0, .cells x.cells.toArray 46 (0, 0)) :: L) _ (by first | exact Less.refl _ | exact Less.drop _ _ | exact Less.drops (Less.drop _ _) | exact Less.drops (Less.drops (Less.drop _ _)) | exact Less.drops (Less.drops (Less.drops (Less.drop _ _))) | exact Less.drops (Less.drops (Less.drops (Less.drops (Less.drop _ _))))) ?_
        try dsimp only
        refine ⟨?_, ?_, ?_, ?_, ?_⟩
        · simp (maxSteps:=1000000)(dsimp:=false)(disch:=omega) only [go_sem, Φa, hP, h3_1, h3_2, h3_5]
          first | (unfold v1; rw [if_neg (by rw [hc13]; simp)]; done) | (unfold v1; rw [if_neg (by rw [hc13]; simp)]; rfl)
        · simp (maxSteps:=1000000)(dsimp:=false)(disch:=omega) only [go_sem, Φa, hP, h3_1, h3_2, h3_5]
        · simp (maxSteps:=1000000)(dsimp:=false)(disch:=omega) only [go_sem, Φa, hP, h3_1, h3_2, h3_5]
        · rfl
        · trivial
    · intro ss T4 L4 hI
      simp only [h3_1, h3_2] at hI 
      obtain ⟨h4_5, h4_1, h4_2, hL4, hinv⟩ := hI
      replace hL4 := hL4.symm
      subst hL4
      clear h3_1 h3_2 h3_5 T3
      refine SX.live [1, 2, 5] (fun T5 hT5 => ?_)
      simp only [forall_mem_cons', forall_mem_nil', go_sem, Φa, hP, h4_5, h4_1, h4_2] at hT5
      obtain ⟨h5_1, h5_2, h5_5⟩ := hT5
      clear h4_5 h4_1 h4_2 T4
      refine SX.join (fun (ss : Unit) T L' => T 5 = .int .u8 (v2 x) ∧ T 1 = T5 1 ∧ T 2 = T5 2 ∧ L' = some (b0, .cells x.cells.toArray 46 (0, 0)) :: L ∧ (True)) (fun K6 hK6 => ?_) ?_
      · simp only [h5_1, h5_2] at hK6
        refine SX.seq_k fun K7 hK7 => ?_
        refine SX.region_d [some 16, some 17] rfl (fun ops hops => ?_)
        unfold Dsts at hops
        simp (maxSteps:=1000000)(dsimp:=false)(disch:=omega) only [go_sem, Φa, hP, h5_1, h5_2, h5_5, hops]
        refine ⟨_, Cell.at 0 rfl (show (Rc.cells _)[4]? = _ from rfl), ?_⟩
        try with_reducible refine stI ?_
        try simp (maxSteps:=1000000)(dsimp:=false)(disch:=omega) only [go_sem, Φa, hP, h5_1, h5_2, h5_5, hops]
        refine hK7 _ _ ?_
        try clear hK7 K7
        refine SX.cond_k fun X8 Y8 hX8 hY8 => ?_
        simp (maxSteps:=1000000)(dsimp:=false)(disch:=omega) only [go_sem, Φa, hP, h5_1, h5_2, h5_5, condVC]
        refine ⟨fun hc17 => hX8 ?_, fun hc17 => hY8 ?_⟩
        · clear hX8 hY8 X8 Y8
          refine SX.region_d [some 18, some 19, some 5] rfl (fun ops hops => ?_)
          unfold Dsts at hops
          simp (maxSteps:=1000000)(dsimp:=false)(disch:=omega) only [go_sem, Φa, hP, h5_1, h5_2, h5_5, hops]
          repeat' ((first | refine And.intro (by omega) ?_ | fail); try (with_reducible refine stI ?_); try simp (maxSteps:=1000000)(dsimp:=false)(disch:=omega) only [go_sem, Φa, hP, h5_1, h5_2, h5_5, hops])
          refine hK6 () _ (some (b0, .cells x.cells.toArray 46 (0, 0)) :: L) _ (by first | exact Less.refl _ | exact Less.drop _ _ | exact Less.drops (Less.drop _ _) | exact Less.drops (Less.drops (Less.drop _ _)) | exact Less.drops (Less.drops (Less.drops (Less.drop _ _))) | exact Less.drops (Less.drops (Less.drops (Less.drops (Less.drop _ _))))) ?_
          try dsimp only
          refine ⟨?_, ?_, ?_, ?_, ?_⟩
          · simp (maxSteps:=1000000)(dsimp:=false)(disch:=omega) only [go_sem, Φa, hP, h5_1, h5_2, h5_5]
            first | (unfold v2; rw [if_pos hc17]; done) | (unfold v2; rw [if_pos hc17]; rfl)
          · simp (maxSteps:=1000000)(dsimp:=false)(disch:=omega) only [go_sem, Φa, hP, h5_1, h5_2, h5_5]
          · simp (maxSteps:=1000000)(dsimp:=false)(disch:=omega) only [go_sem, Φa, hP, h5_1, h5_2, h5_5]
          · rfl
          · trivial
        · clear hX8 hY8 X8 Y8
          refine SX.skip ?_
          try simp only [andThen_normal, andThen_ret, andThen_exit, inBlk_normal, inBlk_ret, inBlk_exit, Nat.reduceEqDiff, if_true, if_false, ↓reduceIte]
          refine hK6 () _ (some (b0, .cells x.cells.toArray 46 (0, 0)) :: L) _ (by first | exact Less.refl _ | exact Less.drop _ _ | exact Less.drops (Less.drop _ _) | exact Less.drops (Less.drops (Less.drop _ _)) | exact Less.drops (Less.drops (Less.drops (Less.drop _ _))) | exact Less.drops (Less.drops (Less.drops (Less.drops (Less.drop _ _))))) ?_
          try dsimp only
          refine ⟨?_, ?_, ?_, ?_, ?_⟩
          · simp (maxSteps:=1000000)(dsimp:=false)(disch:=omega) only [go_sem, Φa, hP, h5_1, h5_2, h5_5]
            first | (unfold v2; rw [if_neg (by rw [hc17]; simp)]; done) | (unfold v2; rw [if_neg (by rw [hc17]; simp)]; rfl)
          · simp (maxSteps:=1000000)(dsimp:=false)(disch:=omega) only [go_sem, Φa, hP, h5_1, h5_2, h5_5]
          · simp (maxSteps:=1000000)(dsimp:=false)(disch:=omega) only [go_sem, Φa, hP, h5_1, h5_2, h5_5]
          · rfl
          · trivial
      · intro ss T6 L6 hI
        simp only [h5_1, h5_2] at hI 
        obtain ⟨h6_5, h6_1, h6_2, hL6, hinv⟩ := hI
        replace hL6 := hL6.symm
        subst hL6
        clear h5_1 h5_2 h5_5 T5
        refine SX.live [1, 2, 5] (fun T7 hT7 => ?_)
        simp only [forall_mem_cons', forall_mem_nil', go_sem, Φa, hP, h6_5, h6_1, h6_2] at hT7
        obtain ⟨h7_1, h7_2, h7_5⟩ := hT7
        clear h6_5 h6_1 h6_2 T6
        refine SX.join (fun (ss : Unit) T L' => T 5 = .int .u8 (v3 x) ∧ T 1 = T7 1 ∧ T 2 = T7 2 ∧ L' = some (b0, .cells x.cells.toArray 46 (0, 0)) :: L ∧ (True)) (fun K9 hK9 => ?_) ?_
        · simp only [h7_1, h7_2] at hK9
          refine SX.seq_k fun K10 hK10 => ?_
          refine SX.region_d [some 20, some 21] rfl (fun ops hops => ?_)
          unfold Dsts at hops
          simp (maxSteps:=1000000)(dsimp:=false)(disch:=omega) only [go_sem, Φa, hP, h7_1, h7_2, h7_5, hops]
          refine ⟨_, Cell.at 0 rfl (show (Rc.cells _)[6]? = _ from rfl), ?_⟩
          try with_reducible refine stI ?_
          try simp (maxSteps:=1000000)(dsimp:=false)(disch:=omega) only [go_sem, Φa, hP, h7_1, h7_2, h7_5, hops]
          refine hK10 _ _ ?_
          try clear hK10 K10
          refine SX.cond_k fun X11 Y11 hX11 hY11 => ?_
          simp (maxSteps:=1000000)(dsimp:=false)(disch:=omega) only [go_sem, Φa, hP, h7_1, h7_2, h7_5, condVC]
          refine ⟨fun hc21 => hX11 ?_, fun hc21 => hY11 ?_⟩
          · clear hX11 hY11 X11 Y11
            refine SX.region_d [some 22, some 23, some 5] rfl (fun ops hops => ?_)
            unfold Dsts at hops
            simp (maxSteps:=1000000)(dsimp:=false)(disch:=omega) only [go_sem, Φa, hP, h7_1, h7_2, h7_5, hops]
            repeat' ((first | refine And.intro (by omega) ?_ | fail); try (with_reducible refine stI ?_); try simp (maxSteps:=1000000)(dsimp:=false)(disch:=omega) only [go_sem, Φa, hP, h7_1, h7_2, h7_5, hops])
            refine hK9 () _ (some (b0, .cells x.cells.toArray 46 (0, 0)) :: L) _ (by first | exact Less.refl _ | exact Less.drop _ _ | exact Less.drops (Less.drop _ _) | exact Less.drops (Less.drops (Less.drop _ _)) | exact Less.drops (Less.drops (Less.drops (Less.drop _ _))) | exact Less.drops (Less.drops (Less.drops (Less.drops (Less.drop _ _))))) ?_
            try dsimp only
            refine ⟨?_, ?_, ?_, ?_, ?_⟩
            · simp (maxSteps:=1000000)(dsimp:=false)(disch:=omega) only [go_sem, Φa, hP, h7_1, h7_2, h7_5]
              first | (unfold v3; rw [if_pos hc21]; done) | (unfold v3; rw [if_pos hc21]; rfl)
            · simp (maxSteps:=1000000)(dsimp:=false)(disch:=omega) only [go_sem, Φa, hP, h7_1, h7_2, h7_5]
            · simp (maxSteps:=1000000)(dsimp:=false)(disch:=omega) only [go_sem, Φa, hP, h7_1, h7_2, h7_5]
            · rfl
            · trivial
          · clear hX11 hY11 X11 Y11
            refine SX.skip ?_
            try simp only [andThen_normal, andThen_ret, andThen_exit, inBlk_normal, inBlk_ret, inBlk_exit, Nat.reduceEqDiff, if_true, if_false, ↓reduceIte]
            refine hK9 () _ (some (b0, .cells x.cells.toArray 46 (0, 0)) :: L) _ (by first | exact Less.refl _ | exact Less.drop _ _ | exact Less.drops (Less.drop _ _) | exact Less.drops (Less.drops (Less.drop _ _)) | exact Less.drops (Less.drops (Less.drops (Less.drop _ _))) | exact Less.drops (Less.drops (Less.drops (Less.drops (Less.drop _ _))))) ?_
            try dsimp only
            refine ⟨?_, ?_, ?_, ?_, ?_⟩
            · simp (maxSteps:=1000000)(dsimp:=false)(disch:=omega) only [go_sem, Φa, hP, h7_1, h7_2, h7_5]
              first | (unfold v3; rw [if_neg (by rw [hc21]; simp)]; done) | (unfold v3; rw [if_neg (by rw [hc21]; simp)]; rfl)
            · simp (maxSteps:=1000000)(dsimp:=false)(disch:=omega) only [go_sem, Φa, hP, h7_1, h7_2, h7_5]
            · simp (maxSteps:=1000000)(dsimp:=false)(disch:=omega) only [go_sem, Φa, hP, h7_1, h7_2, h7_5]
            · rfl
            · trivial
        · intro ss T8 L8 hI
          simp only [h7_1, h7_2] at hI 
          obtain ⟨h8_5, h8_1, h8_2, hL8, hinv⟩ := hI
          replace hL8 := hL8.symm
          subst hL8
          clear h7_1 h7_2 h7_5 T7
          refine SX.live [1, 2, 5] (fun T9 hT9 => ?_)
          simp only [forall_mem_cons', forall_mem_nil', go_sem, Φa, hP, h8_5, h8_1, h8_2] at hT9
          obtain ⟨h9_1, h9_2, h9_5⟩ := hT9
          clear h8_5 h8_1 h8_2 T8
          refine SX.join (fun (ss : Unit) T L' => T 5 = .int .u8 (v4 x next) ∧ L' = some (b0, .cells x.cells.toArray 46 (0, 0)) :: L ∧ (True)) (fun K12 hK12 => ?_) ?_
          · refine SX.seq_k fun K13 hK13 => ?_
            refine SX.region_xd [some 24, some 25, some 26, some 27, some 28, some 29, some 30, some 31, some 32] rfl (fun ops hops => ?_)
            unfold Dsts at hops
            refine RX.live [1, 2, 5] (fun T10 hT10 => ?_)
            simp only [forall_mem_cons', forall_mem_nil', go_sem, Φa, hP, h9_1, h9_2, h9_5] at hT10
            obtain ⟨h10_1, h10_2, h10_5⟩ := hT10
            clear h9_1 h9_2 h9_5 T9
            refine RX.join 9 (fun (ss : Unit) T L' => T 32 = .bool (farB x next) ∧ T 5 = T10 5 ∧ L' = some (b0, .cells x.cells.toArray 46 (0, 0)) :: L ∧ (True)) (fun K14 hK14 => ?_) ?_
            · simp only [h10_5] at hK14
              simp (maxSteps:=1000000)(dsimp:=false)(disch:=omega) only [go_sem, Φa, hP, h10_1, h10_2, h10_5, hops]
              repeat' (first | refine iteB (fun hg => ?_) (fun hg => ?_) | refine iteI (fun hg => ?_) (fun hg => ?_) | ((first | refine ⟨_, Cell.at 0 rfl (show (Rc.cells _)[1]? = _ from rfl), ?_⟩ | refine ⟨_, Cell.at 0 rfl (show (Rc.cells _)[5]? = _ from rfl), ?_⟩ | refine And.intro (by omega) ?_ | refine ⟨_, Cell.at 0 rfl rfl, ?_⟩ | fail); try (with_reducible refine stI ?_); try simp (maxSteps:=1000000)(dsimp:=false)(disch:=omega) only [go_sem, Φa, hP, h10_1, h10_2, h10_5, hops]) | fail)
              all_goals
                refine hK14 () _ (some (b0, .cells x.cells.toArray 46 (0, 0)) :: L) _ (by first | exact Less.refl _ | exact Less.drop _ _ | exact Less.drops (Less.drop _ _) | exact Less.drops (Less.drops (Less.drop _ _)) | exact Less.drops (Less.drops (Less.drops (Less.drop _ _))) | exact Less.drops (Less.drops (Less.drops (Less.drops (Less.drop _ _))))) ?_
                try dsimp only
                refine ⟨?_, ?_, ?_, ?_⟩
                · simp (maxSteps:=1000000)(dsimp:=false)(disch:=omega) only [go_sem, Φa, hP, h10_1, h10_2, h10_5]
                  first | done | (refine congrArg Value.bool ?_; simp_all [farB]; done)
                · simp (maxSteps:=1000000)(dsimp:=false)(disch:=omega) only [go_sem, Φa, hP, h10_1, h10_2, h10_5]
                · rfl
                · trivial
            · intro ss T11 L11 hI
              simp only [h10_5] at hI 
              obtain ⟨h11_32, h11_5, hL11, hinv⟩ := hI
              replace hL11 := hL11.symm
              subst hL11
              clear h10_1 h10_2 h10_5 T10
              refine RX.done ?_
              simp (maxSteps:=1000000)(dsimp:=false)(disch:=omega) only [go_sem, Φa, hP, h11_32, h11_5, hops]
              refine hK13 _ _ ?_
              try clear hK13 K13
              refine SX.cond_k fun X15 Y15 hX15 hY15 => ?_
              simp (maxSteps:=1000000)(dsimp:=false)(disch:=omega) only [go_sem, Φa, hP, h11_32, h11_5, condVC]
              refine ⟨fun hc32 => hX15 ?_, fun hc32 => hY15 ?_⟩
              · clear hX15 hY15 X15 Y15
                refine SX.region_d [some 33, some 34, some 5] rfl (fun ops hops => ?_)
                unfold Dsts at hops
                simp (maxSteps:=1000000)(dsimp:=false)(disch:=omega) only [go_sem, Φa, hP, h11_32, h11_5, hops]
                repeat' ((first | refine And.intro (by omega) ?_ | fail); try (with_reducible refine stI ?_); try simp (maxSteps:=1000000)(dsimp:=false)(disch:=omega) only [go_sem, Φa, hP, h11_32, h11_5, hops])
                refine hK12 () _ (some (b0, .cells x.cells.toArray 46 (0, 0)) :: L) _ (by first | exact Less.refl _ | exact Less.drop _ _ | exact Less.drops (Less.drop _ _) | exact Less.drops (Less.drops (Less.drop _ _)) | exact Less.drops (Less.drops (Less.drops (Less.drop _ _))) | exact Less.drops (Less.drops (Less.drops (Less.drops (Less.drop _ _))))) ?_
                try dsimp only
                refine ⟨?_, ?_, ?_⟩
                · simp (maxSteps:=1000000)(dsimp:=false)(disch:=omega) only [go_sem, Φa, hP, h11_32, h11_5]
                  unfold v4; rw [if_pos (by simpa using hc32)]
                · rfl
                · trivial
              · clear hX15 hY15 X15 Y15
                refine SX.skip ?_
                try simp only [andThen_normal, andThen_ret, andThen_exit, inBlk_normal, inBlk_ret, inBlk_exit, Nat.reduceEqDiff, if_true, if_false, ↓reduceIte]
                refine hK12 () _ (some (b0, .cells x.cells.toArray 46 (0, 0)) :: L) _ (by first | exact Less.refl _ | exact Less.drop _ _ | exact Less.drops (Less.drop _ _) | exact Less.drops (Less.drops (Less.drop _ _)) | exact Less.drops (Less.drops (Less.drops (Less.drop _ _))) | exact Less.drops (Less.drops (Less.drops (Less.drops (Less.drop _ _))))) ?_
                try dsimp only
                refine ⟨?_, ?_, ?_⟩
                · simp (maxSteps:=1000000)(dsimp:=false)(disch:=omega) only [go_sem, Φa, hP, h11_32, h11_5]
                  unfold v4; rw [if_neg (by simpa using hc32)]
                · rfl
                · trivial
          · intro ss T12 L12 hI
            obtain ⟨h12_5, hL12, hinv⟩ := hI
            replace hL12 := hL12.symm
            subst hL12
            clear h9_1 h9_2 h9_5 T9
            refine SX.seq_k fun K16 hK16 => ?_
            refine SX.region_d [some 35, some 4] rfl (fun ops hops => ?_)
            unfold Dsts at hops
            simp (maxSteps:=1000000)(dsimp:=false)(disch:=omega) only [go_sem, Φa, hP, h12_5, hops]
            refine hK16 _ _ ?_
            try clear hK16 K16
            refine SX.ret ?_
            simp only [andThen_normal, andThen_ret, andThen_exit, inBlk_normal, inBlk_ret, inBlk_exit, Nat.reduceEqDiff, if_true, if_false, ↓reduceIte, retQ_ret]
            try simp only [res0, res1, res2, res3, stK_e, go_sem, Φa, hP, h12_5]
            exact ⟨_, _, Less.drop _ _, rfl, rfl, rfl⟩

theorem u8w (z : Int) : IntKind.u8.wrap z = z % 256 := by
  unfold IntKind.wrap
  rfl
theorem tmod256 (n : Nat) : ((n : Nat) : Int).tmod 256 = ((n % 256 : Nat) : Int) := rfl
theorem tdiv256 (n : Nat) : ((n : Nat) : Int).tdiv 256 = ((n / 256 : Nat) : Int) := rfl
theorem tdiv65536 (n : Nat) : ((n : Nat) : Int).tdiv 65536 = ((n / 65536 : Nat) : Int) := rfl
theorem tdiv16M (n : Nat) : ((n : Nat) : Int).tdiv 16777216 = ((n / 16777216 : Nat) : Int) := rfl
theorem fdivN (n : Nat) : Int.fdiv (n : Int) (2 ^ min 8 64) = ((n / 256 : Nat) : Int) ∧ Int.fdiv (n : Int) (2 ^ min 16 64) = ((n / 65536 : Nat) : Int) ∧ Int.fdiv (n : Int) (2 ^ min 24 64) = ((n / 16777216 : Nat) : Int) :=
  ⟨Int.fdiv_eq_ediv_of_nonneg _ (by decide), Int.fdiv_eq_ediv_of_nonneg _ (by decide), Int.fdiv_eq_ediv_of_nonneg _ (by decide)⟩
def frontD (n : Nat) : List Int := [86, 84, 82, 49, ((n % 256 : Nat) : Int), ((n / 256 % 256 : Nat) : Int), ((n / 65536 % 256 : Nat) : Int), ((n / 16777216 : Nat) : Int)]
theorem frontL_eq {n : Nat} (h : n ≤ 4194304) : frontL n = frontD n := by
  obtain ⟨h1, h2, h3⟩ := fdivN n
  unfold frontL frontD
  rw [h1, h2, h3, u8w, u8w, u8w, u8w]
  show [86, 84, 82, 49, _, _, _, _] = _
  have e1 : (n : Int) % 256 = ((n % 256 : Nat) : Int) := by omega
  have e2 : ((n / 256 : Nat) : Int) % 256 = ((n / 256 % 256 : Nat) : Int) := by omega
  have e3 : ((n / 65536 : Nat) : Int) % 256 = ((n / 65536 % 256 : Nat) : Int) := by omega
  have e4 : ((n / 16777216 : Nat) : Int) % 256 = ((n / 16777216 : Nat) : Int) := by omega
  rw [e1, e2, e3, e4]
def tailD (x : Rc) (next : Int) : List Int := if 128 ≤ v4 x next then [x.port, x.ad % 256, x.ad / 256] else []
theorem front_eq {x : Rc} {next : Int} (ho : OkR x) (hm : mayB x = true) : frontI x next = [v4 x next] ++ tailD x next := by
  obtain ⟨h1, h2, h3, h4⟩ := hd_eq ho hm
  have ha := ho.ad
  unfold frontI tailD v4
  by_cases h : farB x next = true
  · rw [if_pos h, if_pos h, if_pos (by omega), h2, u8w, u8w, show Int.fdiv x.ad (2 ^ min 8 16) = x.ad / 256 from Int.fdiv_eq_ediv_of_nonneg _ (by decide), show x.ad / 256 % 256 = x.ad / 256 by omega]
    rfl
  · rw [if_neg h, if_neg h, if_neg (by omega), h1]
    rfl
set_option maxHeartbeats 1000000 in
set_option maxRecDepth 100000 in
theorem refPack_spec {Γ : Ctx} (hP : Γ.P = Tryd.prog) {L : Hp} {v : Value} {l : List Rc} (hl : SlC (Cell Γ L) v l) (ho : ∀ r ∈ l, OkR r) :
    SCall Γ 16 #[v] L (PackR l L) := by
  obtain ⟨A, c, rfl, hc⟩ := Sl.shape hl
  obtain ⟨a1, e1, _, hA⟩ := Sl.at1 hl
  refine SCall.enter (n := 74) (res2 2 3) (hP ▸ Tryd.func16) rfl rfl (by simp) (res2_ok rfl) ?_
  refine SX.seq_k fun K1 hK1 => ?_
  refine SX.region_d [some 2, some 3] rfl (fun ops hops => ?_)
  unfold Dsts at hops
  simp (maxSteps:=1000000)(dsimp:=false)(disch:=omega) only [go_sem, Φa, hP, hops]
  refine hK1 _ _ ?_
  try clear hK1 K1
  refine SX.seq_k fun K2 hK2 => ?_
  refine SX.region_d [some 11, some 12, some 4] rfl (fun ops hops => ?_)
  unfold Dsts at hops
  simp (maxSteps:=1000000)(dsimp:=false)(disch:=omega) only [go_sem, Φa, hP, hops]
  refine SCall.mono (refCheck_spec hP hl) ?_
  rintro v_ L_ ⟨hv_, hL_⟩
  rw [hv_, hL_]
  clear hv_ hL_ v_ L_
  try with_reducible refine stI ?_
  try simp (maxSteps:=1000000)(dsimp:=false)(disch:=omega) only [go_sem, Φa, hP, hops]
  refine hK2 _ _ ?_
  try clear hK2 K2
  refine SX.seq_k fun K3 hK3 => ?_
  refine SX.seq_k fun K4 hK4 => ?_
  refine SX.region_d [some 13, some 14] rfl (fun ops hops => ?_)
  unfold Dsts at hops
  simp (maxSteps:=1000000)(dsimp:=false)(disch:=omega) only [go_sem, Φa, hP, hops]
  repeat' ((first | refine And.intro (by omega) ?_ | fail); try (with_reducible refine stI ?_); try simp (maxSteps:=1000000)(dsimp:=false)(disch:=omega) only [go_sem, Φa, hP, hops])
  refine hK4 _ _ ?_
  try clear hK4 K4
  refine SX.cond_k fun X5 Y5 hX5 hY5 => ?_
  simp (maxSteps:=1000000)(dsimp:=false)(disch:=omega) only [go_sem, Φa, hP, condVC]
  refine ⟨fun hc14 => hX5 ?_, fun hc14 => hY5 ?_⟩
  · clear hX5 hY5 X5 Y5
    refine SX.seq_k fun K6 hK6 => ?_
    refine SX.region_d [some 15, some 2, some 3] rfl (fun ops hops => ?_)
    unfold Dsts at hops
    simp (maxSteps:=1000000)(dsimp:=false)(disch:=omega) only [go_sem, Φa, hP, hops]
    refine hK6 _ _ ?_
    try clear hK6 K6
    refine SX.ret ?_
    simp only [andThen_normal, andThen_ret, andThen_exit, inBlk_normal, inBlk_ret, inBlk_exit, Nat.reduceEqDiff, if_true, if_false, ↓reduceIte, retQ_ret]
    try simp only [res0, res1, res2, res3, stK_e, go_sem, Φa, hP]
    have hp : packP l = ([], chkL l) := if_neg (by simpa using hc14)
    exact ⟨_, _, Less.none _, rfl, .slice none 0 0, none, by rw [hp], rfl, by rw [hp]; exact Row.nil _ _⟩
  · clear hX5 hY5 X5 Y5
    refine SX.skip ?_
    try simp only [andThen_normal, andThen_ret, andThen_exit, inBlk_normal, inBlk_ret, inBlk_exit, Nat.reduceEqDiff, if_true, if_false, ↓reduceIte]
    refine hK3 _ _ ?_
    try clear hK3 K3
    refine SX.seq_k fun K7 hK7 => ?_
    refine SX.region_d [some 16, some 17, some 5] rfl (fun ops hops => ?_)
    unfold Dsts at hops
    simp (maxSteps:=1000000)(dsimp:=false)(disch:=omega) only [go_sem, Φa, hP, hops]
    repeat' ((first | refine And.intro (by omega) ?_ | fail); try (with_reducible refine stI ?_); try simp (maxSteps:=1000000)(dsimp:=false)(disch:=omega) only [go_sem, Φa, hP, hops])
    refine hK7 _ _ ?_
    try clear hK7 K7
    refine SX.live [0, 5] (fun T1 hT1 => ?_)
    simp only [forall_mem_cons', forall_mem_nil', go_sem, Φa, hP] at hT1
    obtain ⟨h1_0, h1_5⟩ := hT1
    refine SX.seq_k fun K8 hK8 => ?_
    have hc0 : chkL l = 0 := by simpa using hc14
    obtain ⟨hll, hlm⟩ := chkL_zero hc0
    refine SX.region_d [some 18, some 19, some 20, some 21, some 22, some 23, some 24, some 25, some 26, some 27, some 28, some 29, some 30, some 31, some 32, some 6] rfl (fun ops hops => ?_)
    unfold Dsts at hops
    simp (maxSteps:=1000000)(dsimp:=false)(disch:=omega) only [go_sem, Φa, hP, h1_0, h1_5, hops, tmod256, tdiv256, tdiv65536, tdiv16M]
    intro g32
    try with_reducible refine stI ?_
    try simp (maxSteps:=1000000)(dsimp:=false)(disch:=omega) only [go_sem, Φa, hP, h1_0, h1_5, hops, tmod256, tdiv256, tdiv65536, tdiv16M]
    refine hK8 _ _ ?_
    try clear hK8 K8
    refine SX.live [0, 6] (fun T2 hT2 => ?_)
    simp only [forall_mem_cons', forall_mem_nil', go_sem, Φa, hP, h1_0, h1_5] at hT2
    obtain ⟨h2_0, h2_6⟩ := hT2
    clear h1_0 h1_5 T1
    refine SX.seq_k fun K9 hK9 => ?_
    refine SX.region_d [some 7] rfl (fun ops hops => ?_)
    unfold Dsts at hops
    simp (maxSteps:=1000000)(dsimp:=false)(disch:=omega) only [go_sem, Φa, hP, h2_0, h2_6, hops]
    refine hK9 _ _ ?_
    try clear hK9 K9
    refine SX.seq_k fun K10 hK10 => ?_
    refine SX.seq_k fun K11 hK11 => ?_
    refine SX.region_d [some 8] rfl (fun ops hops => ?_)
    unfold Dsts at hops
    simp (maxSteps:=1000000)(dsimp:=false)(disch:=omega) only [go_sem, Φa, hP, h2_0, h2_6, hops]
    refine hK11 _ _ ?_
    try clear hK11 K11
    refine SX.block ?_
    refine SX.live [0, 6, 7, 8] (fun T3 hT3 => ?_)
    simp only [forall_mem_cons', forall_mem_nil', go_sem, Φa, hP, h2_0, h2_6] at hT3
    obtain ⟨h3_0, h3_6, h3_7, h3_8⟩ := hT3
    clear h2_0 h2_6 T2
    refine SX.loop_k (fun (ss : (Nat) × (Value) × (Slot)) T L' => (fun (k : Nat) (vo : Value) (so : Slot) => T 6 = vo ∧ T 7 = .int .u16 (nxtI (l.take k) 0) ∧ T 8 = .int .i64 (k : Int) ∧ T 0 = T3 0 ∧ L' = so :: L ∧ (k ≤ l.length ∧ RowI .u8 5 vo (frontD l.length ++ recsI (l.take k) 0) so)) (ss.1) (ss.2.1) (ss.2.2)) (fun (ss : (Nat) × (Value) × (Slot)) => (fun (k : Nat) (vo : Value) (so : Slot) => l.length - k) (ss.1) (ss.2.1) (ss.2.2)) (0, .slice (some ⟨g32, 0, none⟩) 8 8, some (g32, .cells (ints .u8 (frontD l.length)).toArray 5 (0, 0))) ?_ ?_
    · try dsimp only
      refine ⟨?_, ?_, ?_, ?_, ?_, ?_⟩
      · first | exact h3_6 | (rw [h3_6]; rfl) | (rw [h3_6]; simp; done)
      · first | exact h3_7 | (rw [h3_7]; rfl) | (rw [h3_7]; simp; done)
      · first | exact h3_8 | (rw [h3_8]; rfl) | (rw [h3_8]; simp; done)
      · rfl
      · rfl
      · exact ⟨Nat.zero_le _, by rw [List.take_zero]; show RowI _ _ _ (frontD l.length ++ []) _; rw [List.append_nil]; exact Row.lit rfl (by decide)⟩
    · intro ss T4 L4 hI K12 hK12
      obtain ⟨k, vo, so⟩ := ss
      try dsimp only at hI hK12
      simp only [h3_0] at hI hK12
      obtain ⟨h4_6, h4_7, h4_8, h4_0, hL4, ⟨hk, hrow⟩⟩ := hI
      replace hL4 := hL4.symm
      subst hL4
      clear h3_0 h3_6 h3_7 h3_8 T3
      refine SX.seq_k fun K13 hK13 => ?_
      refine SX.seq_k fun K14 hK14 => ?_
      refine SX.region_d [some 33, some 34, some 35, some 36] rfl (fun ops hops => ?_)
      unfold Dsts at hops
      simp (maxSteps:=1000000)(dsimp:=false)(disch:=omega) only [go_sem, Φa, hP, h4_6, h4_7, h4_8, h4_0, hops]
      repeat' ((first | refine And.intro (by omega) ?_ | fail); try (with_reducible refine stI ?_); try simp (maxSteps:=1000000)(dsimp:=false)(disch:=omega) only [go_sem, Φa, hP, h4_6, h4_7, h4_8, h4_0, hops])
      refine hK14 _ _ ?_
      try clear hK14 K14
      refine SX.cond_k fun X15 Y15 hX15 hY15 => ?_
      simp (maxSteps:=1000000)(dsimp:=false)(disch:=omega) only [go_sem, Φa, hP, h4_6, h4_7, h4_8, h4_0, condVC]
      refine ⟨fun hc36 => hX15 ?_, fun hc36 => hY15 ?_⟩
      · clear hX15 hY15 X15 Y15
        refine SX.skip ?_
        try simp only [andThen_normal, andThen_ret, andThen_exit, inBlk_normal, inBlk_ret, inBlk_exit, Nat.reduceEqDiff, if_true, if_false, ↓reduceIte]
        refine hK13 _ _ ?_
        try clear hK13 K13
        refine SX.seq_k fun K16 hK16 => ?_
        refine SX.block ?_
        refine SX.seq_k fun K17 hK17 => ?_
        have hkl : k < l.length := by omega
        have hck := hA k _ (getD_get (d := default) hkl)
        have hok := ho _ (getD_mem hkl)
        have hmk := hlm k hkl
        have hpl : (recsI (l.take k) 0).length ≤ 5 * l.length := by
          have h1 := recsI_len (l.take k) 0
          have h2 : (l.take k).length ≤ l.length := by rw [List.length_take]; exact Nat.min_le_right _ _
          omega
        have hfr : (frontD l.length).length = 8 := rfl
        have hbl : (frontD l.length ++ recsI (l.take k) 0).length ≤ 100000000 := by rw [List.length_append]; omega
        obtain ⟨oA, oC, rfl, _, _⟩ := Row.form hrow
        refine SX.region_d [some 39, some 40, some 41, some 42, some 9, none] rfl (fun ops hops => ?_)
        unfold Dsts at hops
        simp (maxSteps:=1000000)(dsimp:=false)(disch:=omega) only [go_sem, Φa, hP, h4_6, h4_7, h4_8, h4_0, hops, ia_at e1]
        refine ⟨_, Cell.cons _ (hck 0 _ rfl), _, Cell.cons _ (hck 1 _ rfl), _, Cell.cons _ (hck 2 _ rfl), _, Cell.cons _ (hck 3 _ rfl), _, Cell.cons _ (hck 4 _ rfl), _, Cell.cons _ (hck 5 _ rfl), _, Cell.cons _ (hck 6 _ rfl), _, Cell.cons _ (hck 7 _ rfl), ?_⟩
        try with_reducible refine stI ?_
        try simp (maxSteps:=1000000)(dsimp:=false)(disch:=omega) only [go_sem, Φa, hP, h4_6, h4_7, h4_8, h4_0, hops, ia_at e1]
        intro b9
        try with_reducible refine stI ?_
        try simp (maxSteps:=1000000)(dsimp:=false)(disch:=omega) only [go_sem, Φa, hP, h4_6, h4_7, h4_8, h4_0, hops, ia_at e1]
        refine ⟨0, _, _, _, rfl, (by show 8 ≤ 8; decide), .inr (by decide), ?_⟩
        try with_reducible refine stI ?_
        try simp (maxSteps:=1000000)(dsimp:=false)(disch:=omega) only [go_sem, Φa, hP, h4_6, h4_7, h4_8, h4_0, hops, ia_at e1]
        refine hK17 _ _ ?_
        try clear hK17 K17
        refine SX.live [0, 6, 7, 8, 9] (fun T5 hT5 => ?_)
        simp only [forall_mem_cons', forall_mem_nil', go_sem, Φa, hP, h4_6, h4_7, h4_8, h4_0] at hT5
        obtain ⟨h5_0, h5_6, h5_7, h5_8, h5_9⟩ := hT5
        clear h4_6 h4_7 h4_8 h4_0 T4
        refine SX.seq_k fun K18 hK18 => ?_
        refine SX.region_d [some 43, some 44, some 45, some 10] rfl (fun ops hops => ?_)
        unfold Dsts at hops
        simp (maxSteps:=1000000)(dsimp:=false)(disch:=omega) only [go_sem, Φa, hP, h5_0, h5_6, h5_7, h5_8, h5_9, hops]
        rw [show (#[Value.int .u8 (l.getD k default).code, .int .u16 (l.getD k default).ad, .int .u8 (l.getD k default).data, .bool (l.getD k default).rd, .bool (l.getD k default).wr, .int .u8 (l.getD k default).port, .bool (l.getD k default).q, .int .u8 (l.getD k default).md] : Array Value) = (l.getD k default).cells.toArray from rfl]
        refine ⟨_, Cell.at 0 rfl (show (Rc.cells _)[0]? = _ from rfl), _, Cell.at 0 rfl (show (Rc.cells _)[1]? = _ from rfl), _, Cell.at 0 rfl (show (Rc.cells _)[2]? = _ from rfl), _, Cell.at 0 rfl (show (Rc.cells _)[3]? = _ from rfl), _, Cell.at 0 rfl (show (Rc.cells _)[4]? = _ from rfl), _, Cell.at 0 rfl (show (Rc.cells _)[5]? = _ from rfl), _, Cell.at 0 rfl (show (Rc.cells _)[6]? = _ from rfl), _, Cell.at 0 rfl (show (Rc.cells _)[7]? = _ from rfl), ?_⟩
        try with_reducible refine stI ?_
        try simp (maxSteps:=1000000)(dsimp:=false)(disch:=omega) only [go_sem, Φa, hP, h5_0, h5_6, h5_7, h5_8, h5_9, hops]
        refine SCall.mono (refHead_spec hP hok hmk) ?_
        rintro v_ L_ ⟨hv_, hL_⟩
        rw [hv_, hL_]
        clear hv_ hL_ v_ L_
        try with_reducible refine stI ?_
        try simp (maxSteps:=1000000)(dsimp:=false)(disch:=omega) only [go_sem, Φa, hP, h5_0, h5_6, h5_7, h5_8, h5_9, hops]
        refine hK18 _ _ ?_
        try clear hK18 K18
        refine SX.seq_k fun K19 hK19 => ?_
        refine SX.region_d [some 46, some 47, some 48, some 49, some 6] rfl (fun ops hops => ?_)
        unfold Dsts at hops
        simp (maxSteps:=1000000)(dsimp:=false)(disch:=omega) only [go_sem, Φa, hP, h5_0, h5_6, h5_7, h5_8, h5_9, hops]
        intro g48
        try with_reducible refine stI ?_
        try simp (maxSteps:=1000000)(dsimp:=false)(disch:=omega) only [go_sem, Φa, hP, h5_0, h5_6, h5_7, h5_8, h5_9, hops]
        refine YAppend.int1 (i := 1) (hP ▸ T.elS_30) (hP ▸ T.zr_5) rfl rfl hrow (by omega) (by decide) ?_
        intro v1' s1 hrow1
        obtain ⟨xA, xC, rfl, _, _⟩ := Row.form hrow1
        try with_reducible refine stI ?_
        try simp (maxSteps:=1000000)(dsimp:=false)(disch:=omega) only [go_sem, Φa, hP, h5_0, h5_6, h5_7, h5_8, h5_9, hops]
        refine hK19 _ _ ?_
        try clear hK19 K19
        refine SX.live [0, 6, 8, 9, 10] (fun T6 hT6 => ?_)
        simp only [forall_mem_cons', forall_mem_nil', go_sem, Φa, hP, h5_0, h5_6, h5_7, h5_8, h5_9] at hT6
        obtain ⟨h6_0, h6_6, h6_8, h6_9, h6_10⟩ := hT6
        clear h5_0 h5_6 h5_7 h5_8 h5_9 T5
        refine SX.live [0, 6, 8, 9, 10] (fun T7 hT7 => ?_)
        simp only [forall_mem_cons', forall_mem_nil', go_sem, Φa, hP, h6_0, h6_6, h6_8, h6_9, h6_10] at hT7
        obtain ⟨h7_0, h7_6, h7_8, h7_9, h7_10⟩ := hT7
        clear h6_0 h6_6 h6_8 h6_9 h6_10 T6
        refine SX.join (fun (ss : (Value) × (Slot)) T L' => (fun (w2 : Value) (q2 : Slot) => T 6 = w2 ∧ T 0 = T7 0 ∧ T 8 = T7 8 ∧ T 9 = T7 9 ∧ L' = some (b9, .cells (l.getD k default).cells.toArray 46 (0, 0)) :: q2 :: L ∧ (RowI .u8 5 w2 ((frontD l.length ++ recsI (l.take k) 0) ++ [v4 (l.getD k default) (nxtI (l.take k) 0)] ++ tailD (l.getD k default) (nxtI (l.take k) 0)) q2)) (ss.1) (ss.2)) (fun K20 hK20 => ?_) ?_
        · simp only [h7_0, h7_8, h7_9] at hK20
          refine SX.seq_k fun K21 hK21 => ?_
          refine SX.region_d [some 50, some 51] rfl (fun ops hops => ?_)
          unfold Dsts at hops
          simp (maxSteps:=1000000)(dsimp:=false)(disch:=omega) only [go_sem, Φa, hP, h7_0, h7_6, h7_8, h7_9, h7_10, hops]
          repeat' ((first | refine And.intro (by omega) ?_ | fail); try (with_reducible refine stI ?_); try simp (maxSteps:=1000000)(dsimp:=false)(disch:=omega) only [go_sem, Φa, hP, h7_0, h7_6, h7_8, h7_9, h7_10, hops])
          refine hK21 _ _ ?_
          try clear hK21 K21
          refine SX.cond_k fun X22 Y22 hX22 hY22 => ?_
          simp (maxSteps:=1000000)(dsimp:=false)(disch:=omega) only [go_sem, Φa, hP, h7_0, h7_6, h7_8, h7_9, h7_10, condVC]
          refine ⟨fun hc51 => hX22 ?_, fun hc51 => hY22 ?_⟩
          · clear hX22 hY22 X22 Y22
            have hra := hok.ad
            have ha1 : (l.getD k default).ad.tmod 256 = (l.getD k default).ad % 256 := Int.tmod_eq_emod_of_nonneg hra.1
            have ha2 : (l.getD k default).ad.tdiv 256 = (l.getD k default).ad / 256 := Int.tdiv_eq_ediv_of_nonneg hra.1
            refine SX.region_d [some 52, some 53, some 54, some 55, some 56, some 57, some 58, some 59, some 60, some 61, some 62, some 63, some 64, some 6] rfl (fun ops hops => ?_)
            unfold Dsts at hops
            simp (maxSteps:=1000000)(dsimp:=false)(disch:=omega) only [go_sem, Φa, hP, h7_0, h7_6, h7_8, h7_9, h7_10, hops, ha1, ha2]
            refine ⟨_, Cell.at 1 rfl (show (Rc.cells _)[5]? = _ from rfl), ?_⟩
            try with_reducible refine stI ?_
            try simp (maxSteps:=1000000)(dsimp:=false)(disch:=omega) only [go_sem, Φa, hP, h7_0, h7_6, h7_8, h7_9, h7_10, hops, ha1, ha2]
            refine ⟨_, Cell.at 1 rfl (show (Rc.cells _)[1]? = _ from rfl), ?_⟩
            try with_reducible refine stI ?_
            try simp (maxSteps:=1000000)(dsimp:=false)(disch:=omega) only [go_sem, Φa, hP, h7_0, h7_6, h7_8, h7_9, h7_10, hops, ha1, ha2]
            refine ⟨_, Cell.at 1 rfl (show (Rc.cells _)[1]? = _ from rfl), ?_⟩
            try with_reducible refine stI ?_
            try simp (maxSteps:=1000000)(dsimp:=false)(disch:=omega) only [go_sem, Φa, hP, h7_0, h7_6, h7_8, h7_9, h7_10, hops, ha1, ha2]
            intro g63
            try with_reducible refine stI ?_
            try simp (maxSteps:=1000000)(dsimp:=false)(disch:=omega) only [go_sem, Φa, hP, h7_0, h7_6, h7_8, h7_9, h7_10, hops, ha1, ha2]
            refine YAppend.ints (i := 3) (m := [(l.getD k default).port, (l.getD k default).ad % 256, (l.getD k default).ad / 256]) (hP ▸ T.elS_30) (hP ▸ T.zr_5) rfl rfl hrow1 (SlI.own 0 rfl rfl (Nat.le_refl _)) (by simp only [List.length_append, List.length_cons, List.length_nil] at hbl ⊢; omega) (by decide) ?_
            intro v2' s2 hrow2
            obtain ⟨yA, yC, rfl, _, _⟩ := Row.form hrow2
            try with_reducible refine stI ?_
            try simp (maxSteps:=1000000)(dsimp:=false)(disch:=omega) only [go_sem, Φa, hP, h7_0, h7_6, h7_8, h7_9, h7_10, hops, ha1, ha2]
            refine hK20 (.slice yA ((frontD l.length ++ recsI (l.take k) 0) ++ [v4 (l.getD k default) (nxtI (l.take k) 0)] ++ [(l.getD k default).port, (l.getD k default).ad % 256, (l.getD k default).ad / 256]).length yC, s2) _ (some (b9, .cells (l.getD k default).cells.toArray 46 (0, 0)) :: s2 :: L) _ (by exact Less.drops (Less.drop _ _)) ?_
            try dsimp only
            refine ⟨?_, ?_, ?_, ?_, ?_, ?_⟩
            · simp (maxSteps:=1000000)(dsimp:=false)(disch:=omega) only [go_sem, Φa, hP, h7_0, h7_6, h7_8, h7_9, h7_10]
              first | done | rfl | skip
            · simp (maxSteps:=1000000)(dsimp:=false)(disch:=omega) only [go_sem, Φa, hP, h7_0, h7_6, h7_8, h7_9, h7_10]
            · simp (maxSteps:=1000000)(dsimp:=false)(disch:=omega) only [go_sem, Φa, hP, h7_0, h7_6, h7_8, h7_9, h7_10]
            · simp (maxSteps:=1000000)(dsimp:=false)(disch:=omega) only [go_sem, Φa, hP, h7_0, h7_6, h7_8, h7_9, h7_10]
            · rfl
            · unfold tailD; rw [if_pos (by simpa using hc51)]; exact hrow2
          · clear hX22 hY22 X22 Y22
            refine SX.skip ?_
            try simp only [andThen_normal, andThen_ret, andThen_exit, inBlk_normal, inBlk_ret, inBlk_exit, Nat.reduceEqDiff, if_true, if_false, ↓reduceIte]
            refine hK20 (.slice xA ((frontD l.length ++ recsI (l.take k) 0) ++ [v4 (l.getD k default) (nxtI (l.take k) 0)]).length xC, s1) _ (some (b9, .cells (l.getD k default).cells.toArray 46 (0, 0)) :: s1 :: L) _ (by exact Less.drop _ _) ?_
            try dsimp only
            refine ⟨?_, ?_, ?_, ?_, ?_, ?_⟩
            · simp (maxSteps:=1000000)(dsimp:=false)(disch:=omega) only [go_sem, Φa, hP, h7_0, h7_6, h7_8, h7_9, h7_10]
              first | done | rfl | skip
            · simp (maxSteps:=1000000)(dsimp:=false)(disch:=omega) only [go_sem, Φa, hP, h7_0, h7_6, h7_8, h7_9, h7_10]
            · simp (maxSteps:=1000000)(dsimp:=false)(disch:=omega) only [go_sem, Φa, hP, h7_0, h7_6, h7_8, h7_9, h7_10]
            · simp (maxSteps:=1000000)(dsimp:=false)(disch:=omega) only [go_sem, Φa, hP, h7_0, h7_6, h7_8, h7_9, h7_10]
            · rfl
            · unfold tailD; rw [if_neg (by simpa using hc51), List.append_nil]; exact hrow1
        · intro ss T8 L8 hI
          obtain ⟨w2, q2⟩ := ss
          try dsimp only at hI 
          simp only [h7_0, h7_8, h7_9] at hI 
          obtain ⟨h8_6, h8_0, h8_8, h8_9, hL8, hr2⟩ := hI
          replace hL8 := hL8.symm
          subst hL8
          clear h7_0 h7_6 h7_8 h7_9 h7_10 T7
          refine SX.seq_k fun K23 hK23 => ?_
          obtain ⟨yA, yC, rfl, _, _⟩ := Row.form hr2
          have htl : (tailD (l.getD k default) (nxtI (l.take k) 0)).length ≤ 3 := by unfold tailD; split <;> simp
          refine SX.region_d [some 65, some 66, some 67, some 68, some 69, some 6] rfl (fun ops hops => ?_)
          unfold Dsts at hops
          simp (maxSteps:=1000000)(dsimp:=false)(disch:=omega) only [go_sem, Φa, hP, h8_6, h8_0, h8_8, h8_9, hops]
          refine ⟨_, Cell.at 0 rfl (show (Rc.cells _)[2]? = _ from rfl), ?_⟩
          try with_reducible refine stI ?_
          try simp (maxSteps:=1000000)(dsimp:=false)(disch:=omega) only [go_sem, Φa, hP, h8_6, h8_0, h8_8, h8_9, hops]
          intro g68
          try with_reducible refine stI ?_
          try simp (maxSteps:=1000000)(dsimp:=false)(disch:=omega) only [go_sem, Φa, hP, h8_6, h8_0, h8_8, h8_9, hops]
          refine YAppend.int1 (i := 1) (hP ▸ T.elS_30) (hP ▸ T.zr_5) rfl rfl hr2 (by simp only [List.length_append, List.length_cons, List.length_nil] at hbl htl ⊢; omega) (by decide) ?_
          intro v3' s3 hrow3
          obtain ⟨zA, zC, rfl, _, _⟩ := Row.form hrow3
          try with_reducible refine stI ?_
          try simp (maxSteps:=1000000)(dsimp:=false)(disch:=omega) only [go_sem, Φa, hP, h8_6, h8_0, h8_8, h8_9, hops]
          refine hK23 _ _ ?_
          try clear hK23 K23
          refine SX.region_d [some 70, some 71, some 72, some 7] rfl (fun ops hops => ?_)
          unfold Dsts at hops
          simp (maxSteps:=1000000)(dsimp:=false)(disch:=omega) only [go_sem, Φa, hP, h8_6, h8_0, h8_8, h8_9, hops]
          refine ⟨_, Cell.at 1 rfl (show (Rc.cells _)[1]? = _ from rfl), ?_⟩
          try with_reducible refine stI ?_
          try simp (maxSteps:=1000000)(dsimp:=false)(disch:=omega) only [go_sem, Φa, hP, h8_6, h8_0, h8_8, h8_9, hops]
          refine hK16 _ _ ?_
          try clear hK16 K16
          refine SX.live [0, 6, 7, 8] (fun T9 hT9 => ?_)
          simp only [forall_mem_cons', forall_mem_nil', go_sem, Φa, hP, h8_6, h8_0, h8_8, h8_9] at hT9
          obtain ⟨h9_0, h9_6, h9_7, h9_8⟩ := hT9
          clear h8_6 h8_0 h8_8 h8_9 T8
          refine SX.region_d [some 37, some 38, some 8] rfl (fun ops hops => ?_)
          unfold Dsts at hops
          simp (maxSteps:=1000000)(dsimp:=false)(disch:=omega) only [go_sem, Φa, hP, h9_0, h9_6, h9_7, h9_8, hops]
          repeat' ((first | refine And.intro (by omega) ?_ | fail); try (with_reducible refine stI ?_); try simp (maxSteps:=1000000)(dsimp:=false)(disch:=omega) only [go_sem, Φa, hP, h9_0, h9_6, h9_7, h9_8, hops])
          refine hK12 (k + 1, .slice zA ((frontD l.length ++ recsI (l.take k) 0) ++ [v4 (l.getD k default) (nxtI (l.take k) 0)] ++ tailD (l.getD k default) (nxtI (l.take k) 0) ++ [(l.getD k default).data]).length zC, s3) _ (s3 :: L) _ (by first | exact Less.refl _ | exact Less.drop _ _ | exact Less.drops (Less.drop _ _) | exact Less.drops (Less.drops (Less.drop _ _)) | exact Less.drops (Less.drops (Less.drops (Less.drop _ _))) | exact Less.drops (Less.drops (Less.drops (Less.drops (Less.drop _ _))))) ?_ ?_
          · try dsimp only
            refine ⟨?_, ?_, ?_, ?_, ?_, ?_⟩
            · simp (maxSteps:=1000000)(dsimp:=false)(disch:=omega) only [go_sem, Φa, hP, h9_0, h9_6, h9_7, h9_8]
              first | done | rfl | skip
            · simp (maxSteps:=1000000)(dsimp:=false)(disch:=omega) only [go_sem, Φa, hP, h9_0, h9_6, h9_7, h9_8]
              rw [nxtI_take hkl]
            · simp (maxSteps:=1000000)(dsimp:=false)(disch:=omega) only [go_sem, Φa, hP, h9_0, h9_6, h9_7, h9_8]
              first | done | rfl | skip
            · simp (maxSteps:=1000000)(dsimp:=false)(disch:=omega) only [go_sem, Φa, hP, h9_0, h9_6, h9_7, h9_8]
            · rfl
            · exact ⟨by omega, by rw [recsI_take hkl, packI, front_eq hok hmk]; simpa only [List.append_assoc] using hrow3⟩
          · (try dsimp only); omega
      · clear hX15 hY15 X15 Y15
        refine SX.exit ?_
        try simp only [andThen_normal, andThen_ret, andThen_exit, inBlk_normal, inBlk_ret, inBlk_exit, Nat.reduceEqDiff, if_true, if_false, ↓reduceIte]
        refine hK10 _ _ ?_
        try clear hK10 K10
        refine SX.seq_k fun K24 hK24 => ?_
        obtain rfl : k = l.length := by omega
        rw [List.take_length, ← frontL_eq hll] at hrow
        refine SX.region_d [some 73, some 2, some 3] rfl (fun ops hops => ?_)
        unfold Dsts at hops
        simp (maxSteps:=1000000)(dsimp:=false)(disch:=omega) only [go_sem, Φa, hP, h4_6, h4_7, h4_8, h4_0, hops]
        refine hK24 _ _ ?_
        try clear hK24 K24
        refine SX.ret ?_
        simp only [andThen_normal, andThen_ret, andThen_exit, inBlk_normal, inBlk_ret, inBlk_exit, Nat.reduceEqDiff, if_true, if_false, ↓reduceIte, retQ_ret]
        try simp only [res0, res1, res2, res3, stK_e, go_sem, Φa, hP, h4_6, h4_7, h4_8, h4_0]
        have hp : packP l = (frontL l.length ++ recsI l 0, 0) := if_pos hc0
        exact ⟨_, _, Less.refl _, rfl, vo, so, by rw [hp], rfl, by rw [hp]; exact hrow⟩

end Go.Proofs.YtcenlgofldnfcaaDoor
set_option linter.unusedVariables false
set_option linter.unusedSimpArgs false
namespace Go.Proofs.YtcenlgofldnfcaaDoor
open Go.RowKit Go.SX Go.Proofs
open Go.SX renaming ia_someH → Φa

theorem recsI_byte : ∀ (l : List Rc) (n : Int), (∀ r ∈ l, OkR r) → (∀ r ∈ l, mayB r = true) → Byte (recsI l n)
  | [], n, _, _ => fun x hx => by cases hx
  | r :: l, n, ho, hm => by
    have h1 := ho r (List.mem_cons_self ..)
    have h2 := hm r (List.mem_cons_self ..)
    obtain ⟨e1, e2, e3, e4⟩ := hd_eq h1 h2
    have h3 := h1.ad
    have h4 := h1.data
    have h5 := h1.port
    rw [recsI, packI, front_eq h1 h2]
    refine Byte.app (Byte.app (Byte.app (fun x hx => ?_) (fun x hx => ?_)) (fun x hx => ?_)) (recsI_byte l _ (fun r hr => ho r (List.mem_cons_of_mem _ hr)) (fun r hr => hm r (List.mem_cons_of_mem _ hr)))
    · rw [List.mem_singleton.1 hx]
      unfold v4
      split <;> omega
    · unfold tailD at hx
      split at hx
      · simp only [List.mem_cons, List.not_mem_nil, or_false] at hx
        omega
      · cases hx
    · rw [List.mem_singleton.1 hx]; exact h4
theorem packP_byte {l : List Rc} (ho : ∀ r ∈ l, OkR r) : Byte (packP l).1 := by
  unfold packP
  split
  · rename_i h
    obtain ⟨h1, h2⟩ := chkL_zero h
    rw [frontL_eq h1]
    refine Byte.app (fun x hx => ?_) (recsI_byte l 0 ho (fun r hr => by
      obtain ⟨j, hj⟩ := List.mem_iff_getElem?.1 hr
      have hjl := (List.getElem?_eq_some_iff.1 hj).1
      have := h2 j hjl
      rw [List.getD_eq_getElem?_getD, hj] at this
      exact this))
    simp only [frontD, List.mem_cons, List.not_mem_nil, or_false] at hx
    omega
  · intro x hx; cases hx
theorem packP_len (l : List Rc) : (packP l).1.length ≤ 20971528 := by
  unfold packP
  split
  · rename_i h
    obtain ⟨h1, h2⟩ := chkL_zero h
    have h3 := recsI_len l 0
    have h4 : (frontL l.length).length = 8 := rfl
    rw [List.length_append]
    omega
  · exact Nat.zero_le _
theorem rowI_form {k : IntKind} {e : TypeId} {v : Value} {l : List Int} {s : Slot} (h : RowI k e v l s) (hl : 0 < l.length) : ∃ g cap junk, v = .slice (some ⟨g, 0, none⟩) l.length cap ∧ s = some (g, .cells (ints k l ++ junk).toArray e (0, 0)) ∧ (l.length ≤ cap ∧ cap ≤ 9223372036854775807) ∧ (ints k l ++ junk).length = cap * 1 := by
  obtain ⟨_, ⟨_, h0, _⟩ | ⟨g, cap, junk, h1, h2, h3, h4⟩⟩ := h
  · omega
  · exact ⟨g, cap, junk, h1, h2, h3, h4⟩
theorem rowI_mk {k : IntKind} {e : TypeId} {l : List Int} {g cap : Nat} {junk : List Value} (hc : l.length ≤ cap ∧ cap ≤ 9223372036854775807) (hl : (ints k l ++ junk).length = cap * 1) : RowI k e (.slice (some ⟨g, 0, none⟩) l.length cap) l (some (g, .cells (ints k l ++ junk).toArray e (0, 0))) :=
  ⟨by rw [ints_length, Nat.mul_one], .inr ⟨g, cap, junk, rfl, rfl, hc, hl⟩⟩
theorem perm4 {a b c d : Slot} {L : Hp} : Less (a :: b :: c :: d :: L) L := Less.drops (Less.drops (Less.drops (Less.drop _ _)))
set_option maxHeartbeats 1000000 in
set_option maxRecDepth 100000 in
theorem TracePacks_spec {Γ : Ctx} (hP : Γ.P = Tryd.prog) {L : Hp} (hM : MD Γ) {v : Value} {l : List Rc} (hl : SlC (Cell Γ []) v l) (ho : ∀ r ∈ l, OkR r) :
    SCall Γ 5 #[v] L (fun v L' => v = .bool true ∧ L' = L) := by
  obtain ⟨A, c, rfl, hc⟩ := Sl.shape hl
  refine SCall.enter (n := 88) (res1 2) (hP ▸ Tryd.func5) rfl rfl (by simp) (res1_ok rfl) ?_
  refine SX.seq_k fun K1 hK1 => ?_
  refine SX.region_d [some 2] rfl (fun ops hops => ?_)
  unfold Dsts at hops
  simp (maxSteps:=1000000)(dsimp:=false)(disch:=omega) only [go_sem, Φa, hP, hops]
  refine hK1 _ _ ?_
  try clear hK1 K1
  refine SX.seq_k fun K2 hK2 => ?_
  refine SX.seq_k fun K3 hK3 => ?_
  refine SX.region_d [some 13, some 14, some 15] rfl (fun ops hops => ?_)
  unfold Dsts at hops
  simp (maxSteps:=1000000)(dsimp:=false)(disch:=omega) only [go_sem, Φa, hP, hops]
  repeat' ((first | refine And.intro (by omega) ?_ | fail); try (with_reducible refine stI ?_); try simp (maxSteps:=1000000)(dsimp:=false)(disch:=omega) only [go_sem, Φa, hP, hops])
  refine hK3 _ _ ?_
  try clear hK3 K3
  refine SX.cond_k fun X4 Y4 hX4 hY4 => ?_
  simp (maxSteps:=1000000)(dsimp:=false)(disch:=omega) only [go_sem, Φa, hP, condVC]
  refine ⟨fun hc15 => hX4 ?_, fun hc15 => hY4 ?_⟩
  · clear hX4 hY4 X4 Y4
    refine SX.seq_k fun K5 hK5 => ?_
    refine SX.region_d [some 2] rfl (fun ops hops => ?_)
    unfold Dsts at hops
    simp (maxSteps:=1000000)(dsimp:=false)(disch:=omega) only [go_sem, Φa, hP, hops]
    refine hK5 _ _ ?_
    try clear hK5 K5
    refine SX.ret ?_
    simp only [andThen_normal, andThen_ret, andThen_exit, inBlk_normal, inBlk_ret, inBlk_exit, Nat.reduceEqDiff, if_true, if_false, ↓reduceIte, retQ_ret]
    try simp only [res0, res1, res2, res3, stK_e, go_sem, Φa, hP]
    exact ⟨_, _, Less.refl _, rfl, rfl, rfl⟩
  · clear hX4 hY4 X4 Y4
    refine SX.skip ?_
    try simp only [andThen_normal, andThen_ret, andThen_exit, inBlk_normal, inBlk_ret, inBlk_exit, Nat.reduceEqDiff, if_true, if_false, ↓reduceIte]
    refine hK2 _ _ ?_
    try clear hK2 K2
    refine SX.seq_k fun K6 hK6 => ?_
    have hll : l.length ≤ 2147483647 := by omega
    have hpb := packP_byte ho
    have hpl := packP_len l
    refine SX.region_d [some 16, some 17, some 3] rfl (fun ops hops => ?_)
    unfold Dsts at hops
    simp (maxSteps:=1000000)(dsimp:=false)(disch:=omega) only [go_sem, Φa, hP, hops]
    refine SCall.mono (lent_spec hP hl hll) ?_
    rintro v_ L_ ⟨gx, rfl, rfl⟩
    try with_reducible refine stI ?_
    try simp (maxSteps:=1000000)(dsimp:=false)(disch:=omega) only [go_sem, Φa, hP, hops]
    refine hK6 _ _ ?_
    try clear hK6 K6
    refine SX.seq_k fun K7 hK7 => ?_
    refine SX.region_d [some 19, some 20, some 18, some 21, some 22, some 4, some 5] rfl (fun ops hops => ?_)
    unfold Dsts at hops
    simp (maxSteps:=1000000)(dsimp:=false)(disch:=omega) only [go_sem, Φa, hP, hops]
    refine SCall.mono (Pack_spec hP (mark_sl (gx := gx) (List.mem_cons_self ..) hll)) ?_
    rintro v_ L_ ⟨va, sa, rfl, rfl, hra⟩
    try with_reducible refine stI ?_
    try simp (maxSteps:=1000000)(dsimp:=false)(disch:=omega) only [go_sem, Φa, hP, hops]
    refine hK7 _ _ ?_
    try clear hK7 K7
    refine SX.live [0, 3, 4, 5] (fun T1 hT1 => ?_)
    simp only [forall_mem_cons', forall_mem_nil', go_sem, Φa, hP] at hT1
    obtain ⟨h1_0, h1_3, h1_4, h1_5⟩ := hT1
    refine SX.seq_k fun K8 hK8 => ?_
    refine SX.seq_k fun K9 hK9 => ?_
    refine SX.region_d [some 23, some 24, some 25, some 26] rfl (fun ops hops => ?_)
    unfold Dsts at hops
    simp (maxSteps:=1000000)(dsimp:=false)(disch:=omega) only [go_sem, Φa, hP, h1_0, h1_3, h1_4, h1_5, hops]
    refine SCall.mono (SCall.pre (Less.perm (List.Perm.swap _ _ _)) (back_spec (L := sa :: L) hP hl ho hll)) ?_
    rintro v_ L_ ⟨rfl, s', rfl⟩
    try with_reducible refine stI ?_
    try simp (maxSteps:=1000000)(dsimp:=false)(disch:=omega) only [go_sem, Φa, hP, h1_0, h1_3, h1_4, h1_5, hops]
    refine hK9 _ _ ?_
    try clear hK9 K9
    refine SX.cond_k fun X10 Y10 hX10 hY10 => ?_
    simp (maxSteps:=1000000)(dsimp:=false)(disch:=omega) only [go_sem, Φa, hP, h1_0, h1_3, h1_4, h1_5, condVC]
    refine hY10 ?_
    clear hX10 hY10 X10 Y10
    refine SX.skip ?_
    try simp only [andThen_normal, andThen_ret, andThen_exit, inBlk_normal, inBlk_ret, inBlk_exit, Nat.reduceEqDiff, if_true, if_false, ↓reduceIte]
    refine hK8 _ _ ?_
    try clear hK8 K8
    refine SX.seq_k fun K11 hK11 => ?_
    refine SX.region_d [some 28, some 29, some 27, some 30, some 31, some 6, some 7] rfl (fun ops hops => ?_)
    unfold Dsts at hops
    simp (maxSteps:=1000000)(dsimp:=false)(disch:=omega) only [go_sem, Φa, hP, h1_0, h1_3, h1_4, h1_5, hops]
    refine SCall.mono (Pack_spec hP (SlC.mono (fun a v h => Cell.any h) hl)) ?_
    rintro v_ L_ ⟨vb, sb, rfl, rfl, hrb⟩
    try with_reducible refine stI ?_
    try simp (maxSteps:=1000000)(dsimp:=false)(disch:=omega) only [go_sem, Φa, hP, h1_0, h1_3, h1_4, h1_5, hops]
    refine hK11 _ _ ?_
    try clear hK11 K11
    refine SX.live [0, 4, 5, 6, 7] (fun T2 hT2 => ?_)
    simp only [forall_mem_cons', forall_mem_nil', go_sem, Φa, hP, h1_0, h1_3, h1_4, h1_5] at hT2
    obtain ⟨h2_0, h2_4, h2_5, h2_6, h2_7⟩ := hT2
    clear h1_0 h1_3 h1_4 h1_5 T1
    refine SX.seq_k fun K12 hK12 => ?_
    refine SX.region_d [some 33, some 34, some 32, some 35, some 36, some 8, some 9] rfl (fun ops hops => ?_)
    unfold Dsts at hops
    simp (maxSteps:=1000000)(dsimp:=false)(disch:=omega) only [go_sem, Φa, hP, h2_0, h2_4, h2_5, h2_6, h2_7, hops]
    refine SCall.mono (refPack_spec hP (SlC.mono (fun a v h => Cell.any h) hl) ho) ?_
    rintro v_ L_ ⟨vu, su, rfl, rfl, hru⟩
    try with_reducible refine stI ?_
    try simp (maxSteps:=1000000)(dsimp:=false)(disch:=omega) only [go_sem, Φa, hP, h2_0, h2_4, h2_5, h2_6, h2_7, hops]
    refine hK12 _ _ ?_
    try clear hK12 K12
    refine SX.seq_k fun K13 hK13 => ?_
    refine SX.seq_k fun K14 hK14 => ?_
    obtain ⟨aA, aC, rfl, _, _⟩ := Row.form hra
    obtain ⟨bA, bC, rfl, _, _⟩ := Row.form hrb
    obtain ⟨uA, uC, rfl, _, _⟩ := Row.form hru
    have sla : SlI .u8 (Cell Γ (su :: sb :: s' :: sa :: L)) (.slice aA (packP l).1.length aC) (packP l).1 := RowI.sl (i := 3) hra rfl
    have slb : SlI .u8 (Cell Γ (su :: sb :: s' :: sa :: L)) (.slice bA (packP l).1.length bC) (packP l).1 := RowI.sl (i := 1) hrb rfl
    have slu : SlI .u8 (Cell Γ (su :: sb :: s' :: sa :: L)) (.slice uA (packP l).1.length uC) (packP l).1 := RowI.sl (i := 0) hru rfl
    refine SX.region_d [some 37, some 38, some 39, some 40, some 41, some 42, some 43, some 44, some 45, some 46, some 47, some 48, some 49, some 50, some 51, some 52, some 53, some 54, some 55, some 56] rfl (fun ops hops => ?_)
    unfold Dsts at hops
    simp (maxSteps:=1000000)(dsimp:=false)(disch:=omega) only [go_sem, Φa, hP, h2_0, h2_4, h2_5, h2_6, h2_7, hops]
    (refine SCall.mono (sameBytes_spec hP sla slu hpb hpb) ?_; rintro v_ L_ ⟨hv_, hL_⟩; rw [hv_, hL_]; clear hv_ hL_ v_ L_)
    try with_reducible refine stI ?_
    try simp (maxSteps:=1000000)(dsimp:=false)(disch:=omega) only [go_sem, Φa, hP, h2_0, h2_4, h2_5, h2_6, h2_7, hops]
    (refine SCall.mono (sameBytes_spec hP slb slu hpb hpb) ?_; rintro v_ L_ ⟨hv_, hL_⟩; rw [hv_, hL_]; clear hv_ hL_ v_ L_)
    try with_reducible refine stI ?_
    try simp (maxSteps:=1000000)(dsimp:=false)(disch:=omega) only [go_sem, Φa, hP, h2_0, h2_4, h2_5, h2_6, h2_7, hops]
    refine hK14 _ _ ?_
    try clear hK14 K14
    refine SX.live [4, 6, 8, 56] (fun T3 hT3 => ?_)
    simp only [forall_mem_cons', forall_mem_nil', go_sem, Φa, hP, h2_0, h2_4, h2_5, h2_6, h2_7] at hT3
    obtain ⟨h3_4, h3_6, h3_8, h3_56⟩ := hT3
    clear h2_0 h2_4 h2_5 h2_6 h2_7 T2
    refine SX.cond_k fun X15 Y15 hX15 hY15 => ?_
    simp (maxSteps:=1000000)(dsimp:=false)(disch:=omega) only [go_sem, Φa, hP, h3_4, h3_6, h3_8, h3_56, condVC]
    refine hY15 ?_
    clear hX15 hY15 X15 Y15
    refine SX.skip ?_
    try simp only [andThen_normal, andThen_ret, andThen_exit, inBlk_normal, inBlk_ret, inBlk_exit, Nat.reduceEqDiff, if_true, if_false, ↓reduceIte]
    refine hK13 _ _ ?_
    try clear hK13 K13
    refine SX.seq_k fun K16 hK16 => ?_
    refine SX.seq_k fun K17 hK17 => ?_
    refine SX.region_d [some 10] rfl (fun ops hops => ?_)
    unfold Dsts at hops
    simp (maxSteps:=1000000)(dsimp:=false)(disch:=omega) only [go_sem, Φa, hP, h3_4, h3_6, h3_8, h3_56, hops]
    refine hK17 _ _ ?_
    try clear hK17 K17
    refine SX.block ?_
    refine SX.live [4, 6, 8, 10] (fun T4 hT4 => ?_)
    simp only [forall_mem_cons', forall_mem_nil', go_sem, Φa, hP, h3_4, h3_6, h3_8, h3_56] at hT4
    obtain ⟨h4_4, h4_6, h4_8, h4_10⟩ := hT4
    clear h3_4 h3_6 h3_8 h3_56 T3
    refine SX.loop_k (fun (ss : (Nat) × (List Int) × (Slot)) T L' => (fun (i : Nat) (xs : List Int) (sq : Slot) => T 10 = .int .i64 (i : Int) ∧ T 4 = T4 4 ∧ T 6 = T4 6 ∧ T 8 = T4 8 ∧ L' = su :: sb :: s' :: sq :: L ∧ (i ≤ xs.length ∧ xs.length = (packP l).1.length ∧ RowI .u8 5 (.slice aA (packP l).1.length aC) xs sq)) (ss.1) (ss.2.1) (ss.2.2)) (fun (ss : (Nat) × (List Int) × (Slot)) => (fun (i : Nat) (xs : List Int) (sq : Slot) => xs.length - i) (ss.1) (ss.2.1) (ss.2.2)) (0, (packP l).1, sa) ?_ ?_
    · try dsimp only
      refine ⟨?_, ?_, ?_, ?_, ?_, ?_⟩
      · first | exact h4_10 | (rw [h4_10]; rfl) | (rw [h4_10]; simp; done)
      · rfl
      · rfl
      · rfl
      · rfl
      · exact ⟨Nat.zero_le _, rfl, hra⟩
    · intro ss T5 L5 hI K18 hK18
      obtain ⟨i, xs, sq⟩ := ss
      try dsimp only at hI hK18
      simp only [h4_4, h4_6, h4_8] at hI hK18
      obtain ⟨h5_10, h5_4, h5_6, h5_8, hL5, ⟨hi, hxl, hrq⟩⟩ := hI
      replace hL5 := hL5.symm
      subst hL5
      clear h4_4 h4_6 h4_8 h4_10 T4
      refine SX.seq_k fun K19 hK19 => ?_
      refine SX.seq_k fun K20 hK20 => ?_
      refine SX.region_d [some 57, some 58, some 59, some 60] rfl (fun ops hops => ?_)
      unfold Dsts at hops
      simp (maxSteps:=1000000)(dsimp:=false)(disch:=omega) only [go_sem, Φa, hP, h5_10, h5_4, h5_6, h5_8, hops]
      repeat' ((first | refine And.intro (by omega) ?_ | fail); try (with_reducible refine stI ?_); try simp (maxSteps:=1000000)(dsimp:=false)(disch:=omega) only [go_sem, Φa, hP, h5_10, h5_4, h5_6, h5_8, hops])
      refine hK20 _ _ ?_
      try clear hK20 K20
      refine SX.cond_k fun X21 Y21 hX21 hY21 => ?_
      simp (maxSteps:=1000000)(dsimp:=false)(disch:=omega) only [go_sem, Φa, hP, h5_10, h5_4, h5_6, h5_8, condVC]
      refine ⟨fun hc60 => hX21 ?_, fun hc60 => hY21 ?_⟩
      · clear hX21 hY21 X21 Y21
        refine SX.skip ?_
        try simp only [andThen_normal, andThen_ret, andThen_exit, inBlk_normal, inBlk_ret, inBlk_exit, Nat.reduceEqDiff, if_true, if_false, ↓reduceIte]
        refine hK19 _ _ ?_
        try clear hK19 K19
        refine SX.seq_k fun K22 hK22 => ?_
        refine SX.block ?_
        have hil : i < xs.length := by omega
        obtain ⟨g, cap, junk, hv, rfl, hcc, hcl⟩ := rowI_form hrq (by omega)
        injection hv with ev1 ev2 ev3
        subst ev1 ev3
        refine SX.region_d [some 63, some 64, some 65, none] rfl (fun ops hops => ?_)
        unfold Dsts at hops
        simp (maxSteps:=1000000)(dsimp:=false)(disch:=omega) only [go_sem, Φa, hP, h5_10, h5_4, h5_6, h5_8, hops]
        refine ⟨3, _, _, _, rfl, (by rw [List.length_append, ints_length]; show i + 1 ≤ _; omega), .inr (Nat.zero_le _), ?_⟩
        try with_reducible refine stI ?_
        try simp (maxSteps:=1000000)(dsimp:=false)(disch:=omega) only [go_sem, Φa, hP, h5_10, h5_4, h5_6, h5_8, hops]
        rw [ints_app_set hil]
        refine hK22 _ _ ?_
        try clear hK22 K22
        refine SX.region_d [some 61, some 62, some 10] rfl (fun ops hops => ?_)
        unfold Dsts at hops
        simp (maxSteps:=1000000)(dsimp:=false)(disch:=omega) only [go_sem, Φa, hP, h5_10, h5_4, h5_6, h5_8, hops]
        repeat' ((first | refine And.intro (by omega) ?_ | fail); try (with_reducible refine stI ?_); try simp (maxSteps:=1000000)(dsimp:=false)(disch:=omega) only [go_sem, Φa, hP, h5_10, h5_4, h5_6, h5_8, hops])
        refine hK18 (i + 1, xs.set i 7, some (g, .cells (ints .u8 (xs.set i 7) ++ junk).toArray 5 (0, 0))) _ (su :: sb :: s' :: (some (g, .cells (ints .u8 (xs.set i 7) ++ junk).toArray 5 (0, 0))) :: L) _ (by first | exact Less.refl _ | exact Less.drop _ _ | exact Less.drops (Less.drop _ _) | exact Less.drops (Less.drops (Less.drop _ _)) | exact Less.drops (Less.drops (Less.drops (Less.drop _ _))) | exact Less.drops (Less.drops (Less.drops (Less.drops (Less.drop _ _))))) ?_ ?_
        · try dsimp only
          refine ⟨?_, ?_, ?_, ?_, ?_, ?_⟩
          · simp (maxSteps:=1000000)(dsimp:=false)(disch:=omega) only [go_sem, Φa, hP, h5_10, h5_4, h5_6, h5_8]
            first | done | rfl | skip
          · simp (maxSteps:=1000000)(dsimp:=false)(disch:=omega) only [go_sem, Φa, hP, h5_10, h5_4, h5_6, h5_8]
          · simp (maxSteps:=1000000)(dsimp:=false)(disch:=omega) only [go_sem, Φa, hP, h5_10, h5_4, h5_6, h5_8]
          · simp (maxSteps:=1000000)(dsimp:=false)(disch:=omega) only [go_sem, Φa, hP, h5_10, h5_4, h5_6, h5_8]
          · rfl
          · refine ⟨by rw [List.length_set]; omega, by rw [List.length_set]; exact hxl, ?_⟩
            have hmk := rowI_mk (k := .u8) (e := 5) (l := xs.set i 7) (g := g) (cap := aC) (junk := junk) (by rw [List.length_set]; exact hcc) (by rw [List.length_append, ints_length, List.length_set, ← hcl, List.length_append, ints_length])
            rw [List.length_set, hxl] at hmk
            exact hmk
        · (try dsimp only); rw [List.length_set]; omega
      · clear hX21 hY21 X21 Y21
        refine SX.exit ?_
        try simp only [andThen_normal, andThen_ret, andThen_exit, inBlk_normal, inBlk_ret, inBlk_exit, Nat.reduceEqDiff, if_true, if_false, ↓reduceIte]
        refine hK16 _ _ ?_
        try clear hK16 K16
        refine SX.seq_k fun K23 hK23 => ?_
        refine SX.region_d [some 66, some 11] rfl (fun ops hops => ?_)
        unfold Dsts at hops
        simp (maxSteps:=1000000)(dsimp:=false)(disch:=omega) only [go_sem, Φa, hP, h5_10, h5_4, h5_6, h5_8, hops]
        refine hK23 _ _ ?_
        try clear hK23 K23
        refine SX.seq_k fun K24 hK24 => ?_
        refine SX.seq_k fun K25 hK25 => ?_
        refine SX.region_d [some 12] rfl (fun ops hops => ?_)
        unfold Dsts at hops
        simp (maxSteps:=1000000)(dsimp:=false)(disch:=omega) only [go_sem, Φa, hP, h5_10, h5_4, h5_6, h5_8, hops]
        refine hK25 _ _ ?_
        try clear hK25 K25
        refine SX.block ?_
        refine SX.live [6, 8, 11, 12] (fun T6 hT6 => ?_)
        simp only [forall_mem_cons', forall_mem_nil', go_sem, Φa, hP, h5_10, h5_4, h5_6, h5_8] at hT6
        obtain ⟨h6_6, h6_8, h6_11, h6_12⟩ := hT6
        clear h5_10 h5_4 h5_6 h5_8 T5
        refine SX.loop_k (fun (ss : (Nat) × (Value) × (Slot) × (List Int)) T L' => (fun (j : Nat) (vc : Value) (sc : Slot) (ys : List Int) => T 11 = vc ∧ T 12 = .int .i64 (j : Int) ∧ T 6 = T6 6 ∧ T 8 = T6 8 ∧ L' = su :: sb :: s' :: sc :: L ∧ (j ≤ 70 ∧ ys.length = (packP l).1.length + j ∧ RowI .u8 5 vc ys sc)) (ss.1) (ss.2.1) (ss.2.2.1) (ss.2.2.2)) (fun (ss : (Nat) × (Value) × (Slot) × (List Int)) => (fun (j : Nat) (vc : Value) (sc : Slot) (ys : List Int) => 70 - j) (ss.1) (ss.2.1) (ss.2.2.1) (ss.2.2.2)) (0, .slice aA (packP l).1.length aC, sq, xs) ?_ ?_
        · try dsimp only
          refine ⟨?_, ?_, ?_, ?_, ?_, ?_⟩
          · first | exact h6_11 | (rw [h6_11]; rfl) | (rw [h6_11]; simp; done)
          · first | exact h6_12 | (rw [h6_12]; rfl) | (rw [h6_12]; simp; done)
          · rfl
          · rfl
          · rfl
          · exact ⟨Nat.zero_le _, hxl, hrq⟩
        · intro ss T7 L7 hI K26 hK26
          obtain ⟨j, vc, sc, ys⟩ := ss
          try dsimp only at hI hK26
          simp only [h6_6, h6_8] at hI hK26
          obtain ⟨h7_11, h7_12, h7_6, h7_8, hL7, ⟨hj, hyl, hrc⟩⟩ := hI
          replace hL7 := hL7.symm
          subst hL7
          clear h6_6 h6_8 h6_11 h6_12 T6
          refine SX.seq_k fun K27 hK27 => ?_
          refine SX.seq_k fun K28 hK28 => ?_
          refine SX.region_d [some 67, some 68] rfl (fun ops hops => ?_)
          unfold Dsts at hops
          simp (maxSteps:=1000000)(dsimp:=false)(disch:=omega) only [go_sem, Φa, hP, h7_11, h7_12, h7_6, h7_8, hops]
          repeat' ((first | refine And.intro (by omega) ?_ | fail); try (with_reducible refine stI ?_); try simp (maxSteps:=1000000)(dsimp:=false)(disch:=omega) only [go_sem, Φa, hP, h7_11, h7_12, h7_6, h7_8, hops])
          refine hK28 _ _ ?_
          try clear hK28 K28
          refine SX.cond_k fun X29 Y29 hX29 hY29 => ?_
          simp (maxSteps:=1000000)(dsimp:=false)(disch:=omega) only [go_sem, Φa, hP, h7_11, h7_12, h7_6, h7_8, condVC]
          refine ⟨fun hc68 => hX29 ?_, fun hc68 => hY29 ?_⟩
          · clear hX29 hY29 X29 Y29
            refine SX.skip ?_
            try simp only [andThen_normal, andThen_ret, andThen_exit, inBlk_normal, inBlk_ret, inBlk_exit, Nat.reduceEqDiff, if_true, if_false, ↓reduceIte]
            refine hK27 _ _ ?_
            try clear hK27 K27
            refine SX.seq_k fun K30 hK30 => ?_
            refine SX.block ?_
            obtain ⟨cA, cC, rfl, _, _⟩ := Row.form hrc
            refine SX.region_d [some 71, some 72, some 73, some 11] rfl (fun ops hops => ?_)
            unfold Dsts at hops
            simp (maxSteps:=1000000)(dsimp:=false)(disch:=omega) only [go_sem, Φa, hP, h7_11, h7_12, h7_6, h7_8, hops]
            intro g72
            try with_reducible refine stI ?_
            try simp (maxSteps:=1000000)(dsimp:=false)(disch:=omega) only [go_sem, Φa, hP, h7_11, h7_12, h7_6, h7_8, hops]
            refine YAppend.int1 (i := 3) (hP ▸ T.elS_30) (hP ▸ T.zr_5) rfl rfl hrc (by omega) (by decide) ?_
            intro v2 s2 hrc2
            obtain ⟨nA, nC, rfl, _, _⟩ := Row.form hrc2
            try with_reducible refine stI ?_
            try simp (maxSteps:=1000000)(dsimp:=false)(disch:=omega) only [go_sem, Φa, hP, h7_11, h7_12, h7_6, h7_8, hops]
            refine hK30 _ _ ?_
            try clear hK30 K30
            refine SX.region_d [some 69, some 70, some 12] rfl (fun ops hops => ?_)
            unfold Dsts at hops
            simp (maxSteps:=1000000)(dsimp:=false)(disch:=omega) only [go_sem, Φa, hP, h7_11, h7_12, h7_6, h7_8, hops]
            repeat' ((first | refine And.intro (by omega) ?_ | fail); try (with_reducible refine stI ?_); try simp (maxSteps:=1000000)(dsimp:=false)(disch:=omega) only [go_sem, Φa, hP, h7_11, h7_12, h7_6, h7_8, hops])
            refine hK26 (j + 1, .slice nA (ys ++ [8]).length nC, s2, ys ++ [8]) _ (su :: sb :: s' :: s2 :: L) _ (by first | exact Less.refl _ | exact Less.drop _ _ | exact Less.drops (Less.drop _ _) | exact Less.drops (Less.drops (Less.drop _ _)) | exact Less.drops (Less.drops (Less.drops (Less.drop _ _))) | exact Less.drops (Less.drops (Less.drops (Less.drops (Less.drop _ _))))) ?_ ?_
            · try dsimp only
              refine ⟨?_, ?_, ?_, ?_, ?_, ?_⟩
              · simp (maxSteps:=1000000)(dsimp:=false)(disch:=omega) only [go_sem, Φa, hP, h7_11, h7_12, h7_6, h7_8]
                first | done | rfl | skip
              · simp (maxSteps:=1000000)(dsimp:=false)(disch:=omega) only [go_sem, Φa, hP, h7_11, h7_12, h7_6, h7_8]
                first | done | rfl | skip
              · simp (maxSteps:=1000000)(dsimp:=false)(disch:=omega) only [go_sem, Φa, hP, h7_11, h7_12, h7_6, h7_8]
              · simp (maxSteps:=1000000)(dsimp:=false)(disch:=omega) only [go_sem, Φa, hP, h7_11, h7_12, h7_6, h7_8]
              · rfl
              · exact ⟨by omega, by rw [List.length_append, hyl]; rfl, hrc2⟩
            · (try dsimp only); omega
          · clear hX29 hY29 X29 Y29
            refine SX.exit ?_
            try simp only [andThen_normal, andThen_ret, andThen_exit, inBlk_normal, inBlk_ret, inBlk_exit, Nat.reduceEqDiff, if_true, if_false, ↓reduceIte]
            refine hK24 _ _ ?_
            try clear hK24 K24
            refine SX.seq_k fun K31 hK31 => ?_
            obtain rfl : j = 70 := by omega
            obtain ⟨cA, cC, rfl, _, _⟩ := Row.form hrc
            have slb2 : SlI .u8 (Cell Γ (su :: sb :: s' :: sc :: L)) (.slice bA (packP l).1.length bC) (packP l).1 := RowI.sl (i := 1) hrb rfl
            have slu2 : SlI .u8 (Cell Γ (su :: sb :: s' :: sc :: L)) (.slice uA (packP l).1.length uC) (packP l).1 := RowI.sl (i := 0) hru rfl
            refine SX.region_d [some 74, some 75, some 76, some 77, some 78, some 79, some 80, some 81, some 82, some 83, some 84, some 85, some 86, some 87, some 2] rfl (fun ops hops => ?_)
            unfold Dsts at hops
            simp (maxSteps:=1000000)(dsimp:=false)(disch:=omega) only [go_sem, Φa, hP, h7_11, h7_12, h7_6, h7_8, hops, hyl]
            (refine SCall.mono (sameBytes_spec hP slb2 slu2 hpb hpb) ?_; rintro v_ L_ ⟨hv_, hL_⟩; rw [hv_, hL_]; clear hv_ hL_ v_ L_)
            try with_reducible refine stI ?_
            try simp (maxSteps:=1000000)(dsimp:=false)(disch:=omega) only [go_sem, Φa, hP, h7_11, h7_12, h7_6, h7_8, hops, hyl]
            (refine SCall.mono (awake_spec hP hM) ?_; rintro v_ L_ ⟨hv_, hL_⟩; rw [hv_, hL_]; clear hv_ hL_ v_ L_)
            try with_reducible refine stI ?_
            try simp (maxSteps:=1000000)(dsimp:=false)(disch:=omega) only [go_sem, Φa, hP, h7_11, h7_12, h7_6, h7_8, hops, hyl]
            refine hK31 _ _ ?_
            try clear hK31 K31
            refine SX.ret ?_
            simp only [andThen_normal, andThen_ret, andThen_exit, inBlk_normal, inBlk_ret, inBlk_exit, Nat.reduceEqDiff, if_true, if_false, ↓reduceIte, retQ_ret]
            try simp only [res0, res1, res2, res3, stK_e, go_sem, Φa, hP, h7_11, h7_12, h7_6, h7_8]
            exact ⟨_, _, perm4, rfl, rfl, rfl⟩

end Go.Proofs.YtcenlgofldnfcaaDoor
set_option linter.unusedVariables false
set_option linter.unusedSimpArgs false
namespace Go.Proofs.YtcenlgofldnfcaaDoor
open Go.RowKit Go.SX Go.Proofs
open Go.SX renaming ia_someH → Φa

/-! The document's reader. -/
theorem byte_all : ∀ h : Fin 256, cdB (h.1 : Int) = (h.1 : Int) % 4 ∧ rdB (h.1 : Int) = decide ((h.1 : Int) / 4 % 2 = 1) ∧ wrB (h.1 : Int) = decide ((h.1 : Int) / 8 % 2 = 1) ∧ qB (h.1 : Int) = decide ((h.1 : Int) / 16 % 2 = 1) ∧ mdB (h.1 : Int) = (h.1 : Int) / 32 % 4 ∧ moreB (h.1 : Int) = decide (128 ≤ (h.1 : Int)) := by decide +kernel
theorem byte_dec {h : Int} (hb : 0 ≤ h ∧ h ≤ 255) : cdB h = h % 4 ∧ rdB h = decide (h / 4 % 2 = 1) ∧ wrB h = decide (h / 8 % 2 = 1) ∧ qB h = decide (h / 16 % 2 = 1) ∧ mdB h = h / 32 % 4 ∧ moreB h = decide (128 ≤ h) := by
  have := byte_all ⟨h.toNat, by omega⟩
  rw [show ((h.toNat : Nat) : Int) = h by omega] at this
  exact this
theorem adB_eq {lo hi : Int} (hl : 0 ≤ lo ∧ lo ≤ 255) (hh : 0 ≤ hi ∧ hi ≤ 255) : adB lo hi = lo + 256 * hi := by
  unfold adB
  rw [show (2 : Int) ^ min 8 16 = 256 from rfl, u16_wrap_id lo hl.1 (by omega), u16_wrap_id hi hh.1 (by omega), u16_wrap_id (hi * 256) (by omega) (by omega), u16_or8 lo (hi * 256) hl.1 (by omega) (by omega) (by omega) (by omega)]
  omega
def mkD (h next d port ad : Int) : Rc := ⟨h % 4, ad, d, decide (h / 4 % 2 = 1), decide (h / 8 % 2 = 1), port, decide (h / 16 % 2 = 1), h / 32 % 4⟩
def X1 (xs : List Int) (at_ : Nat) (next : Int) : Rc := { (hdX xs at_ next).1 with data := xs.getD (at_ + (hdX xs at_ next).2) 0 }
theorem X1_more {xs : List Int} {at_ : Nat} {next : Int} (hb : Byte xs) (h : 128 ≤ xs.getD at_ 0) : X1 xs at_ next = mkD (xs.getD at_ 0) next (xs.getD (at_ + 4) 0) (xs.getD (at_ + 1) 0) (xs.getD (at_ + 2) 0 + 256 * xs.getD (at_ + 3) 0) ∧ (hdX xs at_ next).2 = 4 := by
  obtain ⟨e1, e2, e3, e4, e5, e6⟩ := byte_dec (byte_D hb at_)
  have hm : hdX xs at_ next = _ := hdX_more (by rw [e6]; exact decide_eq_true h)
  unfold X1 mkD
  rw [hm]
  refine ⟨?_, rfl⟩
  show Rc.mk (cdB _) (adB _ _) _ (rdB _) (wrB _) _ (qB _) (mdB _) = _
  rw [e1, e2, e3, e4, e5, adB_eq (byte_D hb _) (byte_D hb _)]
theorem X1_one {xs : List Int} {at_ : Nat} {next : Int} (hb : Byte xs) (h : ¬ 128 ≤ xs.getD at_ 0) : X1 xs at_ next = mkD (xs.getD at_ 0) next (xs.getD (at_ + 1) 0) 0 next ∧ (hdX xs at_ next).2 = 1 := by
  obtain ⟨e1, e2, e3, e4, e5, e6⟩ := byte_dec (byte_D hb at_)
  have hm : hdX xs at_ next = _ := hdX_one (by rw [e6]; exact decide_eq_false h)
  unfold X1 mkD
  rw [hm]
  refine ⟨?_, rfl⟩
  show Rc.mk (cdB _) _ _ (rdB _) (wrB _) _ (qB _) (mdB _) = _
  rw [e1, e2, e3, e4, e5]
  rfl
theorem X1_ok {xs : List Int} {at_ : Nat} {next : Int} (hb : Byte xs) (hn : 0 ≤ next ∧ next ≤ 65535) : OkR (X1 xs at_ next) := by
  have b0 := byte_D hb at_
  have b1 := byte_D hb (at_ + 1)
  have b2 := byte_D hb (at_ + 2)
  have b3 := byte_D hb (at_ + 3)
  have b4 := byte_D hb (at_ + 4)
  by_cases h : 128 ≤ xs.getD at_ 0
  · rw [(X1_more hb h).1]
    refine ⟨?_, ?_, ?_, ?_, ?_⟩ <;> dsimp only [mkD] <;> omega
  · rw [(X1_one hb h).1]
    refine ⟨?_, ?_, ?_, ?_, ?_⟩ <;> dsimp only [mkD] <;> omega
theorem v3_dec : ∀ h : Fin 256, v3 ⟨(h.1 : Int) % 4, 0, 0, decide ((h.1 : Int) / 4 % 2 = 1), decide ((h.1 : Int) / 8 % 2 = 1), 0, decide ((h.1 : Int) / 16 % 2 = 1), (h.1 : Int) / 32 % 4⟩ = (h.1 : Int) % 128 := by decide +kernel
theorem v3_mkD {h next d port ad : Int} (hb : 0 ≤ h ∧ h ≤ 255) : v3 (mkD h next d port ad) = h % 128 := by
  have := v3_dec ⟨h.toNat, by omega⟩
  rw [show ((h.toNat : Nat) : Int) = h by omega] at this
  exact this
/-- The head is its own just if the program takes the record. -/
theorem head_good {xs : List Int} {at_ : Nat} {next : Int} (hb : Byte xs) (hm : mayB (X1 xs at_ next) = true) : goodX (xs.getD at_ 0) next (X1 xs at_ next) = decide (v4 (X1 xs at_ next) next = xs.getD at_ 0) := by
  have b0 := byte_D hb at_
  obtain ⟨_, _, _, _, _, e6⟩ := byte_dec b0
  unfold goodX
  rw [hm, e6, Bool.true_and]
  by_cases h : 128 ≤ xs.getD at_ 0
  · obtain ⟨hx, _⟩ := X1_more (next := next) hb h
    unfold v4
    rw [hx, v3_mkD b0, decide_eq_true h]
    unfold farB
    show (!(true && decide ((mkD _ _ _ _ _).ad = next) && decide ((mkD _ _ _ _ _).port = 0))) = decide ((if (!decide ((mkD _ _ _ _ _).ad = next) || !decide ((mkD _ _ _ _ _).port = 0)) = true then _ else _) = _)
    by_cases h1 : (mkD (xs.getD at_ 0) next (xs.getD (at_ + 4) 0) (xs.getD (at_ + 1) 0) (xs.getD (at_ + 2) 0 + 256 * xs.getD (at_ + 3) 0)).ad = next <;> by_cases h2 : (mkD (xs.getD at_ 0) next (xs.getD (at_ + 4) 0) (xs.getD (at_ + 1) 0) (xs.getD (at_ + 2) 0 + 256 * xs.getD (at_ + 3) 0)).port = 0 <;> simp only [h1, h2, decide_true, decide_false, Bool.not_true, Bool.not_false, Bool.and_true, Bool.and_false, Bool.or_true, Bool.or_false, Bool.true_or, if_true, Bool.false_eq_true, if_false] <;> symm <;> first | (refine decide_eq_true ?_; omega) | (refine decide_eq_false ?_; omega)
  · obtain ⟨hx, _⟩ := X1_one (next := next) hb h
    unfold v4
    rw [hx, v3_mkD b0, decide_eq_false h]
    unfold farB
    show (!(false && _ && _)) = decide ((if (!decide (next = next) || !decide ((0 : Int) = 0)) = true then _ else _) = _)
    simp only [Bool.false_and, Bool.not_false, decide_true, Bool.not_true, Bool.or_false, Bool.false_eq_true, if_false]
    symm
    refine decide_eq_true ?_
    omega
def recD (xs : List Int) (at_ : Nat) (next : Int) : Rc × Nat := match recP xs at_ next with | some p => p | none => (default, 0)
theorem recD_none {xs : List Int} {at_ : Nat} {next : Int} (h : recP xs at_ next = none) : recD xs at_ next = (default, 0) := by unfold recD; rw [h]
theorem recD_some {xs : List Int} {at_ : Nat} {next : Int} {p : Rc × Nat} (h : recP xs at_ next = some p) : recD xs at_ next = p := by unfold recD; rw [h]
theorem recP_bad1 {xs : List Int} {at_ : Nat} {next : Int} (h : goodX (xs.getD at_ 0) next (X1 xs at_ next) = false) : recP xs at_ next = none := recP_bad (x := (hdX xs at_ next).1) (k := (hdX xs at_ next).2) rfl h
theorem recP_good1 {xs : List Int} {at_ : Nat} {next : Int} (h1 : at_ < xs.length) (h2 : at_ + (hdX xs at_ next).2 < xs.length) (h : goodX (xs.getD at_ 0) next (X1 xs at_ next) = true) : recP xs at_ next = some (X1 xs at_ next, (hdX xs at_ next).2 + 1) := recP_good (x := (hdX xs at_ next).1) (k := (hdX xs at_ next).2) rfl h1 h2 h
set_option maxHeartbeats 1000000 in
set_option maxRecDepth 100000 in
theorem refRecord_spec {Γ : Ctx} (hP : Γ.P = Tryd.prog) {L : Hp} {vb : Value} {xs : List Int} {at_ : Nat} {next : Int} (hb : SlI .u8 (Cell Γ L) vb xs) (hxl : xs.length ≤ 2147483647) (hby : Byte xs) (hn : 0 ≤ next ∧ next ≤ 65535) (hat : at_ ≤ xs.length) :
    SCall Γ 40 #[vb, (.int .i64 (at_ : Int)), (.int .u16 next)] L (fun v L' => v = .tuple #[.agg (recD xs at_ next).1.cells.toArray, .int .i64 ((recD xs at_ next).2 : Int)] ∧ L' = L) := by
  obtain ⟨A, c, rfl, hc⟩ := Sl.shape hb
  obtain ⟨a1, e1, _, hA0⟩ := Sl.at1 hb
  have hA : ∀ (j : Nat) (x : Int), xs[j]? = some x → Cell Γ L (a1.add (j * 1)) (.int .u8 x) := fun j x h => hA0 j x h
  refine SCall.enter (n := 93) (resX Γ [.cell 6 46, .tmp 7]) (hP ▸ Tryd.func40) rfl rfl (by simp) (resX_ok rfl) ?_
  refine SX.seq_k fun K1 hK1 => ?_
  refine SX.region_d [some 6, some 7] rfl (fun ops hops => ?_)
  unfold Dsts at hops
  simp (maxSteps:=1000000)(dsimp:=false)(disch:=omega) only [go_sem, Φa, hP, hops]
  intro b6
  try with_reducible refine stI ?_
  try simp (maxSteps:=1000000)(dsimp:=false)(disch:=omega) only [go_sem, Φa, hP, hops]
  refine hK1 _ _ ?_
  try clear hK1 K1
  refine SX.seq_k fun K2 hK2 => ?_
  refine SX.seq_k fun K3 hK3 => ?_
  refine SX.region_d [some 12, some 13, some 14, some 15] rfl (fun ops hops => ?_)
  unfold Dsts at hops
  simp (maxSteps:=1000000)(dsimp:=false)(disch:=omega) only [go_sem, Φa, hP, hops]
  repeat' ((first | refine And.intro (by omega) ?_ | fail); try (with_reducible refine stI ?_); try simp (maxSteps:=1000000)(dsimp:=false)(disch:=omega) only [go_sem, Φa, hP, hops])
  refine hK3 _ _ ?_
  try clear hK3 K3
  refine SX.cond_k fun X4 Y4 hX4 hY4 => ?_
  simp (maxSteps:=1000000)(dsimp:=false)(disch:=omega) only [go_sem, Φa, hP, condVC]
  refine ⟨fun hc15 => hX4 ?_, fun hc15 => hY4 ?_⟩
  · clear hX4 hY4 X4 Y4
    refine SX.seq_k fun K5 hK5 => ?_
    refine SX.region_d [some 16, none, some 7] rfl (fun ops hops => ?_)
    unfold Dsts at hops
    simp (maxSteps:=1000000)(dsimp:=false)(disch:=omega) only [go_sem, Φa, hP, hops]
    refine ⟨0, _, _, _, rfl, (by show 8 ≤ 8; decide), .inr (by decide), ?_⟩
    try with_reducible refine stI ?_
    try simp (maxSteps:=1000000)(dsimp:=false)(disch:=omega) only [go_sem, Φa, hP, hops]
    refine hK5 _ _ ?_
    try clear hK5 K5
    refine SX.ret ?_
    simp only [andThen_normal, andThen_ret, andThen_exit, inBlk_normal, inBlk_ret, inBlk_exit, Nat.reduceEqDiff, if_true, if_false, ↓reduceIte, retQ_ret]
    try simp only [res0,res1,res2,res3,stK_e,resX,resK,oneOr,ld_ptr,loadVC,loadN,List.nil_append,List.cons_append,Nat.reduceAdd,Nat.add_zero,Nat.zero_add,Addr.add_lit,Addr.add_zero',add_addS,T.elA_46,T.lay_46,T.szA_46,T.zr_46,Tryd.underlying46,go_sem,Φa,hP]
    refine ⟨_, _, Less.drop _ _, ⟨_, Cell.at 0 rfl rfl, _, Cell.at 0 rfl rfl, _, Cell.at 0 rfl rfl, _, Cell.at 0 rfl rfl, _, Cell.at 0 rfl rfl, _, Cell.at 0 rfl rfl, _, Cell.at 0 rfl rfl, _, Cell.at 0 rfl rfl, rfl⟩, ?_⟩
    exact ⟨by rw [recD_none (recP_end (by omega))]; rfl, rfl⟩
  · clear hX4 hY4 X4 Y4
    refine SX.skip ?_
    try simp only [andThen_normal, andThen_ret, andThen_exit, inBlk_normal, inBlk_ret, inBlk_exit, Nat.reduceEqDiff, if_true, if_false, ↓reduceIte]
    refine hK2 _ _ ?_
    try clear hK2 K2
    refine SX.seq_k fun K6 hK6 => ?_
    have hal : at_ < xs.length := by omega
    have hx0 := hA _ _ (getD_get (d := (0 : Int)) hal)
    rw [Nat.mul_one] at hx0
    have b0 := byte_D hby at_
    refine SX.region_d [some 17, some 18, some 19, some 20, some 8] rfl (fun ops hops => ?_)
    unfold Dsts at hops
    simp (maxSteps:=1000000)(dsimp:=false)(disch:=omega) only [go_sem, Φa, hP, hops, ia_at e1]
    refine ⟨_, Cell.cons _ hx0, ?_⟩
    try with_reducible refine stI ?_
    try simp (maxSteps:=1000000)(dsimp:=false)(disch:=omega) only [go_sem, Φa, hP, hops, ia_at e1]
    refine hK6 _ _ ?_
    try clear hK6 K6
    refine SX.live [0, 1, 2, 6, 8] (fun T1 hT1 => ?_)
    simp only [forall_mem_cons', forall_mem_nil', go_sem, Φa, hP] at hT1
    obtain ⟨h1_0, h1_1, h1_2, h1_6, h1_8⟩ := hT1
    refine SX.seq_k fun K7 hK7 => ?_
    refine SX.region_d [some 9] rfl (fun ops hops => ?_)
    unfold Dsts at hops
    simp (maxSteps:=1000000)(dsimp:=false)(disch:=omega) only [go_sem, Φa, hP, h1_0, h1_1, h1_2, h1_6, h1_8, hops]
    refine hK7 _ _ ?_
    try clear hK7 K7
    refine SX.live [0, 1, 2, 6, 8, 9] (fun T2 hT2 => ?_)
    simp only [forall_mem_cons', forall_mem_nil', go_sem, Φa, hP, h1_0, h1_1, h1_2, h1_6, h1_8] at hT2
    obtain ⟨h2_0, h2_1, h2_2, h2_6, h2_8, h2_9⟩ := hT2
    clear h1_0 h1_1 h1_2 h1_6 h1_8 T1
    refine SX.join (fun (ss : (Nat)) T L' => (fun (n : Nat) => T 9 = .int .i64 (n : Int) ∧ T 0 = T2 0 ∧ T 1 = T2 1 ∧ T 2 = T2 2 ∧ T 6 = T2 6 ∧ T 8 = T2 8 ∧ L' = some (b6, .cells (Rc.cells ⟨0, 0, 0, false, false, 0, false, 0⟩).toArray 46 (0, 0)) :: L ∧ (n = (hdX xs at_ next).2 + 1 ∧ ((128 ≤ (xs.getD at_ 0) ∧ n = 5) ∨ (¬ 128 ≤ (xs.getD at_ 0) ∧ n = 2)))) (ss)) (fun K8 hK8 => ?_) ?_
    · simp only [h2_0, h2_1, h2_2, h2_6, h2_8] at hK8
      refine SX.seq_k fun K9 hK9 => ?_
      refine SX.region_d [some 21, some 22] rfl (fun ops hops => ?_)
      unfold Dsts at hops
      simp (maxSteps:=1000000)(dsimp:=false)(disch:=omega) only [go_sem, Φa, hP, h2_0, h2_1, h2_2, h2_6, h2_8, h2_9, hops]
      repeat' ((first | refine And.intro (by omega) ?_ | fail); try (with_reducible refine stI ?_); try simp (maxSteps:=1000000)(dsimp:=false)(disch:=omega) only [go_sem, Φa, hP, h2_0, h2_1, h2_2, h2_6, h2_8, h2_9, hops])
      refine hK9 _ _ ?_
      try clear hK9 K9
      refine SX.cond_k fun X10 Y10 hX10 hY10 => ?_
      simp (maxSteps:=1000000)(dsimp:=false)(disch:=omega) only [go_sem, Φa, hP, h2_0, h2_1, h2_2, h2_6, h2_8, h2_9, condVC]
      refine ⟨fun hc22 => hX10 ?_, fun hc22 => hY10 ?_⟩
      · clear hX10 hY10 X10 Y10
        refine SX.region_d [some 9] rfl (fun ops hops => ?_)
        unfold Dsts at hops
        simp (maxSteps:=1000000)(dsimp:=false)(disch:=omega) only [go_sem, Φa, hP, h2_0, h2_1, h2_2, h2_6, h2_8, h2_9, hops]
        refine hK8 5 _ (some (b6, .cells (Rc.cells ⟨0, 0, 0, false, false, 0, false, 0⟩).toArray 46 (0, 0)) :: L) _ (by first | exact Less.refl _ | exact Less.drop _ _ | exact Less.drops (Less.drop _ _) | exact Less.drops (Less.drops (Less.drop _ _)) | exact Less.drops (Less.drops (Less.drops (Less.drop _ _))) | exact Less.drops (Less.drops (Less.drops (Less.drops (Less.drop _ _))))) ?_
        try dsimp only
        refine ⟨?_, ?_, ?_, ?_, ?_, ?_, ?_, ?_⟩
        · simp (maxSteps:=1000000)(dsimp:=false)(disch:=omega) only [go_sem, Φa, hP, h2_0, h2_1, h2_2, h2_6, h2_8, h2_9]
          first | done | rfl | skip
        · simp (maxSteps:=1000000)(dsimp:=false)(disch:=omega) only [go_sem, Φa, hP, h2_0, h2_1, h2_2, h2_6, h2_8, h2_9]
        · simp (maxSteps:=1000000)(dsimp:=false)(disch:=omega) only [go_sem, Φa, hP, h2_0, h2_1, h2_2, h2_6, h2_8, h2_9]
        · simp (maxSteps:=1000000)(dsimp:=false)(disch:=omega) only [go_sem, Φa, hP, h2_0, h2_1, h2_2, h2_6, h2_8, h2_9]
        · simp (maxSteps:=1000000)(dsimp:=false)(disch:=omega) only [go_sem, Φa, hP, h2_0, h2_1, h2_2, h2_6, h2_8, h2_9]
        · simp (maxSteps:=1000000)(dsimp:=false)(disch:=omega) only [go_sem, Φa, hP, h2_0, h2_1, h2_2, h2_6, h2_8, h2_9]
        · rfl
        · exact ⟨by rw [(X1_more (next := next) hby hc22).2], .inl ⟨hc22, rfl⟩⟩
      · clear hX10 hY10 X10 Y10
        refine SX.skip ?_
        try simp only [andThen_normal, andThen_ret, andThen_exit, inBlk_normal, inBlk_ret, inBlk_exit, Nat.reduceEqDiff, if_true, if_false, ↓reduceIte]
        refine hK8 2 _ (some (b6, .cells (Rc.cells ⟨0, 0, 0, false, false, 0, false, 0⟩).toArray 46 (0, 0)) :: L) _ (by first | exact Less.refl _ | exact Less.drop _ _ | exact Less.drops (Less.drop _ _) | exact Less.drops (Less.drops (Less.drop _ _)) | exact Less.drops (Less.drops (Less.drops (Less.drop _ _))) | exact Less.drops (Less.drops (Less.drops (Less.drops (Less.drop _ _))))) ?_
        try dsimp only
        refine ⟨?_, ?_, ?_, ?_, ?_, ?_, ?_, ?_⟩
        · simp (maxSteps:=1000000)(dsimp:=false)(disch:=omega) only [go_sem, Φa, hP, h2_0, h2_1, h2_2, h2_6, h2_8, h2_9]
          first | done | rfl | skip
        · simp (maxSteps:=1000000)(dsimp:=false)(disch:=omega) only [go_sem, Φa, hP, h2_0, h2_1, h2_2, h2_6, h2_8, h2_9]
        · simp (maxSteps:=1000000)(dsimp:=false)(disch:=omega) only [go_sem, Φa, hP, h2_0, h2_1, h2_2, h2_6, h2_8, h2_9]
        · simp (maxSteps:=1000000)(dsimp:=false)(disch:=omega) only [go_sem, Φa, hP, h2_0, h2_1, h2_2, h2_6, h2_8, h2_9]
        · simp (maxSteps:=1000000)(dsimp:=false)(disch:=omega) only [go_sem, Φa, hP, h2_0, h2_1, h2_2, h2_6, h2_8, h2_9]
        · simp (maxSteps:=1000000)(dsimp:=false)(disch:=omega) only [go_sem, Φa, hP, h2_0, h2_1, h2_2, h2_6, h2_8, h2_9]
        · rfl
        · exact ⟨by rw [(X1_one (next := next) hby hc22).2], .inr ⟨hc22, rfl⟩⟩
    · intro n T3 L3 hI
      try dsimp only at hI 
      simp only [h2_0, h2_1, h2_2, h2_6, h2_8] at hI 
      obtain ⟨h3_9, h3_0, h3_1, h3_2, h3_6, h3_8, hL3, ⟨hn1, hn2⟩⟩ := hI
      replace hL3 := hL3.symm
      subst hL3
      clear h2_0 h2_1 h2_2 h2_6 h2_8 h2_9 T2
      refine SX.seq_k fun K11 hK11 => ?_
      refine SX.seq_k fun K12 hK12 => ?_
      refine SX.region_d [some 23, some 24, some 25, some 26, some 27, some 28] rfl (fun ops hops => ?_)
      unfold Dsts at hops
      simp (maxSteps:=1000000)(dsimp:=false)(disch:=omega) only [go_sem, Φa, hP, h3_9, h3_0, h3_1, h3_2, h3_6, h3_8, hops]
      repeat' ((first | refine And.intro (by omega) ?_ | fail); try (with_reducible refine stI ?_); try simp (maxSteps:=1000000)(dsimp:=false)(disch:=omega) only [go_sem, Φa, hP, h3_9, h3_0, h3_1, h3_2, h3_6, h3_8, hops])
      refine hK12 _ _ ?_
      try clear hK12 K12
      refine SX.cond_k fun X13 Y13 hX13 hY13 => ?_
      simp (maxSteps:=1000000)(dsimp:=false)(disch:=omega) only [go_sem, Φa, hP, h3_9, h3_0, h3_1, h3_2, h3_6, h3_8, condVC]
      refine ⟨fun hc28 => hX13 ?_, fun hc28 => hY13 ?_⟩
      · clear hX13 hY13 X13 Y13
        refine SX.seq_k fun K14 hK14 => ?_
        refine SX.region_d [some 29, none, some 7] rfl (fun ops hops => ?_)
        unfold Dsts at hops
        simp (maxSteps:=1000000)(dsimp:=false)(disch:=omega) only [go_sem, Φa, hP, h3_9, h3_0, h3_1, h3_2, h3_6, h3_8, hops]
        refine ⟨0, _, _, _, rfl, (by show 8 ≤ 8; decide), .inr (by decide), ?_⟩
        try with_reducible refine stI ?_
        try simp (maxSteps:=1000000)(dsimp:=false)(disch:=omega) only [go_sem, Φa, hP, h3_9, h3_0, h3_1, h3_2, h3_6, h3_8, hops]
        refine hK14 _ _ ?_
        try clear hK14 K14
        refine SX.ret ?_
        simp only [andThen_normal, andThen_ret, andThen_exit, inBlk_normal, inBlk_ret, inBlk_exit, Nat.reduceEqDiff, if_true, if_false, ↓reduceIte, retQ_ret]
        try simp only [res0,res1,res2,res3,stK_e,resX,resK,oneOr,ld_ptr,loadVC,loadN,List.nil_append,List.cons_append,Nat.reduceAdd,Nat.add_zero,Nat.zero_add,Addr.add_lit,Addr.add_zero',add_addS,T.elA_46,T.lay_46,T.szA_46,T.zr_46,Tryd.underlying46,go_sem,Φa,hP,h3_9,h3_0,h3_1,h3_2,h3_6,h3_8]
        refine ⟨_, _, Less.drop _ _, ⟨_, Cell.at 0 rfl rfl, _, Cell.at 0 rfl rfl, _, Cell.at 0 rfl rfl, _, Cell.at 0 rfl rfl, _, Cell.at 0 rfl rfl, _, Cell.at 0 rfl rfl, _, Cell.at 0 rfl rfl, _, Cell.at 0 rfl rfl, rfl⟩, ?_⟩
        exact ⟨by rw [recD_none (recP_short (by omega))]; rfl, rfl⟩
      · clear hX13 hY13 X13 Y13
        refine SX.skip ?_
        try simp only [andThen_normal, andThen_ret, andThen_exit, inBlk_normal, inBlk_ret, inBlk_exit, Nat.reduceEqDiff, if_true, if_false, ↓reduceIte]
        refine hK11 _ _ ?_
        try clear hK11 K11
        refine SX.seq_k fun K15 hK15 => ?_
        have t0 : (xs.getD at_ 0).tmod 4 = (xs.getD at_ 0) % 4 := Int.tmod_eq_emod_of_nonneg b0.1
        have t1 : (xs.getD at_ 0).tdiv 4 = (xs.getD at_ 0) / 4 := Int.tdiv_eq_ediv_of_nonneg b0.1
        have t2 : (xs.getD at_ 0).tdiv 8 = (xs.getD at_ 0) / 8 := Int.tdiv_eq_ediv_of_nonneg b0.1
        have t3 : (xs.getD at_ 0).tdiv 16 = (xs.getD at_ 0) / 16 := Int.tdiv_eq_ediv_of_nonneg b0.1
        have t4 : (xs.getD at_ 0).tdiv 32 = (xs.getD at_ 0) / 32 := Int.tdiv_eq_ediv_of_nonneg b0.1
        have t5 : ((xs.getD at_ 0) / 4).tmod 2 = (xs.getD at_ 0) / 4 % 2 := Int.tmod_eq_emod_of_nonneg (by omega)
        have t6 : ((xs.getD at_ 0) / 8).tmod 2 = (xs.getD at_ 0) / 8 % 2 := Int.tmod_eq_emod_of_nonneg (by omega)
        have t7 : ((xs.getD at_ 0) / 16).tmod 2 = (xs.getD at_ 0) / 16 % 2 := Int.tmod_eq_emod_of_nonneg (by omega)
        have t8 : ((xs.getD at_ 0) / 32).tmod 4 = (xs.getD at_ 0) / 32 % 4 := Int.tmod_eq_emod_of_nonneg (by omega)
        have hx1 := hA _ _ (getD_get (d := (0 : Int)) (show at_ + n - 1 < xs.length by omega))
        rw [Nat.mul_one] at hx1
        have tn : ((at_ : Int) + (n : Int) - 1).toNat = at_ + n - 1 := by omega
        refine SX.region_d [some 30, some 31, some 32, some 33, some 34, some 35, some 36, some 37, some 38, some 39, some 40, some 41, some 42, some 43, some 44, some 45, some 46, some 47, some 48, some 49, some 50, some 51, some 52, some 53, some 54, some 55, some 10, none] rfl (fun ops hops => ?_)
        unfold Dsts at hops
        simp (maxSteps:=1000000)(dsimp:=false)(disch:=omega) only [go_sem, Φa, hP, h3_9, h3_0, h3_1, h3_2, h3_6, h3_8, hops, ia_at e1, t0, t1, t2, t3, t4, t5, t6, t7, t8, tn]
        refine ⟨_, Cell.cons _ hx1, ?_⟩
        try with_reducible refine stI ?_
        try simp (maxSteps:=1000000)(dsimp:=false)(disch:=omega) only [go_sem, Φa, hP, h3_9, h3_0, h3_1, h3_2, h3_6, h3_8, hops, ia_at e1, t0, t1, t2, t3, t4, t5, t6, t7, t8, tn]
        intro b10
        try with_reducible refine stI ?_
        try simp (maxSteps:=1000000)(dsimp:=false)(disch:=omega) only [go_sem, Φa, hP, h3_9, h3_0, h3_1, h3_2, h3_6, h3_8, hops, ia_at e1, t0, t1, t2, t3, t4, t5, t6, t7, t8, tn]
        refine ⟨0, _, _, _, rfl, (by show 8 ≤ 8; decide), .inr (by decide), ?_⟩
        try with_reducible refine stI ?_
        try simp (maxSteps:=1000000)(dsimp:=false)(disch:=omega) only [go_sem, Φa, hP, h3_9, h3_0, h3_1, h3_2, h3_6, h3_8, hops, ia_at e1, t0, t1, t2, t3, t4, t5, t6, t7, t8, tn]
        refine hK15 _ _ ?_
        try clear hK15 K15
        refine SX.live [0, 1, 2, 6, 8, 9, 10] (fun T4 hT4 => ?_)
        simp only [forall_mem_cons', forall_mem_nil', go_sem, Φa, hP, h3_9, h3_0, h3_1, h3_2, h3_6, h3_8] at hT4
        obtain ⟨h4_0, h4_1, h4_2, h4_6, h4_8, h4_9, h4_10⟩ := hT4
        clear h3_9 h3_0 h3_1 h3_2 h3_6 h3_8 T3
        refine SX.live [0, 1, 2, 6, 8, 9, 10] (fun T5 hT5 => ?_)
        simp only [forall_mem_cons', forall_mem_nil', go_sem, Φa, hP, h4_0, h4_1, h4_2, h4_6, h4_8, h4_9, h4_10] at hT5
        obtain ⟨h5_0, h5_1, h5_2, h5_6, h5_8, h5_9, h5_10⟩ := hT5
        clear h4_0 h4_1 h4_2 h4_6 h4_8 h4_9 h4_10 T4
        refine SX.join (fun (ss : (Rc)) T L' => (fun (x : Rc) => T 2 = T5 2 ∧ T 6 = T5 6 ∧ T 8 = T5 8 ∧ T 9 = T5 9 ∧ T 10 = T5 10 ∧ L' = some (b10, .cells (Rc.cells x).toArray 46 (0, 0)) :: some (b6, .cells (Rc.cells ⟨0, 0, 0, false, false, 0, false, 0⟩).toArray 46 (0, 0)) :: L ∧ (x = (X1 xs at_ next))) (ss)) (fun K16 hK16 => ?_) ?_
        · simp only [h5_2, h5_6, h5_8, h5_9, h5_10] at hK16
          refine SX.seq_k fun K17 hK17 => ?_
          refine SX.region_d [some 56, some 57] rfl (fun ops hops => ?_)
          unfold Dsts at hops
          simp (maxSteps:=1000000)(dsimp:=false)(disch:=omega) only [go_sem, Φa, hP, h5_0, h5_1, h5_2, h5_6, h5_8, h5_9, h5_10, hops]
          repeat' ((first | refine And.intro (by omega) ?_ | fail); try (with_reducible refine stI ?_); try simp (maxSteps:=1000000)(dsimp:=false)(disch:=omega) only [go_sem, Φa, hP, h5_0, h5_1, h5_2, h5_6, h5_8, h5_9, h5_10, hops])
          refine hK17 _ _ ?_
          try clear hK17 K17
          refine SX.cond_k fun X18 Y18 hX18 hY18 => ?_
          simp (maxSteps:=1000000)(dsimp:=false)(disch:=omega) only [go_sem, Φa, hP, h5_0, h5_1, h5_2, h5_6, h5_8, h5_9, h5_10, condVC]
          refine ⟨fun hc57 => hX18 ?_, fun hc57 => hY18 ?_⟩
          · clear hX18 hY18 X18 Y18
            refine SX.seq_k fun K19 hK19 => ?_
            obtain ⟨hmo, rfl⟩ : 128 ≤ (xs.getD at_ 0) ∧ n = 5 := by omega
            have hx2 := hA _ _ (getD_get (d := (0 : Int)) (show at_ + 1 < xs.length by omega))
            rw [Nat.mul_one] at hx2
            have hx3 := hA _ _ (getD_get (d := (0 : Int)) (show at_ + 2 < xs.length by omega))
            rw [Nat.mul_one] at hx3
            have hx4 := hA _ _ (getD_get (d := (0 : Int)) (show at_ + 3 < xs.length by omega))
            rw [Nat.mul_one] at hx4
            have u2 := byte_D hby (at_ + 2)
            have u3 := byte_D hby (at_ + 3)
            have n1 : ((at_ : Int) + 1).toNat = at_ + 1 := by omega
            have n2 : ((at_ : Int) + 2).toNat = at_ + 2 := by omega
            have n3 : ((at_ : Int) + 3).toNat = at_ + 3 := by omega
            refine SX.region_d [some 58, some 59, some 60, some 61, some 62, some 63, none] rfl (fun ops hops => ?_)
            unfold Dsts at hops
            simp (maxSteps:=1000000)(dsimp:=false)(disch:=omega) only [go_sem, Φa, hP, h5_0, h5_1, h5_2, h5_6, h5_8, h5_9, h5_10, hops, ia_at e1, n1]
            refine ⟨_, Cell.cons _ (Cell.cons _ hx2), ?_⟩
            try with_reducible refine stI ?_
            try simp (maxSteps:=1000000)(dsimp:=false)(disch:=omega) only [go_sem, Φa, hP, h5_0, h5_1, h5_2, h5_6, h5_8, h5_9, h5_10, hops, ia_at e1, n1]
            refine ⟨0, _, _, _, rfl, (by show 6 ≤ 8; decide), .inr (by decide), ?_⟩
            try with_reducible refine stI ?_
            try simp (maxSteps:=1000000)(dsimp:=false)(disch:=omega) only [go_sem, Φa, hP, h5_0, h5_1, h5_2, h5_6, h5_8, h5_9, h5_10, hops, ia_at e1, n1]
            refine hK19 _ _ ?_
            try clear hK19 K19
            refine SX.drawn_d [(0, .q), (1, .q), (2, .q), (3, .q), (4, .q), (5, .q), (6, .q), (7, .q), (8, .q), (9, .q), (10, .q), (11, .q), (12, .q), (13, .q), (14, .q), (15, .t)] (fun L => L) (hP ▸ T.mixed) (by kernel_rfl) (by exact Less.refl _) [some 64, some 65, some 66, some 67, some 68, some 69, some 70, some 71, some 72, some 73, some 74, some 75, some 76, some 77, some 78, none] rfl (fun ops hops hopl => ?_)
            unfold Dsts at hops
            simp (maxSteps:=1000000)(dsimp:=false)(disch:=omega) only [go_sem, Φa, hP, h5_0, h5_1, h5_2, h5_6, h5_8, h5_9, h5_10, hops, hopl, ia_at e1, n2, n3]
            refine ⟨_, Cell.cons _ (Cell.cons _ hx3), ?_⟩
            try with_reducible refine stI ?_
            try simp (maxSteps:=1000000)(dsimp:=false)(disch:=omega) only [go_sem, Φa, hP, h5_0, h5_1, h5_2, h5_6, h5_8, h5_9, h5_10, hops, hopl, ia_at e1, n2, n3]
            refine ⟨_, Cell.cons _ (Cell.cons _ hx4), ?_⟩
            try with_reducible refine stI ?_
            try simp (maxSteps:=1000000)(dsimp:=false)(disch:=omega) only [go_sem, Φa, hP, h5_0, h5_1, h5_2, h5_6, h5_8, h5_9, h5_10, hops, hopl, ia_at e1, n2, n3]
            refine ⟨0, _, _, _, rfl, (by show 2 ≤ 8; decide), .inr (by decide), ?_⟩
            try with_reducible refine stI ?_
            try simp (maxSteps:=1000000)(dsimp:=false)(disch:=omega) only [go_sem, Φa, hP, h5_0, h5_1, h5_2, h5_6, h5_8, h5_9, h5_10, hops, hopl, ia_at e1, n2, n3]
            refine hK16 (mkD (xs.getD at_ 0) next (xs.getD (at_ + 4) 0) (xs.getD (at_ + 1) 0) (xs.getD (at_ + 2) 0 + 256 * xs.getD (at_ + 3) 0)) _ (some (b10, .cells (Rc.cells ((mkD (xs.getD at_ 0) next (xs.getD (at_ + 4) 0) (xs.getD (at_ + 1) 0) (xs.getD (at_ + 2) 0 + 256 * xs.getD (at_ + 3) 0)))).toArray 46 (0, 0)) :: some (b6, .cells (Rc.cells ⟨0, 0, 0, false, false, 0, false, 0⟩).toArray 46 (0, 0)) :: L) _ (by first | exact Less.refl _ | exact Less.drop _ _ | exact Less.drops (Less.drop _ _) | exact Less.drops (Less.drops (Less.drop _ _)) | exact Less.drops (Less.drops (Less.drops (Less.drop _ _))) | exact Less.drops (Less.drops (Less.drops (Less.drops (Less.drop _ _))))) ?_
            try dsimp only
            refine ⟨?_, ?_, ?_, ?_, ?_, ?_, ?_⟩
            · simp (maxSteps:=1000000)(dsimp:=false)(disch:=omega) only [go_sem, Φa, hP, h5_0, h5_1, h5_2, h5_6, h5_8, h5_9, h5_10]
            · simp (maxSteps:=1000000)(dsimp:=false)(disch:=omega) only [go_sem, Φa, hP, h5_0, h5_1, h5_2, h5_6, h5_8, h5_9, h5_10]
            · simp (maxSteps:=1000000)(dsimp:=false)(disch:=omega) only [go_sem, Φa, hP, h5_0, h5_1, h5_2, h5_6, h5_8, h5_9, h5_10]
            · simp (maxSteps:=1000000)(dsimp:=false)(disch:=omega) only [go_sem, Φa, hP, h5_0, h5_1, h5_2, h5_6, h5_8, h5_9, h5_10]
            · simp (maxSteps:=1000000)(dsimp:=false)(disch:=omega) only [go_sem, Φa, hP, h5_0, h5_1, h5_2, h5_6, h5_8, h5_9, h5_10]
            · rfl
            · exact (X1_more hby hmo).1.symm
          · clear hX18 hY18 X18 Y18
            obtain ⟨hmo, rfl⟩ : ¬ 128 ≤ (xs.getD at_ 0) ∧ n = 2 := by omega
            refine SX.skip ?_
            try simp only [andThen_normal, andThen_ret, andThen_exit, inBlk_normal, inBlk_ret, inBlk_exit, Nat.reduceEqDiff, if_true, if_false, ↓reduceIte]
            refine hK16 (mkD (xs.getD at_ 0) next (xs.getD (at_ + 1) 0) 0 next) _ (some (b10, .cells (Rc.cells ((mkD (xs.getD at_ 0) next (xs.getD (at_ + 1) 0) 0 next))).toArray 46 (0, 0)) :: some (b6, .cells (Rc.cells ⟨0, 0, 0, false, false, 0, false, 0⟩).toArray 46 (0, 0)) :: L) _ (by first | exact Less.refl _ | exact Less.drop _ _ | exact Less.drops (Less.drop _ _) | exact Less.drops (Less.drops (Less.drop _ _)) | exact Less.drops (Less.drops (Less.drops (Less.drop _ _))) | exact Less.drops (Less.drops (Less.drops (Less.drops (Less.drop _ _))))) ?_
            try dsimp only
            refine ⟨?_, ?_, ?_, ?_, ?_, ?_, ?_⟩
            · simp (maxSteps:=1000000)(dsimp:=false)(disch:=omega) only [go_sem, Φa, hP, h5_0, h5_1, h5_2, h5_6, h5_8, h5_9, h5_10]
            · simp (maxSteps:=1000000)(dsimp:=false)(disch:=omega) only [go_sem, Φa, hP, h5_0, h5_1, h5_2, h5_6, h5_8, h5_9, h5_10]
            · simp (maxSteps:=1000000)(dsimp:=false)(disch:=omega) only [go_sem, Φa, hP, h5_0, h5_1, h5_2, h5_6, h5_8, h5_9, h5_10]
            · simp (maxSteps:=1000000)(dsimp:=false)(disch:=omega) only [go_sem, Φa, hP, h5_0, h5_1, h5_2, h5_6, h5_8, h5_9, h5_10]
            · simp (maxSteps:=1000000)(dsimp:=false)(disch:=omega) only [go_sem, Φa, hP, h5_0, h5_1, h5_2, h5_6, h5_8, h5_9, h5_10]
            · rfl
            · exact (X1_one hby (by omega)).1.symm
        · intro x T6 L6 hI
          try dsimp only at hI 
          simp only [h5_2, h5_6, h5_8, h5_9, h5_10] at hI 
          obtain ⟨h6_2, h6_6, h6_8, h6_9, h6_10, hL6, rfl⟩ := hI
          replace hL6 := hL6.symm
          subst hL6
          clear h5_0 h5_1 h5_2 h5_6 h5_8 h5_9 h5_10 T5
          refine SX.seq_k fun K20 hK20 => ?_
          refine SX.region_d [some 79, some 80, some 11] rfl (fun ops hops => ?_)
          unfold Dsts at hops
          simp (maxSteps:=1000000)(dsimp:=false)(disch:=omega) only [go_sem, Φa, hP, h6_2, h6_6, h6_8, h6_9, h6_10, hops]
          refine ⟨_, Cell.at 0 rfl (show (Rc.cells _)[0]? = _ from rfl), _, Cell.at 0 rfl (show (Rc.cells _)[1]? = _ from rfl), _, Cell.at 0 rfl (show (Rc.cells _)[2]? = _ from rfl), _, Cell.at 0 rfl (show (Rc.cells _)[3]? = _ from rfl), _, Cell.at 0 rfl (show (Rc.cells _)[4]? = _ from rfl), _, Cell.at 0 rfl (show (Rc.cells _)[5]? = _ from rfl), _, Cell.at 0 rfl (show (Rc.cells _)[6]? = _ from rfl), _, Cell.at 0 rfl (show (Rc.cells _)[7]? = _ from rfl), ?_⟩
          try with_reducible refine stI ?_
          try simp (maxSteps:=1000000)(dsimp:=false)(disch:=omega) only [go_sem, Φa, hP, h6_2, h6_6, h6_8, h6_9, h6_10, hops]
          refine SCall.mono (refMay_spec hP (x := (X1 xs at_ next))) ?_
          rintro v_ L_ ⟨hv_, hL_⟩
          rw [hv_, hL_]
          clear hv_ hL_ v_ L_
          rcases hmx : mayB (X1 xs at_ next) with _ | _
          · skip
            try with_reducible refine stI ?_
            try with_reducible refine stI ?_
            try simp (maxSteps:=1000000)(dsimp:=false)(disch:=omega) only [go_sem, Φa, hP, h6_2, h6_6, h6_8, h6_9, h6_10, hops]
            refine hK20 _ _ ?_
            try clear hK20 K20
            refine SX.seq_k fun K21 hK21 => ?_
            refine SX.seq_k fun K22 hK22 => ?_
            refine SX.region_d [some 81, some 82, some 83, some 84, some 85, some 86, some 87, some 88, some 89] rfl (fun ops hops => ?_)
            unfold Dsts at hops
            simp (maxSteps:=1000000)(dsimp:=false)(disch:=omega) only [go_sem, Φa, hP, h6_2, h6_6, h6_8, h6_9, h6_10, hops]
            repeat' ((first | refine ⟨_, Cell.at 0 rfl (show (Rc.cells _)[0]? = _ from rfl), _, Cell.at 0 rfl (show (Rc.cells _)[1]? = _ from rfl), _, Cell.at 0 rfl (show (Rc.cells _)[2]? = _ from rfl), _, Cell.at 0 rfl (show (Rc.cells _)[3]? = _ from rfl), _, Cell.at 0 rfl (show (Rc.cells _)[4]? = _ from rfl), _, Cell.at 0 rfl (show (Rc.cells _)[5]? = _ from rfl), _, Cell.at 0 rfl (show (Rc.cells _)[6]? = _ from rfl), _, Cell.at 0 rfl (show (Rc.cells _)[7]? = _ from rfl), ?_⟩ | (refine SCall.mono (refHead_spec hP (x := (X1 xs at_ next)) (X1_ok hby hn) hmx) ?_; rintro v_ L_ ⟨hv_, hL_⟩; rw [hv_, hL_]; clear hv_ hL_ v_ L_) | refine ⟨_, Cell.at 0 rfl rfl, ?_⟩ | refine ⟨_, Cell.at 1 rfl rfl, ?_⟩ | refine ⟨_, Cell.at 2 rfl rfl, ?_⟩ | refine ⟨_, Cell.at 3 rfl rfl, ?_⟩ | refine And.intro (by omega) ?_ | fail); try (with_reducible refine stI ?_); try simp (maxSteps:=1000000)(dsimp:=false)(disch:=omega) only [go_sem, Φa, hP, h6_2, h6_6, h6_8, h6_9, h6_10, hops])
            refine hK22 _ _ ?_
            try clear hK22 K22
            refine SX.live [6, 9, 10, 89] (fun T7 hT7 => ?_)
            simp only [forall_mem_cons', forall_mem_nil', go_sem, Φa, hP, h6_2, h6_6, h6_8, h6_9, h6_10] at hT7
            obtain ⟨h7_6, h7_9, h7_10, h7_89⟩ := hT7
            clear h6_2 h6_6 h6_8 h6_9 h6_10 T6
            refine SX.cond_k fun X23 Y23 hX23 hY23 => ?_
            simp (maxSteps:=1000000)(dsimp:=false)(disch:=omega) only [go_sem, Φa, hP, h7_6, h7_9, h7_10, h7_89, condVC]
            refine hX23 ?_
            clear hX23 hY23 X23 Y23
            refine SX.seq_k fun K24 hK24 => ?_
            refine SX.region_d [some 90, none, some 7] rfl (fun ops hops => ?_)
            unfold Dsts at hops
            simp (maxSteps:=1000000)(dsimp:=false)(disch:=omega) only [go_sem, Φa, hP, h7_6, h7_9, h7_10, h7_89, hops]
            refine ⟨1, _, _, _, rfl, (by show 8 ≤ 8; decide), .inr (by decide), ?_⟩
            try with_reducible refine stI ?_
            try simp (maxSteps:=1000000)(dsimp:=false)(disch:=omega) only [go_sem, Φa, hP, h7_6, h7_9, h7_10, h7_89, hops]
            refine hK24 _ _ ?_
            try clear hK24 K24
            refine SX.ret ?_
            simp only [andThen_normal, andThen_ret, andThen_exit, inBlk_normal, inBlk_ret, inBlk_exit, Nat.reduceEqDiff, if_true, if_false, ↓reduceIte, retQ_ret]
            try simp only [res0,res1,res2,res3,stK_e,resX,resK,oneOr,ld_ptr,loadVC,loadN,List.nil_append,List.cons_append,Nat.reduceAdd,Nat.add_zero,Nat.zero_add,Addr.add_lit,Addr.add_zero',add_addS,T.elA_46,T.lay_46,T.szA_46,T.zr_46,Tryd.underlying46,go_sem,Φa,hP,h7_6,h7_9,h7_10,h7_89]
            refine ⟨_, _, Less.drops (Less.drop _ _), ⟨_, Cell.at 1 rfl rfl, _, Cell.at 1 rfl rfl, _, Cell.at 1 rfl rfl, _, Cell.at 1 rfl rfl, _, Cell.at 1 rfl rfl, _, Cell.at 1 rfl rfl, _, Cell.at 1 rfl rfl, _, Cell.at 1 rfl rfl, rfl⟩, ?_⟩
            exact ⟨by rw [recD_none (recP_bad1 (by unfold goodX; rw [hmx]; rfl))]; rfl, rfl⟩
          · skip
            try with_reducible refine stI ?_
            try with_reducible refine stI ?_
            try simp (maxSteps:=1000000)(dsimp:=false)(disch:=omega) only [go_sem, Φa, hP, h6_2, h6_6, h6_8, h6_9, h6_10, hops]
            refine hK20 _ _ ?_
            try clear hK20 K20
            refine SX.seq_k fun K25 hK25 => ?_
            refine SX.seq_k fun K26 hK26 => ?_
            refine SX.region_d [some 81, some 82, some 83, some 84, some 85, some 86, some 87, some 88, some 89] rfl (fun ops hops => ?_)
            unfold Dsts at hops
            simp (maxSteps:=1000000)(dsimp:=false)(disch:=omega) only [go_sem, Φa, hP, h6_2, h6_6, h6_8, h6_9, h6_10, hops]
            repeat' ((first | refine ⟨_, Cell.at 0 rfl (show (Rc.cells _)[0]? = _ from rfl), _, Cell.at 0 rfl (show (Rc.cells _)[1]? = _ from rfl), _, Cell.at 0 rfl (show (Rc.cells _)[2]? = _ from rfl), _, Cell.at 0 rfl (show (Rc.cells _)[3]? = _ from rfl), _, Cell.at 0 rfl (show (Rc.cells _)[4]? = _ from rfl), _, Cell.at 0 rfl (show (Rc.cells _)[5]? = _ from rfl), _, Cell.at 0 rfl (show (Rc.cells _)[6]? = _ from rfl), _, Cell.at 0 rfl (show (Rc.cells _)[7]? = _ from rfl), ?_⟩ | (refine SCall.mono (refHead_spec hP (x := (X1 xs at_ next)) (X1_ok hby hn) hmx) ?_; rintro v_ L_ ⟨hv_, hL_⟩; rw [hv_, hL_]; clear hv_ hL_ v_ L_) | refine ⟨_, Cell.at 0 rfl rfl, ?_⟩ | refine ⟨_, Cell.at 1 rfl rfl, ?_⟩ | refine ⟨_, Cell.at 2 rfl rfl, ?_⟩ | refine ⟨_, Cell.at 3 rfl rfl, ?_⟩ | refine And.intro (by omega) ?_ | fail); try (with_reducible refine stI ?_); try simp (maxSteps:=1000000)(dsimp:=false)(disch:=omega) only [go_sem, Φa, hP, h6_2, h6_6, h6_8, h6_9, h6_10, hops])
            refine hK26 _ _ ?_
            try clear hK26 K26
            refine SX.live [6, 9, 10, 89] (fun T8 hT8 => ?_)
            simp only [forall_mem_cons', forall_mem_nil', go_sem, Φa, hP, h6_2, h6_6, h6_8, h6_9, h6_10] at hT8
            obtain ⟨h8_6, h8_9, h8_10, h8_89⟩ := hT8
            clear h6_2 h6_6 h6_8 h6_9 h6_10 T6
            refine SX.cond_k fun X27 Y27 hX27 hY27 => ?_
            simp (maxSteps:=1000000)(dsimp:=false)(disch:=omega) only [go_sem, Φa, hP, h8_6, h8_9, h8_10, h8_89, condVC]
            refine ⟨fun hc89 => hX27 ?_, fun hc89 => hY27 ?_⟩
            · clear hX27 hY27 X27 Y27
              refine SX.seq_k fun K28 hK28 => ?_
              refine SX.region_d [some 90, none, some 7] rfl (fun ops hops => ?_)
              unfold Dsts at hops
              simp (maxSteps:=1000000)(dsimp:=false)(disch:=omega) only [go_sem, Φa, hP, h8_6, h8_9, h8_10, h8_89, hops]
              refine ⟨1, _, _, _, rfl, (by show 8 ≤ 8; decide), .inr (by decide), ?_⟩
              try with_reducible refine stI ?_
              try simp (maxSteps:=1000000)(dsimp:=false)(disch:=omega) only [go_sem, Φa, hP, h8_6, h8_9, h8_10, h8_89, hops]
              refine hK28 _ _ ?_
              try clear hK28 K28
              refine SX.ret ?_
              simp only [andThen_normal, andThen_ret, andThen_exit, inBlk_normal, inBlk_ret, inBlk_exit, Nat.reduceEqDiff, if_true, if_false, ↓reduceIte, retQ_ret]
              try simp only [res0,res1,res2,res3,stK_e,resX,resK,oneOr,ld_ptr,loadVC,loadN,List.nil_append,List.cons_append,Nat.reduceAdd,Nat.add_zero,Nat.zero_add,Addr.add_lit,Addr.add_zero',add_addS,T.elA_46,T.lay_46,T.szA_46,T.zr_46,Tryd.underlying46,go_sem,Φa,hP,h8_6,h8_9,h8_10,h8_89]
              refine ⟨_, _, Less.drops (Less.drop _ _), ⟨_, Cell.at 1 rfl rfl, _, Cell.at 1 rfl rfl, _, Cell.at 1 rfl rfl, _, Cell.at 1 rfl rfl, _, Cell.at 1 rfl rfl, _, Cell.at 1 rfl rfl, _, Cell.at 1 rfl rfl, _, Cell.at 1 rfl rfl, rfl⟩, ?_⟩
              exact ⟨by rw [recD_none (recP_bad1 (by rw [head_good hby hmx]; simpa using hc89))]; rfl, rfl⟩
            · clear hX27 hY27 X27 Y27
              refine SX.skip ?_
              try simp only [andThen_normal, andThen_ret, andThen_exit, inBlk_normal, inBlk_ret, inBlk_exit, Nat.reduceEqDiff, if_true, if_false, ↓reduceIte]
              refine hK25 _ _ ?_
              try clear hK25 K25
              refine SX.seq_k fun K29 hK29 => ?_
              refine SX.region_d [some 91, some 92, none, some 7] rfl (fun ops hops => ?_)
              unfold Dsts at hops
              simp (maxSteps:=1000000)(dsimp:=false)(disch:=omega) only [go_sem, Φa, hP, h8_6, h8_9, h8_10, h8_89, hops]
              refine ⟨_, Cell.at 0 rfl (show (Rc.cells _)[0]? = _ from rfl), _, Cell.at 0 rfl (show (Rc.cells _)[1]? = _ from rfl), _, Cell.at 0 rfl (show (Rc.cells _)[2]? = _ from rfl), _, Cell.at 0 rfl (show (Rc.cells _)[3]? = _ from rfl), _, Cell.at 0 rfl (show (Rc.cells _)[4]? = _ from rfl), _, Cell.at 0 rfl (show (Rc.cells _)[5]? = _ from rfl), _, Cell.at 0 rfl (show (Rc.cells _)[6]? = _ from rfl), _, Cell.at 0 rfl (show (Rc.cells _)[7]? = _ from rfl), ?_⟩
              try with_reducible refine stI ?_
              try simp (maxSteps:=1000000)(dsimp:=false)(disch:=omega) only [go_sem, Φa, hP, h8_6, h8_9, h8_10, h8_89, hops]
              refine ⟨1, _, _, _, rfl, (by show 8 ≤ 8; decide), .inr (by decide), ?_⟩
              try with_reducible refine stI ?_
              try simp (maxSteps:=1000000)(dsimp:=false)(disch:=omega) only [go_sem, Φa, hP, h8_6, h8_9, h8_10, h8_89, hops]
              refine hK29 _ _ ?_
              try clear hK29 K29
              refine SX.ret ?_
              simp only [andThen_normal, andThen_ret, andThen_exit, inBlk_normal, inBlk_ret, inBlk_exit, Nat.reduceEqDiff, if_true, if_false, ↓reduceIte, retQ_ret]
              try simp only [res0,res1,res2,res3,stK_e,resX,resK,oneOr,ld_ptr,loadVC,loadN,List.nil_append,List.cons_append,Nat.reduceAdd,Nat.add_zero,Nat.zero_add,Addr.add_lit,Addr.add_zero',add_addS,T.elA_46,T.lay_46,T.szA_46,T.zr_46,Tryd.underlying46,go_sem,Φa,hP,h8_6,h8_9,h8_10,h8_89]
              refine ⟨_, _, Less.drops (Less.drop _ _), ⟨_, Cell.at 1 rfl rfl, _, Cell.at 1 rfl rfl, _, Cell.at 1 rfl rfl, _, Cell.at 1 rfl rfl, _, Cell.at 1 rfl rfl, _, Cell.at 1 rfl rfl, _, Cell.at 1 rfl rfl, _, Cell.at 1 rfl rfl, rfl⟩, ?_⟩
              exact ⟨by rw [recD_some (recP_good1 hal (by omega) (by rw [head_good hby hmx]; simpa using hc89)), hn1]; rfl, rfl⟩

end Go.Proofs.YtcenlgofldnfcaaDoor
set_option linter.unusedVariables false
set_option linter.unusedSimpArgs false
namespace Go.Proofs.YtcenlgofldnfcaaDoor
open Go.RowKit Go.SX Go.Proofs
open Go.SX renaming ia_someH → Φa

theorem or_0 {n b : Int} (hn : 0 ≤ n ∧ n < 1) (hb : 0 ≤ b ∧ b ≤ 255) : bits .or .i64 n (IntKind.i64.wrap (IntKind.i64.wrap b * 2 ^ min (8 * 0) 64)) = n + b * 1 := by
  rw [show (2 : Int) ^ min (8 * 0) 64 = 1 from rfl, show IntKind.i64.wrap b = b from w64 (by omega), show IntKind.i64.wrap (b * 1) = b * 1 from w64 (by omega)]
  exact bits_join_low .i64 62 (by decide) (fun m h1 h2 => w64 (by omega)) 0 n (b * 1) hn.1 (by omega) (by omega) (by omega) (by omega) (by omega)
theorem or_1 {n b : Int} (hn : 0 ≤ n ∧ n < 256) (hb : 0 ≤ b ∧ b ≤ 255) : bits .or .i64 n (IntKind.i64.wrap (IntKind.i64.wrap b * 2 ^ min (8 * 1) 64)) = n + b * 256 := by
  rw [show (2 : Int) ^ min (8 * 1) 64 = 256 from rfl, show IntKind.i64.wrap b = b from w64 (by omega), show IntKind.i64.wrap (b * 256) = b * 256 from w64 (by omega)]
  exact bits_join_low .i64 62 (by decide) (fun m h1 h2 => w64 (by omega)) 8 n (b * 256) hn.1 (by omega) (by omega) (by omega) (by omega) (by omega)
theorem or_2 {n b : Int} (hn : 0 ≤ n ∧ n < 65536) (hb : 0 ≤ b ∧ b ≤ 255) : bits .or .i64 n (IntKind.i64.wrap (IntKind.i64.wrap b * 2 ^ min (8 * 2) 64)) = n + b * 65536 := by
  rw [show (2 : Int) ^ min (8 * 2) 64 = 65536 from rfl, show IntKind.i64.wrap b = b from w64 (by omega), show IntKind.i64.wrap (b * 65536) = b * 65536 from w64 (by omega)]
  exact bits_join_low .i64 62 (by decide) (fun m h1 h2 => w64 (by omega)) 16 n (b * 65536) hn.1 (by omega) (by omega) (by omega) (by omega) (by omega)
theorem or_3 {n b : Int} (hn : 0 ≤ n ∧ n < 16777216) (hb : 0 ≤ b ∧ b ≤ 255) : bits .or .i64 n (IntKind.i64.wrap (IntKind.i64.wrap b * 2 ^ min (8 * 3) 64)) = n + b * 16777216 := by
  rw [show (2 : Int) ^ min (8 * 3) 64 = 16777216 from rfl, show IntKind.i64.wrap b = b from w64 (by omega), show IntKind.i64.wrap (b * 16777216) = b * 16777216 from w64 (by omega)]
  exact bits_join_low .i64 62 (by decide) (fun m h1 h2 => w64 (by omega)) 24 n (b * 16777216) hn.1 (by omega) (by omega) (by omega) (by omega) (by omega)
theorem nP_eq {xs : List Int} (hb : Byte xs) : nP xs 4 = xs.getD 4 0 + 256 * xs.getD 5 0 + 65536 * xs.getD 6 0 + 16777216 * xs.getD 7 0 := by
  have b4 := byte_D hb 4
  have b5 := byte_D hb 5
  have b6 := byte_D hb 6
  have b7 := byte_D hb 7
  have e1 : nP xs 1 = xs.getD 4 0 := by
    show bits .or .i64 0 (IntKind.i64.wrap (IntKind.i64.wrap (xs.getD 4 0) * 2 ^ min (8 * 0) 64)) = _
    rw [or_0 (by decide) b4]; omega
  have e2 : nP xs 2 = xs.getD 4 0 + 256 * xs.getD 5 0 := by
    show bits .or .i64 (nP xs 1) (IntKind.i64.wrap (IntKind.i64.wrap (xs.getD 5 0) * 2 ^ min (8 * 1) 64)) = _
    rw [e1, or_1 (by omega) b5]; omega
  have e3 : nP xs 3 = xs.getD 4 0 + 256 * xs.getD 5 0 + 65536 * xs.getD 6 0 := by
    show bits .or .i64 (nP xs 2) (IntKind.i64.wrap (IntKind.i64.wrap (xs.getD 6 0) * 2 ^ min (8 * 2) 64)) = _
    rw [e2, or_2 (by omega) b6]; omega
  show bits .or .i64 (nP xs 3) (IntKind.i64.wrap (IntKind.i64.wrap (xs.getD 7 0) * 2 ^ min (8 * 3) 64)) = _
  rw [e3, or_3 (by omega) b7]; omega
theorem headOk_len {xs : List Int} (h : headOk xs = true) : 8 ≤ xs.length := by
  unfold headOk at h
  simp only [Bool.and_eq_true, decide_eq_true_eq] at h
  exact h.1.1.1.1
theorem headOk_not {xs : List Int} (h : headOk xs = false) : unpP xs = ([], 91, 0) := if_neg (by rw [h]; simp)
theorem recD_zero {xs : List Int} {at_ : Nat} {next : Int} (h : (recD xs at_ next).2 = 0) : recP xs at_ next = none := by
  cases hr : recP xs at_ next with
  | none => rfl
  | some p => rw [recD_some hr] at h; have := (recP_pos (x := p.1) (k := p.2) hr).1; omega
theorem recD_pos {xs : List Int} {at_ : Nat} {next : Int} (h : ¬ (recD xs at_ next).2 = 0) : recP xs at_ next = some ((recD xs at_ next).1, (recD xs at_ next).2) := by
  cases hr : recP xs at_ next with
  | none => rw [recD_none hr] at h; exact absurd rfl h
  | some p => rw [recD_some hr]
set_option maxHeartbeats 1000000 in
set_option maxRecDepth 100000 in
theorem refUnpack_spec {Γ : Ctx} (hP : Γ.P = Tryd.prog) {L : Hp} {vb : Value} {xs : List Int} (hb : SlI .u8 (Cell Γ L) vb xs) (hxl : xs.length ≤ 2147483647) (hby : Byte xs) :
    SCall Γ 19 #[vb] L (UnpR xs L) := by
  obtain ⟨A, c, rfl, hc⟩ := Sl.shape hb
  obtain ⟨a1, e1, _, hA0⟩ := Sl.at1 hb
  have hcell : ∀ k, k < xs.length → Cell Γ L (a1.add k) (.int .u8 (xs.getD k 0)) := fun k hk => by have := hA0 k _ (getD_get (d := (0 : Int)) hk); rw [Nat.mul_one] at this; exact this
  have hcell0 : 0 < xs.length → Cell Γ L a1 (.int .u8 (xs.getD 0 0)) := fun hk => by have := hcell 0 hk; rwa [Addr.add_zero'] at this
  refine SCall.enter (n := 94) (res3 2 3 4) (hP ▸ Tryd.func19) rfl rfl (by simp) (res3_ok rfl) ?_
  refine SX.seq_k fun K1 hK1 => ?_
  refine SX.region_d [some 2, some 3, some 4] rfl (fun ops hops => ?_)
  unfold Dsts at hops
  simp (maxSteps:=1000000)(dsimp:=false)(disch:=omega) only [go_sem, Φa, hP, hops]
  refine hK1 _ _ ?_
  try clear hK1 K1
  refine SX.seq_k fun K2 hK2 => ?_
  refine SX.seq_k fun K3 hK3 => ?_
  refine SX.region_xd [some 12, some 13, some 14, some 15, some 16, some 17, some 18, some 19, some 20, some 21, some 22, some 23, some 24, some 25, some 26, some 27, some 28, some 29, some 30, some 31, some 32, some 33, some 34, some 35, some 36, some 37, some 38] rfl (fun ops hops => ?_)
  unfold Dsts at hops
  refine RX.live [0] (fun T1 hT1 => ?_)
  simp only [forall_mem_cons', forall_mem_nil', go_sem, Φa, hP] at hT1
  have h1_0 := hT1; clear hT1
  refine RX.join 27 (fun (ss : Unit) T L' => T 38 = .bool (!headOk xs) ∧ T 0 = T1 0 ∧ L' = L ∧ (True)) (fun K4 hK4 => ?_) ?_
  · simp only [h1_0] at hK4
    simp (maxSteps:=1000000)(dsimp:=false)(disch:=omega) only [go_sem, Φa, hP, h1_0, hops, ia_at e1]
    repeat' (first | refine iteB (fun hg => ?_) (fun hg => ?_) | refine iteI (fun hg => ?_) (fun hg => ?_) | ((first | refine ⟨_, hcell0 (by omega), ?_⟩ | refine ⟨_, hcell 0 (by omega), ?_⟩ | refine ⟨_, hcell 1 (by omega), ?_⟩ | refine ⟨_, hcell 2 (by omega), ?_⟩ | refine ⟨_, hcell 3 (by omega), ?_⟩ | refine And.intro (by omega) ?_ | fail); try (with_reducible refine stI ?_); try simp (maxSteps:=1000000)(dsimp:=false)(disch:=omega) only [go_sem, Φa, hP, h1_0, hops, ia_at e1]) | fail)
    all_goals
      refine hK4 () _ (L) _ (by first | exact Less.refl _ | exact Less.drop _ _ | exact Less.drops (Less.drop _ _) | exact Less.drops (Less.drops (Less.drop _ _)) | exact Less.drops (Less.drops (Less.drops (Less.drop _ _))) | exact Less.drops (Less.drops (Less.drops (Less.drops (Less.drop _ _))))) ?_
      try dsimp only
      refine ⟨?_, ?_, ?_, ?_⟩
      · simp (maxSteps:=1000000)(dsimp:=false)(disch:=omega) only [go_sem, Φa, hP, h1_0]
        first | done | (refine congrArg Value.bool ?_; simp_all [headOk]; first | done | omega)
      · simp (maxSteps:=1000000)(dsimp:=false)(disch:=omega) only [go_sem, Φa, hP, h1_0]
      · rfl
      · trivial
  · intro ss T2 L2 hI
    simp only [h1_0] at hI 
    obtain ⟨h2_38, h2_0, hL2, hinv⟩ := hI
    replace hL2 := hL2.symm
    subst hL2
    clear h1_0 T1
    refine RX.done ?_
    simp (maxSteps:=1000000)(dsimp:=false)(disch:=omega) only [go_sem, Φa, hP, h2_38, h2_0, hops]
    refine hK3 _ _ ?_
    try clear hK3 K3
    refine SX.cond_k fun X5 Y5 hX5 hY5 => ?_
    simp (maxSteps:=1000000)(dsimp:=false)(disch:=omega) only [go_sem, Φa, hP, h2_38, h2_0, condVC]
    refine ⟨fun hc38 => hX5 ?_, fun hc38 => hY5 ?_⟩
    · clear hX5 hY5 X5 Y5
      refine SX.seq_k fun K6 hK6 => ?_
      refine SX.region_d [some 2, some 3, some 4] rfl (fun ops hops => ?_)
      unfold Dsts at hops
      simp (maxSteps:=1000000)(dsimp:=false)(disch:=omega) only [go_sem, Φa, hP, h2_38, h2_0, hops]
      refine hK6 _ _ ?_
      try clear hK6 K6
      refine SX.ret ?_
      simp only [andThen_normal, andThen_ret, andThen_exit, inBlk_normal, inBlk_ret, inBlk_exit, Nat.reduceEqDiff, if_true, if_false, ↓reduceIte, retQ_ret]
      try simp only [res0, res1, res2, res3, stK_e, go_sem, Φa, hP, h2_38, h2_0]
      have hu : unpP xs = _ := headOk_not (by simpa using hc38)
      exact ⟨_, _, Less.none _, rfl, .slice none 0 0, none, by rw [hu], rfl, by rw [hu]; exact RowL.nil _ _ _⟩
    · clear hX5 hY5 X5 Y5
      have hhd : headOk xs = true := by simpa using hc38
      have h8 := headOk_len hhd
      refine SX.skip ?_
      try simp only [andThen_normal, andThen_ret, andThen_exit, inBlk_normal, inBlk_ret, inBlk_exit, Nat.reduceEqDiff, if_true, if_false, ↓reduceIte]
      refine hK2 _ _ ?_
      try clear hK2 K2
      refine SX.live [0] (fun T3 hT3 => ?_)
      simp only [forall_mem_cons', forall_mem_nil', go_sem, Φa, hP, h2_38, h2_0] at hT3
      have h3_0 := hT3; clear hT3
      clear h2_38 h2_0 T2
      refine SX.join (fun (ss : Unit) T L' => T 5 = .int .i64 (nP xs 4) ∧ T 0 = T3 0 ∧ L' = L ∧ (True)) (fun K7 hK7 => ?_) ?_
      · simp only [h3_0] at hK7
        have b4 := byte_D hby 4
        have b5 := byte_D hby 5
        have b6 := byte_D hby 6
        have b7 := byte_D hby 7
        refine SX.quiet_d (hP ▸ T.mixed) (by kernel_rfl) [some 39, some 40, some 41, some 42, some 43, some 44, some 45, some 46, some 47, some 48, some 49, some 50, some 51, some 52, some 53, some 54, some 55, some 56, some 57, some 58, some 59, some 60, some 5] rfl (fun ops hops => ?_)
        unfold Dsts at hops
        simp (maxSteps:=1000000)(dsimp:=false)(disch:=omega) only [go_sem, Φa, hP, h3_0, hops, ia_at e1]
        refine ⟨_, hcell 4 (by omega), ?_⟩
        try with_reducible refine stI ?_
        try simp (maxSteps:=1000000)(dsimp:=false)(disch:=omega) only [go_sem, Φa, hP, h3_0, hops, ia_at e1]
        refine ⟨_, hcell 5 (by omega), ?_⟩
        try with_reducible refine stI ?_
        try simp (maxSteps:=1000000)(dsimp:=false)(disch:=omega) only [go_sem, Φa, hP, h3_0, hops, ia_at e1]
        refine ⟨_, hcell 6 (by omega), ?_⟩
        try with_reducible refine stI ?_
        try simp (maxSteps:=1000000)(dsimp:=false)(disch:=omega) only [go_sem, Φa, hP, h3_0, hops, ia_at e1]
        refine ⟨_, hcell 7 (by omega), ?_⟩
        try with_reducible refine stI ?_
        try simp (maxSteps:=1000000)(dsimp:=false)(disch:=omega) only [go_sem, Φa, hP, h3_0, hops, ia_at e1]
        refine hK7 () _ (L) _ (by first | exact Less.refl _ | exact Less.drop _ _ | exact Less.drops (Less.drop _ _) | exact Less.drops (Less.drops (Less.drop _ _)) | exact Less.drops (Less.drops (Less.drops (Less.drop _ _))) | exact Less.drops (Less.drops (Less.drops (Less.drops (Less.drop _ _))))) ?_
        try dsimp only
        refine ⟨?_, ?_, ?_, ?_⟩
        · simp (maxSteps:=1000000)(dsimp:=false)(disch:=omega) only [go_sem, Φa, hP, h3_0]
          rw [nP_eq hby]
        · simp (maxSteps:=1000000)(dsimp:=false)(disch:=omega) only [go_sem, Φa, hP, h3_0]
        · rfl
        · trivial
      · intro ss T4 L4 hI
        simp only [h3_0] at hI 
        obtain ⟨h4_5, h4_0, hL4, hinv⟩ := hI
        replace hL4 := hL4.symm
        subst hL4
        clear h3_0 T3
        refine SX.seq_k fun K8 hK8 => ?_
        refine SX.seq_k fun K9 hK9 => ?_
        refine SX.region_d [some 61, some 62] rfl (fun ops hops => ?_)
        unfold Dsts at hops
        simp (maxSteps:=1000000)(dsimp:=false)(disch:=omega) only [go_sem, Φa, hP, h4_5, h4_0, hops]
        repeat' ((first | refine And.intro (by omega) ?_ | fail); try (with_reducible refine stI ?_); try simp (maxSteps:=1000000)(dsimp:=false)(disch:=omega) only [go_sem, Φa, hP, h4_5, h4_0, hops])
        refine hK9 _ _ ?_
        try clear hK9 K9
        refine SX.cond_k fun X10 Y10 hX10 hY10 => ?_
        simp (maxSteps:=1000000)(dsimp:=false)(disch:=omega) only [go_sem, Φa, hP, h4_5, h4_0, condVC]
        refine ⟨fun hc62 => hX10 ?_, fun hc62 => hY10 ?_⟩
        · clear hX10 hY10 X10 Y10
          refine SX.seq_k fun K11 hK11 => ?_
          refine SX.region_d [some 2, some 3, some 4] rfl (fun ops hops => ?_)
          unfold Dsts at hops
          simp (maxSteps:=1000000)(dsimp:=false)(disch:=omega) only [go_sem, Φa, hP, h4_5, h4_0, hops]
          refine hK11 _ _ ?_
          try clear hK11 K11
          refine SX.ret ?_
          simp only [andThen_normal, andThen_ret, andThen_exit, inBlk_normal, inBlk_ret, inBlk_exit, Nat.reduceEqDiff, if_true, if_false, ↓reduceIte, retQ_ret]
          try simp only [res0, res1, res2, res3, stK_e, go_sem, Φa, hP, h4_5, h4_0]
          have hu : unpP xs = _ := unp_big hhd (by simpa using hc62)
          exact ⟨_, _, Less.none _, rfl, .slice none 0 0, none, by rw [hu], rfl, by rw [hu]; exact RowL.nil _ _ _⟩
        · clear hX10 hY10 X10 Y10
          refine SX.skip ?_
          try simp only [andThen_normal, andThen_ret, andThen_exit, inBlk_normal, inBlk_ret, inBlk_exit, Nat.reduceEqDiff, if_true, if_false, ↓reduceIte]
          refine hK8 _ _ ?_
          try clear hK8 K8
          refine SX.seq_k fun K12 hK12 => ?_
          refine SX.less (Less.none _) ?_
          refine SX.region_d [some 6] rfl (fun ops hops => ?_)
          unfold Dsts at hops
          simp (maxSteps:=1000000)(dsimp:=false)(disch:=omega) only [go_sem, Φa, hP, h4_5, h4_0, hops]
          refine hK12 _ _ ?_
          try clear hK12 K12
          refine SX.seq_k fun K13 hK13 => ?_
          refine SX.region_d [some 7] rfl (fun ops hops => ?_)
          unfold Dsts at hops
          simp (maxSteps:=1000000)(dsimp:=false)(disch:=omega) only [go_sem, Φa, hP, h4_5, h4_0, hops]
          refine hK13 _ _ ?_
          try clear hK13 K13
          refine SX.seq_k fun K14 hK14 => ?_
          refine SX.region_d [some 8] rfl (fun ops hops => ?_)
          unfold Dsts at hops
          simp (maxSteps:=1000000)(dsimp:=false)(disch:=omega) only [go_sem, Φa, hP, h4_5, h4_0, hops]
          refine hK14 _ _ ?_
          try clear hK14 K14
          refine SX.seq_k fun K15 hK15 => ?_
          refine SX.seq_k fun K16 hK16 => ?_
          refine SX.region_d [some 9] rfl (fun ops hops => ?_)
          unfold Dsts at hops
          simp (maxSteps:=1000000)(dsimp:=false)(disch:=omega) only [go_sem, Φa, hP, h4_5, h4_0, hops]
          refine hK16 _ _ ?_
          try clear hK16 K16
          refine SX.block ?_
          refine SX.live [0, 5, 6, 7, 8, 9] (fun T5 hT5 => ?_)
          simp only [forall_mem_cons', forall_mem_nil', go_sem, Φa, hP, h4_5, h4_0] at hT5
          obtain ⟨h5_0, h5_5, h5_6, h5_7, h5_8, h5_9⟩ := hT5
          clear h4_5 h4_0 T4
          refine SX.loop_k (fun (ss : (Nat) × (Nat) × (Int) × (List Rc) × (Value) × (Slot)) T L' => (fun (k : Nat) (at_ : Nat) (next : Int) (l : List Rc) (vo : Value) (so : Slot) => T 6 = vo ∧ T 7 = .int .i64 (at_ : Int) ∧ T 8 = .int .u16 next ∧ T 9 = .int .i64 (k : Int) ∧ T 0 = T5 0 ∧ T 5 = T5 5 ∧ L' = so :: L ∧ (k ≤ (nP xs 4).toNat ∧ at_ ≤ xs.length ∧ (0 ≤ next ∧ next ≤ 65535) ∧ recsP xs (nP xs 4).toNat 8 0 = (recsP xs ((nP xs 4).toNat - k) at_ next).pre l ∧ l.length = k ∧ RowL Rc.cells 46 8 vo l so)) (ss.1) (ss.2.1) (ss.2.2.1) (ss.2.2.2.1) (ss.2.2.2.2.1) (ss.2.2.2.2.2)) (fun (ss : (Nat) × (Nat) × (Int) × (List Rc) × (Value) × (Slot)) => (fun (k : Nat) (at_ : Nat) (next : Int) (l : List Rc) (vo : Value) (so : Slot) => (nP xs 4).toNat - k) (ss.1) (ss.2.1) (ss.2.2.1) (ss.2.2.2.1) (ss.2.2.2.2.1) (ss.2.2.2.2.2)) (0, 8, 0, [], .slice none 0 0, none) ?_ ?_
          · try dsimp only
            refine ⟨?_, ?_, ?_, ?_, ?_, ?_, ?_, ?_⟩
            · first | exact h5_6 | (rw [h5_6]; rfl) | (rw [h5_6]; simp; done)
            · first | exact h5_7 | (rw [h5_7]; rfl) | (rw [h5_7]; simp; done)
            · first | exact h5_8 | (rw [h5_8]; rfl) | (rw [h5_8]; simp; done)
            · first | exact h5_9 | (rw [h5_9]; rfl) | (rw [h5_9]; simp; done)
            · rfl
            · rfl
            · rfl
            · exact ⟨Nat.zero_le _, by omega, by decide, Rd.pre_nil _, rfl, RowL.nil _ _ _⟩
          · intro ss T6 L6 hI K17 hK17
            obtain ⟨k, at_, next, l, vo, so⟩ := ss
            try dsimp only at hI hK17
            simp only [h5_0, h5_5] at hI hK17
            obtain ⟨h6_6, h6_7, h6_8, h6_9, h6_0, h6_5, hL6, ⟨hk, hat, hnx, hrs, hll, hrow⟩⟩ := hI
            replace hL6 := hL6.symm
            subst hL6
            clear h5_0 h5_5 h5_6 h5_7 h5_8 h5_9 T5
            refine SX.seq_k fun K18 hK18 => ?_
            refine SX.seq_k fun K19 hK19 => ?_
            refine SX.region_d [some 63, some 64, some 65] rfl (fun ops hops => ?_)
            unfold Dsts at hops
            simp (maxSteps:=1000000)(dsimp:=false)(disch:=omega) only [go_sem, Φa, hP, h6_6, h6_7, h6_8, h6_9, h6_0, h6_5, hops]
            repeat' ((first | refine And.intro (by omega) ?_ | fail); try (with_reducible refine stI ?_); try simp (maxSteps:=1000000)(dsimp:=false)(disch:=omega) only [go_sem, Φa, hP, h6_6, h6_7, h6_8, h6_9, h6_0, h6_5, hops])
            refine hK19 _ _ ?_
            try clear hK19 K19
            refine SX.cond_k fun X20 Y20 hX20 hY20 => ?_
            simp (maxSteps:=1000000)(dsimp:=false)(disch:=omega) only [go_sem, Φa, hP, h6_6, h6_7, h6_8, h6_9, h6_0, h6_5, condVC]
            refine ⟨fun hc65 => hX20 ?_, fun hc65 => hY20 ?_⟩
            · clear hX20 hY20 X20 Y20
              refine SX.skip ?_
              try simp only [andThen_normal, andThen_ret, andThen_exit, inBlk_normal, inBlk_ret, inBlk_exit, Nat.reduceEqDiff, if_true, if_false, ↓reduceIte]
              refine hK18 _ _ ?_
              try clear hK18 K18
              refine SX.seq_k fun K21 hK21 => ?_
              refine SX.block ?_
              refine SX.seq_k fun K22 hK22 => ?_
              have hsuc : (nP xs 4).toNat - k = ((nP xs 4).toNat - (k + 1)) + 1 := by omega
              refine SX.region_d [some 69, some 70, some 71, some 72, some 68, some 73, some 74, some 10, none, some 11] rfl (fun ops hops => ?_)
              unfold Dsts at hops
              simp (maxSteps:=1000000)(dsimp:=false)(disch:=omega) only [go_sem, Φa, hP, h6_6, h6_7, h6_8, h6_9, h6_0, h6_5, hops]
              refine SCall.mono (refRecord_spec (at_ := at_) (next := next) hP (SlI.mono (fun _ _ h => Cell.cons _ h) hb) hxl hby hnx hat) ?_
              rintro v_ L_ ⟨hv_, hL_⟩
              rw [hv_, hL_]
              clear hv_ hL_ v_ L_
              try with_reducible refine stI ?_
              try simp (maxSteps:=1000000)(dsimp:=false)(disch:=omega) only [go_sem, Φa, hP, h6_6, h6_7, h6_8, h6_9, h6_0, h6_5, hops]
              intro b10
              try with_reducible refine stI ?_
              try simp (maxSteps:=1000000)(dsimp:=false)(disch:=omega) only [go_sem, Φa, hP, h6_6, h6_7, h6_8, h6_9, h6_0, h6_5, hops]
              refine ⟨rfl, rfl, 0, _, _, _, rfl, Nat.le_refl 8, .inr (Nat.zero_le 0), ?_⟩
              try with_reducible refine stI ?_
              try simp (maxSteps:=1000000)(dsimp:=false)(disch:=omega) only [go_sem, Φa, hP, h6_6, h6_7, h6_8, h6_9, h6_0, h6_5, hops]
              rw [put_rc rfl]
              try with_reducible refine stI ?_
              try simp (maxSteps:=1000000)(dsimp:=false)(disch:=omega) only [go_sem, Φa, hP, h6_6, h6_7, h6_8, h6_9, h6_0, h6_5, hops]
              refine hK22 _ _ ?_
              try clear hK22 K22
              refine SX.live [0, 5, 6, 7, 9, 10, 11] (fun T7 hT7 => ?_)
              simp only [forall_mem_cons', forall_mem_nil', go_sem, Φa, hP, h6_6, h6_7, h6_8, h6_9, h6_0, h6_5] at hT7
              obtain ⟨h7_0, h7_5, h7_6, h7_7, h7_9, h7_10, h7_11⟩ := hT7
              clear h6_6 h6_7 h6_8 h6_9 h6_0 h6_5 T6
              refine SX.seq_k fun K23 hK23 => ?_
              refine SX.seq_k fun K24 hK24 => ?_
              refine SX.region_d [some 75, some 76] rfl (fun ops hops => ?_)
              unfold Dsts at hops
              simp (maxSteps:=1000000)(dsimp:=false)(disch:=omega) only [go_sem, Φa, hP, h7_0, h7_5, h7_6, h7_7, h7_9, h7_10, h7_11, hops]
              repeat' ((first | refine And.intro (by omega) ?_ | fail); try (with_reducible refine stI ?_); try simp (maxSteps:=1000000)(dsimp:=false)(disch:=omega) only [go_sem, Φa, hP, h7_0, h7_5, h7_6, h7_7, h7_9, h7_10, h7_11, hops])
              refine hK24 _ _ ?_
              try clear hK24 K24
              refine SX.cond_k fun X25 Y25 hX25 hY25 => ?_
              simp (maxSteps:=1000000)(dsimp:=false)(disch:=omega) only [go_sem, Φa, hP, h7_0, h7_5, h7_6, h7_7, h7_9, h7_10, h7_11, condVC]
              refine ⟨fun hc76 => hX25 ?_, fun hc76 => hY25 ?_⟩
              · clear hX25 hY25 X25 Y25
                have hz : (recD xs at_ next).2 = 0 := by omega
                have hrn := recD_zero hz
                refine SX.seq_k fun K26 hK26 => ?_
                refine SX.region_d [some 77, some 2, some 3, some 4] rfl (fun ops hops => ?_)
                unfold Dsts at hops
                simp (maxSteps:=1000000)(dsimp:=false)(disch:=omega) only [go_sem, Φa, hP, h7_0, h7_5, h7_6, h7_7, h7_9, h7_10, h7_11, hops]
                refine hK26 _ _ ?_
                try clear hK26 K26
                refine SX.ret ?_
                simp only [andThen_normal, andThen_ret, andThen_exit, inBlk_normal, inBlk_ret, inBlk_exit, Nat.reduceEqDiff, if_true, if_false, ↓reduceIte, retQ_ret]
                try simp only [res0, res1, res2, res3, stK_e, go_sem, Φa, hP, h7_0, h7_5, h7_6, h7_7, h7_9, h7_10, h7_11]
                have hu : unpP xs = _ := unp_bad hhd (by omega) (by rw [hrs, hsuc, recs_fail hrn])
                exact ⟨_, _, Less.drops (Less.drops (Less.none _)), rfl, .slice none 0 0, none, by rw [hu], rfl, by rw [hu]; exact RowL.nil _ _ _⟩
              · clear hX25 hY25 X25 Y25
                have hz : ¬ (recD xs at_ next).2 = 0 := by omega
                have hrx := recD_pos hz
                obtain ⟨oA, oC, rfl, _, _⟩ := Row.form hrow
                have hrp := recP_pos hrx
                refine SX.skip ?_
                try simp only [andThen_normal, andThen_ret, andThen_exit, inBlk_normal, inBlk_ret, inBlk_exit, Nat.reduceEqDiff, if_true, if_false, ↓reduceIte]
                refine hK23 _ _ ?_
                try clear hK23 K23
                refine SX.seq_k fun K27 hK27 => ?_
                refine SX.region_d [some 78, some 79, some 80, some 81, some 6] rfl (fun ops hops => ?_)
                unfold Dsts at hops
                simp (maxSteps:=1000000)(dsimp:=false)(disch:=omega) only [go_sem, Φa, hP, h7_0, h7_5, h7_6, h7_7, h7_9, h7_10, h7_11, hops]
                refine ⟨_, Cell.at 0 rfl (show (Rc.cells _)[0]? = _ from rfl), _, Cell.at 0 rfl (show (Rc.cells _)[1]? = _ from rfl), _, Cell.at 0 rfl (show (Rc.cells _)[2]? = _ from rfl), _, Cell.at 0 rfl (show (Rc.cells _)[3]? = _ from rfl), _, Cell.at 0 rfl (show (Rc.cells _)[4]? = _ from rfl), _, Cell.at 0 rfl (show (Rc.cells _)[5]? = _ from rfl), _, Cell.at 0 rfl (show (Rc.cells _)[6]? = _ from rfl), _, Cell.at 0 rfl (show (Rc.cells _)[7]? = _ from rfl), ?_⟩
                try with_reducible refine stI ?_
                try simp (maxSteps:=1000000)(dsimp:=false)(disch:=omega) only [go_sem, Φa, hP, h7_0, h7_5, h7_6, h7_7, h7_9, h7_10, h7_11, hops]
                intro g80
                try with_reducible refine stI ?_
                try simp (maxSteps:=1000000)(dsimp:=false)(disch:=omega) only [go_sem, Φa, hP, h7_0, h7_5, h7_6, h7_7, h7_9, h7_10, h7_11, hops]
                refine YAppend.rowL (f := Rc.cells) (x := (recD xs at_ next).1) (i := 1) (z := [.int .u8 0, .int .u16 0, .int .u8 0, .bool false, .bool false, .int .u8 0, .bool false, .int .u8 0]) (hP ▸ T.elS_23) (hP ▸ T.zr_46) rfl rfl rfl rfl hrow (by omega) (by decide) ?_
                intro v' s' hrow'
                obtain ⟨nA, nC, rfl, _, _⟩ := Row.form hrow'
                try with_reducible refine stI ?_
                try simp (maxSteps:=1000000)(dsimp:=false)(disch:=omega) only [go_sem, Φa, hP, h7_0, h7_5, h7_6, h7_7, h7_9, h7_10, h7_11, hops]
                refine hK27 _ _ ?_
                try clear hK27 K27
                refine SX.seq_k fun K28 hK28 => ?_
                refine SX.region_d [some 82, some 83, some 84, some 7] rfl (fun ops hops => ?_)
                unfold Dsts at hops
                simp (maxSteps:=1000000)(dsimp:=false)(disch:=omega) only [go_sem, Φa, hP, h7_0, h7_5, h7_6, h7_7, h7_9, h7_10, h7_11, hops]
                repeat' ((first | refine And.intro (by omega) ?_ | fail); try (with_reducible refine stI ?_); try simp (maxSteps:=1000000)(dsimp:=false)(disch:=omega) only [go_sem, Φa, hP, h7_0, h7_5, h7_6, h7_7, h7_9, h7_10, h7_11, hops])
                refine hK28 _ _ ?_
                try clear hK28 K28
                refine SX.live [0, 5, 6, 7, 9, 10] (fun T8 hT8 => ?_)
                simp only [forall_mem_cons', forall_mem_nil', go_sem, Φa, hP, h7_0, h7_5, h7_6, h7_7, h7_9, h7_10, h7_11] at hT8
                obtain ⟨h8_0, h8_5, h8_6, h8_7, h8_9, h8_10⟩ := hT8
                clear h7_0 h7_5 h7_6 h7_7 h7_9 h7_10 h7_11 T7
                refine SX.region_d [some 85, some 86, some 87, some 8] rfl (fun ops hops => ?_)
                unfold Dsts at hops
                simp (maxSteps:=1000000)(dsimp:=false)(disch:=omega) only [go_sem, Φa, hP, h8_0, h8_5, h8_6, h8_7, h8_9, h8_10, hops]
                refine ⟨_, Cell.at 1 rfl (show (Rc.cells _)[1]? = _ from rfl), ?_⟩
                try with_reducible refine stI ?_
                try simp (maxSteps:=1000000)(dsimp:=false)(disch:=omega) only [go_sem, Φa, hP, h8_0, h8_5, h8_6, h8_7, h8_9, h8_10, hops]
                refine hK21 _ _ ?_
                try clear hK21 K21
                refine SX.region_d [some 66, some 67, some 9] rfl (fun ops hops => ?_)
                unfold Dsts at hops
                simp (maxSteps:=1000000)(dsimp:=false)(disch:=omega) only [go_sem, Φa, hP, h8_0, h8_5, h8_6, h8_7, h8_9, h8_10, hops]
                repeat' ((first | refine And.intro (by omega) ?_ | fail); try (with_reducible refine stI ?_); try simp (maxSteps:=1000000)(dsimp:=false)(disch:=omega) only [go_sem, Φa, hP, h8_0, h8_5, h8_6, h8_7, h8_9, h8_10, hops])
                refine hK17 (k + 1, at_ + (recD xs at_ next).2, IntKind.u16.wrap ((recD xs at_ next).1.ad + 1), l ++ [(recD xs at_ next).1], .slice nA (l ++ [(recD xs at_ next).1]).length nC, s') _ (s' :: L) _ (by first | exact Less.refl _ | exact Less.drop _ _ | exact Less.drops (Less.drop _ _) | exact Less.drops (Less.drops (Less.drop _ _)) | exact Less.drops (Less.drops (Less.drops (Less.drop _ _))) | exact Less.drops (Less.drops (Less.drops (Less.drops (Less.drop _ _))))) ?_ ?_
                · try dsimp only
                  refine ⟨?_, ?_, ?_, ?_, ?_, ?_, ?_, ?_⟩
                  · simp (maxSteps:=1000000)(dsimp:=false)(disch:=omega) only [go_sem, Φa, hP, h8_0, h8_5, h8_6, h8_7, h8_9, h8_10]
                    first | done | rfl | skip
                  · simp (maxSteps:=1000000)(dsimp:=false)(disch:=omega) only [go_sem, Φa, hP, h8_0, h8_5, h8_6, h8_7, h8_9, h8_10]
                    first | done | rfl | skip
                  · simp (maxSteps:=1000000)(dsimp:=false)(disch:=omega) only [go_sem, Φa, hP, h8_0, h8_5, h8_6, h8_7, h8_9, h8_10]
                    first | done | rfl | skip
                  · simp (maxSteps:=1000000)(dsimp:=false)(disch:=omega) only [go_sem, Φa, hP, h8_0, h8_5, h8_6, h8_7, h8_9, h8_10]
                    first | done | rfl | skip
                  · simp (maxSteps:=1000000)(dsimp:=false)(disch:=omega) only [go_sem, Φa, hP, h8_0, h8_5, h8_6, h8_7, h8_9, h8_10]
                  · simp (maxSteps:=1000000)(dsimp:=false)(disch:=omega) only [go_sem, Φa, hP, h8_0, h8_5, h8_6, h8_7, h8_9, h8_10]
                  · rfl
                  · refine ⟨by omega, (recP_pos hrx).2, ?_, ?_, by rw [List.length_append, hll]; rfl, hrow'⟩
                    · rw [IntKind.wrap_u16]; omega
                    · rw [hrs, hsuc, recs_step hrx]
                · (try dsimp only); omega
            · clear hX20 hY20 X20 Y20
              refine SX.exit ?_
              try simp only [andThen_normal, andThen_ret, andThen_exit, inBlk_normal, inBlk_ret, inBlk_exit, Nat.reduceEqDiff, if_true, if_false, ↓reduceIte]
              refine hK15 _ _ ?_
              try clear hK15 K15
              refine SX.seq_k fun K29 hK29 => ?_
              refine SX.seq_k fun K30 hK30 => ?_
              have hkn : k = (nP xs 4).toNat := by omega
              have hfin : recsP xs (nP xs 4).toNat 8 0 = .good l at_ := by
                rw [hrs, hkn, Nat.sub_self]; show Rd.good (l ++ []) at_ = _; rw [List.append_nil]
              refine SX.region_d [some 88, some 89, some 90, some 91] rfl (fun ops hops => ?_)
              unfold Dsts at hops
              simp (maxSteps:=1000000)(dsimp:=false)(disch:=omega) only [go_sem, Φa, hP, h6_6, h6_7, h6_8, h6_9, h6_0, h6_5, hops]
              repeat' ((first | refine And.intro (by omega) ?_ | fail); try (with_reducible refine stI ?_); try simp (maxSteps:=1000000)(dsimp:=false)(disch:=omega) only [go_sem, Φa, hP, h6_6, h6_7, h6_8, h6_9, h6_0, h6_5, hops])
              refine hK30 _ _ ?_
              try clear hK30 K30
              refine SX.cond_k fun X31 Y31 hX31 hY31 => ?_
              simp (maxSteps:=1000000)(dsimp:=false)(disch:=omega) only [go_sem, Φa, hP, h6_6, h6_7, h6_8, h6_9, h6_0, h6_5, condVC]
              refine ⟨fun hc91 => hX31 ?_, fun hc91 => hY31 ?_⟩
              · clear hX31 hY31 X31 Y31
                refine SX.seq_k fun K32 hK32 => ?_
                refine SX.region_d [some 92, some 2, some 3, some 4] rfl (fun ops hops => ?_)
                unfold Dsts at hops
                simp (maxSteps:=1000000)(dsimp:=false)(disch:=omega) only [go_sem, Φa, hP, h6_6, h6_7, h6_8, h6_9, h6_0, h6_5, hops]
                refine hK32 _ _ ?_
                try clear hK32 K32
                refine SX.ret ?_
                simp only [andThen_normal, andThen_ret, andThen_exit, inBlk_normal, inBlk_ret, inBlk_exit, Nat.reduceEqDiff, if_true, if_false, ↓reduceIte, retQ_ret]
                try simp only [res0, res1, res2, res3, stK_e, go_sem, Φa, hP, h6_6, h6_7, h6_8, h6_9, h6_0, h6_5]
                have hu : unpP xs = _ := unp_more hhd (by omega) hfin (by omega)
                exact ⟨_, _, Less.drops (Less.none _), rfl, .slice none 0 0, none, by rw [hu], rfl, by rw [hu]; exact RowL.nil _ _ _⟩
              · clear hX31 hY31 X31 Y31
                refine SX.skip ?_
                try simp only [andThen_normal, andThen_ret, andThen_exit, inBlk_normal, inBlk_ret, inBlk_exit, Nat.reduceEqDiff, if_true, if_false, ↓reduceIte]
                refine hK29 _ _ ?_
                try clear hK29 K29
                refine SX.seq_k fun K33 hK33 => ?_
                refine SX.region_d [some 93, some 2, some 3, some 4] rfl (fun ops hops => ?_)
                unfold Dsts at hops
                simp (maxSteps:=1000000)(dsimp:=false)(disch:=omega) only [go_sem, Φa, hP, h6_6, h6_7, h6_8, h6_9, h6_0, h6_5, hops]
                refine hK33 _ _ ?_
                try clear hK33 K33
                refine SX.ret ?_
                simp only [andThen_normal, andThen_ret, andThen_exit, inBlk_normal, inBlk_ret, inBlk_exit, Nat.reduceEqDiff, if_true, if_false, ↓reduceIte, retQ_ret]
                try simp only [res0, res1, res2, res3, stK_e, go_sem, Φa, hP, h6_6, h6_7, h6_8, h6_9, h6_0, h6_5]
                have hu := unp_ok hhd (by omega) hfin (by omega)
                exact ⟨_, _, Less.refl _, rfl, vo, so, by rw [hu], rfl, by rw [hu]; exact hrow⟩

end Go.Proofs.YtcenlgofldnfcaaDoor
set_option linter.unusedVariables false
set_option linter.unusedSimpArgs false
namespace Go.Proofs.YtcenlgofldnfcaaDoor
open Go.RowKit Go.SX Go.Proofs
open Go.SX renaming ia_someH → Φa

/-! What is told is nobody else's. -/
theorem lessOwn {a b c : Slot} {L : Hp} : Less (a :: b :: c :: L) (a :: c :: b :: none :: L) :=
  (Less.none _).trans (Less.perm ((List.Perm.swap _ _ _).trans (.cons _ ((List.Perm.cons _ (List.Perm.swap _ _ _)).trans ((List.Perm.swap _ _ _).trans (.cons _ (List.Perm.swap _ _ _)))))))
set_option maxHeartbeats 1000000 in
set_option maxRecDepth 100000 in
theorem own_spec {Γ : Ctx} (hP : Γ.P = Tryd.prog) {L : Hp} {w : List Rc} {va vb vu : Value} {sa sb su : Slot} (hra : RowL Rc.cells 46 8 va w sa) (hrb : RowL Rc.cells 46 8 vb w sb) (hru : RowL Rc.cells 46 8 vu w su) (how : ∀ r ∈ w, OkR r) (hwl : w.length ≤ 5000000) :
    SCall Γ 20 #[va, vb, vu] (su :: sb :: sa :: L) (fun v L' => v = .bool true ∧ L' = L) := by
  obtain ⟨A1, k1, rfl, hk1, -⟩ := Row.form hra
  obtain ⟨A2, k2, rfl, hk2, -⟩ := Row.form hrb
  obtain ⟨A3, k3, rfl, hk3, -⟩ := Row.form hru
  refine SCall.enter (n := 80) (res1 6) (hP ▸ Tryd.func20) rfl rfl (by simp) (res1_ok rfl) ?_
  refine SX.seq_k fun K1 hK1 => ?_
  refine SX.region_d [some 6] rfl (fun ops hops => ?_)
  unfold Dsts at hops
  simp (maxSteps:=1000000)(dsimp:=false)(disch:=omega) only [go_sem, Φa, hP, hops]
  refine hK1 _ _ ?_
  try clear hK1 K1
  refine SX.seq_k fun K2 hK2 => ?_
  refine SX.seq_k fun K3 hK3 => ?_
  refine SX.less (L' := su :: sa :: sb :: none :: L) lessOwn ?_
  refine SX.region_d [some 13, some 14, some 15, some 16, some 17, some 18, some 19, some 20, some 21, some 22] rfl (fun ops hops => ?_)
  unfold Dsts at hops
  simp (maxSteps:=1000000)(dsimp:=false)(disch:=omega) only [go_sem, Φa, hP, hops]
  (refine SCall.mono (same_spec (a := w) (b := w) hP (RowL.sl (L := su :: sa :: sb :: none :: L) (i := 1) Rc.len hra rfl) (RowL.sl (L := su :: sa :: sb :: none :: L) (i := 0) Rc.len hru rfl) how how (by omega) (by omega)) ?_; rintro v_ L_ ⟨hv_, hL_⟩; rw [hv_, hL_, decide_eq_true rfl]; clear hv_ hL_ v_ L_)
  try with_reducible refine stI ?_
  try simp (maxSteps:=1000000)(dsimp:=false)(disch:=omega) only [go_sem, Φa, hP, hops]
  (refine SCall.mono (same_spec (a := w) (b := w) hP (RowL.sl (L := su :: sa :: sb :: none :: L) (i := 2) Rc.len hrb rfl) (RowL.sl (L := su :: sa :: sb :: none :: L) (i := 0) Rc.len hru rfl) how how (by omega) (by omega)) ?_; rintro v_ L_ ⟨hv_, hL_⟩; rw [hv_, hL_, decide_eq_true rfl]; clear hv_ hL_ v_ L_)
  try with_reducible refine stI ?_
  try simp (maxSteps:=1000000)(dsimp:=false)(disch:=omega) only [go_sem, Φa, hP, hops]
  refine hK3 _ _ ?_
  try clear hK3 K3
  refine SX.live [0, 1, 2, 22] (fun T1 hT1 => ?_)
  simp only [forall_mem_cons', forall_mem_nil', go_sem, Φa, hP] at hT1
  obtain ⟨h1_0, h1_1, h1_2, h1_22⟩ := hT1
  refine SX.cond_k fun X4 Y4 hX4 hY4 => ?_
  simp (maxSteps:=1000000)(dsimp:=false)(disch:=omega) only [go_sem, Φa, hP, h1_0, h1_1, h1_2, h1_22, condVC]
  refine hY4 ?_
  clear hX4 hY4 X4 Y4
  refine SX.skip ?_
  try simp only [andThen_normal, andThen_ret, andThen_exit, inBlk_normal, inBlk_ret, inBlk_exit, Nat.reduceEqDiff, if_true, if_false, ↓reduceIte]
  refine hK2 _ _ ?_
  try clear hK2 K2
  refine SX.seq_k fun K5 hK5 => ?_
  refine SX.seq_k fun K6 hK6 => ?_
  refine SX.region_d [some 7] rfl (fun ops hops => ?_)
  unfold Dsts at hops
  simp (maxSteps:=1000000)(dsimp:=false)(disch:=omega) only [go_sem, Φa, hP, h1_0, h1_1, h1_2, h1_22, hops]
  refine hK6 _ _ ?_
  try clear hK6 K6
  refine SX.block ?_
  refine SX.live [0, 1, 2, 7] (fun T2 hT2 => ?_)
  simp only [forall_mem_cons', forall_mem_nil', go_sem, Φa, hP, h1_0, h1_1, h1_2, h1_22] at hT2
  obtain ⟨h2_0, h2_1, h2_2, h2_7⟩ := hT2
  clear h1_0 h1_1 h1_2 h1_22 T1
  refine SX.loop_k (fun (ss : (Nat) × (List Rc) × (Slot)) T L' => (fun (i : Nat) (l1 : List Rc) (s1 : Slot) => T 7 = .int .i64 (i : Int) ∧ T 0 = T2 0 ∧ T 1 = T2 1 ∧ T 2 = T2 2 ∧ L' = su :: s1 :: sb :: none :: L ∧ (i ≤ w.length ∧ RowL Rc.cells 46 8 (.slice A1 w.length k1) (l1) s1 ∧ l1.length = w.length)) (ss.1) (ss.2.1) (ss.2.2)) (fun (ss : (Nat) × (List Rc) × (Slot)) => (fun (i : Nat) (l1 : List Rc) (s1 : Slot) => w.length - i) (ss.1) (ss.2.1) (ss.2.2)) (0, w, sa) ?_ ?_
  · try dsimp only
    refine ⟨?_, ?_, ?_, ?_, ?_, ?_⟩
    · first | exact h2_7 | (rw [h2_7]; rfl) | (rw [h2_7]; simp; done)
    · rfl
    · rfl
    · rfl
    · rfl
    · exact ⟨Nat.zero_le _, hra, rfl⟩
  · intro ss T3 L3 hI K7 hK7
    obtain ⟨i, l1, s1⟩ := ss
    try dsimp only at hI hK7
    simp only [h2_0, h2_1, h2_2] at hI hK7
    obtain ⟨h3_7, h3_0, h3_1, h3_2, hL3, ⟨hi, hr1, hl1⟩⟩ := hI
    replace hL3 := hL3.symm
    subst hL3
    clear h2_0 h2_1 h2_2 h2_7 T2
    refine SX.seq_k fun K8 hK8 => ?_
    refine SX.seq_k fun K9 hK9 => ?_
    refine SX.region_d [some 23, some 24, some 25, some 26] rfl (fun ops hops => ?_)
    unfold Dsts at hops
    simp (maxSteps:=1000000)(dsimp:=false)(disch:=omega) only [go_sem, Φa, hP, h3_7, h3_0, h3_1, h3_2, hops]
    repeat' ((first | refine And.intro (by omega) ?_ | fail); try (with_reducible refine stI ?_); try simp (maxSteps:=1000000)(dsimp:=false)(disch:=omega) only [go_sem, Φa, hP, h3_7, h3_0, h3_1, h3_2, hops])
    refine hK9 _ _ ?_
    try clear hK9 K9
    refine SX.cond_k fun X10 Y10 hX10 hY10 => ?_
    simp (maxSteps:=1000000)(dsimp:=false)(disch:=omega) only [go_sem, Φa, hP, h3_7, h3_0, h3_1, h3_2, condVC]
    refine ⟨fun hc26 => hX10 ?_, fun hc26 => hY10 ?_⟩
    · clear hX10 hY10 X10 Y10
      refine SX.skip ?_
      try simp only [andThen_normal, andThen_ret, andThen_exit, inBlk_normal, inBlk_ret, inBlk_exit, Nat.reduceEqDiff, if_true, if_false, ↓reduceIte]
      refine hK8 _ _ ?_
      try clear hK8 K8
      refine SX.seq_k fun K11 hK11 => ?_
      refine SX.block ?_
      have hil : i < l1.length := by omega
      obtain ⟨g, cap, junk, hv_, rfl, hcap, hjl⟩ := RowL.form hr1 (by omega)
      simp only [Value.slice.injEq] at hv_
      obtain ⟨hA1_, hln_, hk1_⟩ := hv_
      have hset := setN_flat (f := Rc.cells) (sz := 8) (junk := junk) (o := 0) (y := rK 79) (vs := (rK 79).cells) Rc.len (getD_get (d := default) hil) (put_rc rfl) (Nat.le_refl 8)
      rw [Nat.add_zero] at hset
      simp only [rK, Rc.cells, setN] at hset
      have hfl := flat_len Rc.len l1
      refine SX.region_d [some 29, some 30, some 31, some 32, none] rfl (fun ops hops => ?_)
      unfold Dsts at hops
      simp (maxSteps:=1000000)(dsimp:=false)(disch:=omega) only [go_sem, Φa, hP, h3_7, h3_0, h3_1, h3_2, hops, hA1_]
      refine ⟨1, _, _, _, rfl, (by rw [List.length_append, hfl]; show i * 8 + 8 ≤ _; omega), .inr (Nat.zero_le _), ?_⟩
      try with_reducible refine stI ?_
      try simp (maxSteps:=1000000)(dsimp:=false)(disch:=omega) only [go_sem, Φa, hP, h3_7, h3_0, h3_1, h3_2, hops, hA1_]
      rw [hset]
      refine hK11 _ _ ?_
      try clear hK11 K11
      refine SX.region_d [some 27, some 28, some 7] rfl (fun ops hops => ?_)
      unfold Dsts at hops
      simp (maxSteps:=1000000)(dsimp:=false)(disch:=omega) only [go_sem, Φa, hP, h3_7, h3_0, h3_1, h3_2, hops]
      repeat' ((first | refine And.intro (by omega) ?_ | fail); try (with_reducible refine stI ?_); try simp (maxSteps:=1000000)(dsimp:=false)(disch:=omega) only [go_sem, Φa, hP, h3_7, h3_0, h3_1, h3_2, hops])
      refine hK7 (i + 1, l1.set i (rK 79), some (g, .cells ((l1.set i (rK 79)).flatMap Rc.cells ++ junk).toArray 46 (0, 0))) _ (su :: (some (g, .cells ((l1.set i (rK 79)).flatMap Rc.cells ++ junk).toArray 46 (0, 0))) :: sb :: none :: L) _ (by first | exact Less.refl _ | exact Less.drop _ _ | exact Less.drops (Less.drop _ _) | exact Less.drops (Less.drops (Less.drop _ _)) | exact Less.drops (Less.drops (Less.drops (Less.drop _ _))) | exact Less.drops (Less.drops (Less.drops (Less.drops (Less.drop _ _))))) ?_ ?_
      · try dsimp only
        refine ⟨?_, ?_, ?_, ?_, ?_, ?_⟩
        · simp (maxSteps:=1000000)(dsimp:=false)(disch:=omega) only [go_sem, Φa, hP, h3_7, h3_0, h3_1, h3_2]
          first | done | rfl | skip
        · simp (maxSteps:=1000000)(dsimp:=false)(disch:=omega) only [go_sem, Φa, hP, h3_7, h3_0, h3_1, h3_2]
        · simp (maxSteps:=1000000)(dsimp:=false)(disch:=omega) only [go_sem, Φa, hP, h3_7, h3_0, h3_1, h3_2]
        · simp (maxSteps:=1000000)(dsimp:=false)(disch:=omega) only [go_sem, Φa, hP, h3_7, h3_0, h3_1, h3_2]
        · rfl
        · have hmk := RowL.mk (e := 46) (g := g) (cap := cap) (junk := junk) (l := l1.set i (rK 79)) Rc.len (by rw [List.length_set]; exact hcap) (by rw [List.length_append, flat_len Rc.len, List.length_set, ← flat_len Rc.len, ← List.length_append]; exact hjl)
          rw [List.length_set, hl1, ← hA1_, ← hk1_] at hmk
          exact ⟨by omega, hmk, by rw [List.length_set]; exact hl1⟩
      · (try dsimp only); omega
    · clear hX10 hY10 X10 Y10
      refine SX.exit ?_
      try simp only [andThen_normal, andThen_ret, andThen_exit, inBlk_normal, inBlk_ret, inBlk_exit, Nat.reduceEqDiff, if_true, if_false, ↓reduceIte]
      refine hK5 _ _ ?_
      try clear hK5 K5
      refine SX.seq_k fun K12 hK12 => ?_
      refine SX.region_d [some 33, some 8] rfl (fun ops hops => ?_)
      unfold Dsts at hops
      simp (maxSteps:=1000000)(dsimp:=false)(disch:=omega) only [go_sem, Φa, hP, h3_7, h3_0, h3_1, h3_2, hops]
      refine hK12 _ _ ?_
      try clear hK12 K12
      refine SX.seq_k fun K13 hK13 => ?_
      refine SX.seq_k fun K14 hK14 => ?_
      refine SX.region_d [some 9] rfl (fun ops hops => ?_)
      unfold Dsts at hops
      simp (maxSteps:=1000000)(dsimp:=false)(disch:=omega) only [go_sem, Φa, hP, h3_7, h3_0, h3_1, h3_2, hops]
      refine hK14 _ _ ?_
      try clear hK14 K14
      refine SX.block ?_
      refine SX.live [1, 2, 8, 9] (fun T4 hT4 => ?_)
      simp only [forall_mem_cons', forall_mem_nil', go_sem, Φa, hP, h3_7, h3_0, h3_1, h3_2] at hT4
      obtain ⟨h4_1, h4_2, h4_8, h4_9⟩ := hT4
      clear h3_7 h3_0 h3_1 h3_2 T3
      refine SX.loop_k (fun (ss : (Nat) × (Value) × (Slot)) T L' => (fun (jx : Nat) (vx : Value) (sx : Slot) => T 8 = vx ∧ T 9 = .int .i64 (jx : Int) ∧ T 1 = T4 1 ∧ T 2 = T4 2 ∧ L' = su :: sx :: sb :: none :: L ∧ (jx ≤ 30 ∧ RowL Rc.cells 46 8 vx (l1 ++ List.replicate jx (rK 80)) sx)) (ss.1) (ss.2.1) (ss.2.2)) (fun (ss : (Nat) × (Value) × (Slot)) => (fun (jx : Nat) (vx : Value) (sx : Slot) => 30 - jx) (ss.1) (ss.2.1) (ss.2.2)) (0, .slice A1 w.length k1, s1) ?_ ?_
      · try dsimp only
        refine ⟨?_, ?_, ?_, ?_, ?_, ?_⟩
        · first | exact h4_8 | (rw [h4_8]; rfl) | (rw [h4_8]; simp; done)
        · first | exact h4_9 | (rw [h4_9]; rfl) | (rw [h4_9]; simp; done)
        · rfl
        · rfl
        · rfl
        · refine ⟨Nat.zero_le _, ?_⟩
          rw [List.replicate_zero, List.append_nil, ← hl1]
          rw [← hl1] at hr1
          exact hr1
      · intro ss T5 L5 hI K15 hK15
        obtain ⟨jx, vx, sx⟩ := ss
        try dsimp only at hI hK15
        simp only [h4_1, h4_2] at hI hK15
        obtain ⟨h5_8, h5_9, h5_1, h5_2, hL5, ⟨hj, hrx⟩⟩ := hI
        replace hL5 := hL5.symm
        subst hL5
        clear h4_1 h4_2 h4_8 h4_9 T4
        refine SX.seq_k fun K16 hK16 => ?_
        refine SX.seq_k fun K17 hK17 => ?_
        refine SX.region_d [some 34, some 35] rfl (fun ops hops => ?_)
        unfold Dsts at hops
        simp (maxSteps:=1000000)(dsimp:=false)(disch:=omega) only [go_sem, Φa, hP, h5_8, h5_9, h5_1, h5_2, hops]
        repeat' ((first | refine And.intro (by omega) ?_ | fail); try (with_reducible refine stI ?_); try simp (maxSteps:=1000000)(dsimp:=false)(disch:=omega) only [go_sem, Φa, hP, h5_8, h5_9, h5_1, h5_2, hops])
        refine hK17 _ _ ?_
        try clear hK17 K17
        refine SX.cond_k fun X18 Y18 hX18 hY18 => ?_
        simp (maxSteps:=1000000)(dsimp:=false)(disch:=omega) only [go_sem, Φa, hP, h5_8, h5_9, h5_1, h5_2, condVC]
        refine ⟨fun hc35 => hX18 ?_, fun hc35 => hY18 ?_⟩
        · clear hX18 hY18 X18 Y18
          refine SX.skip ?_
          try simp only [andThen_normal, andThen_ret, andThen_exit, inBlk_normal, inBlk_ret, inBlk_exit, Nat.reduceEqDiff, if_true, if_false, ↓reduceIte]
          refine hK16 _ _ ?_
          try clear hK16 K16
          refine SX.seq_k fun K19 hK19 => ?_
          refine SX.block ?_
          refine SX.region_d [some 38, some 39, some 40, some 41, some 8] rfl (fun ops hops => ?_)
          unfold Dsts at hops
          simp (maxSteps:=1000000)(dsimp:=false)(disch:=omega) only [go_sem, Φa, hP, h5_8, h5_9, h5_1, h5_2, hops]
          intro b1
          try with_reducible refine stI ?_
          try simp (maxSteps:=1000000)(dsimp:=false)(disch:=omega) only [go_sem, Φa, hP, h5_8, h5_9, h5_1, h5_2, hops]
          refine YAppend.rowL (z := [.int .u8 0, .int .u16 0, .int .u8 0, .bool false, .bool false, .int .u8 0, .bool false, .int .u8 0]) (f := Rc.cells) (x := rK 80) (i := 1) (hP ▸ T.elS_23) (hP ▸ T.zr_46) rfl rfl rfl rfl hrx (by rw [List.length_append, List.length_replicate]; omega) (by decide) (fun vx2 sx2 hrx2 => ?_)
          try with_reducible refine stI ?_
          try simp (maxSteps:=1000000)(dsimp:=false)(disch:=omega) only [go_sem, Φa, hP, h5_8, h5_9, h5_1, h5_2, hops]
          refine hK19 _ _ ?_
          try clear hK19 K19
          refine SX.region_d [some 36, some 37, some 9] rfl (fun ops hops => ?_)
          unfold Dsts at hops
          simp (maxSteps:=1000000)(dsimp:=false)(disch:=omega) only [go_sem, Φa, hP, h5_8, h5_9, h5_1, h5_2, hops]
          repeat' ((first | refine And.intro (by omega) ?_ | fail); try (with_reducible refine stI ?_); try simp (maxSteps:=1000000)(dsimp:=false)(disch:=omega) only [go_sem, Φa, hP, h5_8, h5_9, h5_1, h5_2, hops])
          refine hK15 (jx + 1, vx2, sx2) _ (su :: sx2 :: sb :: none :: L) _ (by first | exact Less.refl _ | exact Less.drop _ _ | exact Less.drops (Less.drop _ _) | exact Less.drops (Less.drops (Less.drop _ _)) | exact Less.drops (Less.drops (Less.drops (Less.drop _ _))) | exact Less.drops (Less.drops (Less.drops (Less.drops (Less.drop _ _))))) ?_ ?_
          · try dsimp only
            refine ⟨?_, ?_, ?_, ?_, ?_, ?_⟩
            · simp (maxSteps:=1000000)(dsimp:=false)(disch:=omega) only [go_sem, Φa, hP, h5_8, h5_9, h5_1, h5_2]
              first | done | rfl | skip
            · simp (maxSteps:=1000000)(dsimp:=false)(disch:=omega) only [go_sem, Φa, hP, h5_8, h5_9, h5_1, h5_2]
              first | done | rfl | skip
            · simp (maxSteps:=1000000)(dsimp:=false)(disch:=omega) only [go_sem, Φa, hP, h5_8, h5_9, h5_1, h5_2]
            · simp (maxSteps:=1000000)(dsimp:=false)(disch:=omega) only [go_sem, Φa, hP, h5_8, h5_9, h5_1, h5_2]
            · rfl
            · refine ⟨by omega, ?_⟩
              rw [show List.replicate (jx + 1) (rK 80) = List.replicate jx (rK 80) ++ [(rK 80)] from List.replicate_succ']
              rw [← List.append_assoc]
              exact hrx2
          · (try dsimp only); omega
        · clear hX18 hY18 X18 Y18
          refine SX.exit ?_
          try simp only [andThen_normal, andThen_ret, andThen_exit, inBlk_normal, inBlk_ret, inBlk_exit, Nat.reduceEqDiff, if_true, if_false, ↓reduceIte]
          refine hK13 _ _ ?_
          try clear hK13 K13
          refine SX.seq_k fun K20 hK20 => ?_
          refine SX.seq_k fun K21 hK21 => ?_
          refine SX.region_d [some 42, some 43, some 44, some 45] rfl (fun ops hops => ?_)
          unfold Dsts at hops
          simp (maxSteps:=1000000)(dsimp:=false)(disch:=omega) only [go_sem, Φa, hP, h5_8, h5_9, h5_1, h5_2, hops]
          (refine SCall.mono (same_spec (a := w) (b := w) hP (RowL.sl (L := su :: sx :: sb :: none :: L) (i := 2) Rc.len hrb rfl) (RowL.sl (L := su :: sx :: sb :: none :: L) (i := 0) Rc.len hru rfl) how how (by omega) (by omega)) ?_; rintro v_ L_ ⟨hv_, hL_⟩; rw [hv_, hL_, decide_eq_true rfl]; clear hv_ hL_ v_ L_)
          try with_reducible refine stI ?_
          try simp (maxSteps:=1000000)(dsimp:=false)(disch:=omega) only [go_sem, Φa, hP, h5_8, h5_9, h5_1, h5_2, hops]
          refine hK21 _ _ ?_
          try clear hK21 K21
          refine SX.cond_k fun X22 Y22 hX22 hY22 => ?_
          simp (maxSteps:=1000000)(dsimp:=false)(disch:=omega) only [go_sem, Φa, hP, h5_8, h5_9, h5_1, h5_2, condVC]
          refine hY22 ?_
          clear hX22 hY22 X22 Y22
          refine SX.skip ?_
          try simp only [andThen_normal, andThen_ret, andThen_exit, inBlk_normal, inBlk_ret, inBlk_exit, Nat.reduceEqDiff, if_true, if_false, ↓reduceIte]
          refine hK20 _ _ ?_
          try clear hK20 K20
          refine SX.seq_k fun K23 hK23 => ?_
          refine SX.region_d [some 46, some 10] rfl (fun ops hops => ?_)
          unfold Dsts at hops
          simp (maxSteps:=1000000)(dsimp:=false)(disch:=omega) only [go_sem, Φa, hP, h5_8, h5_9, h5_1, h5_2, hops]
          refine hK23 _ _ ?_
          try clear hK23 K23
          refine SX.seq_k fun K24 hK24 => ?_
          refine SX.seq_k fun K25 hK25 => ?_
          refine SX.region_d [some 11] rfl (fun ops hops => ?_)
          unfold Dsts at hops
          simp (maxSteps:=1000000)(dsimp:=false)(disch:=omega) only [go_sem, Φa, hP, h5_8, h5_9, h5_1, h5_2, hops]
          refine hK25 _ _ ?_
          try clear hK25 K25
          refine SX.live [1, 2, 8, 10, 11] (fun T6 hT6 => ?_)
          simp only [forall_mem_cons', forall_mem_nil', go_sem, Φa, hP, h5_8, h5_9, h5_1, h5_2] at hT6
          obtain ⟨h6_1, h6_2, h6_8, h6_10, h6_11⟩ := hT6
          clear h5_8 h5_9 h5_1 h5_2 T5
          refine SX.block ?_
          refine SX.live [1, 2, 8, 10, 11] (fun T7 hT7 => ?_)
          simp only [forall_mem_cons', forall_mem_nil', go_sem, Φa, hP, h6_1, h6_2, h6_8, h6_10, h6_11] at hT7
          obtain ⟨h7_1, h7_2, h7_8, h7_10, h7_11⟩ := hT7
          clear h6_1 h6_2 h6_8 h6_10 h6_11 T6
          refine SX.loop_k (fun (ss : (Nat) × (Value) × (Slot) × (Slot)) T L' => (fun (jy : Nat) (vy : Value) (sy : Slot) (t : Slot) => T 10 = vy ∧ T 11 = .int .i64 (jy : Int) ∧ T 1 = T7 1 ∧ T 2 = T7 2 ∧ T 8 = T7 8 ∧ L' = su :: sx :: sy :: t :: L ∧ (jy ≤ 30 ∧ RowL Rc.cells 46 8 vy (w ++ List.replicate jy (rK 81)) sy ∧ View Rc.cells 46 (.slice A2 w.length k2) w vy t (w ++ List.replicate jy (rK 81)).length ((w ++ List.replicate jy (rK 81)).flatMap Rc.cells))) (ss.1) (ss.2.1) (ss.2.2.1) (ss.2.2.2)) (fun (ss : (Nat) × (Value) × (Slot) × (Slot)) => (fun (jy : Nat) (vy : Value) (sy : Slot) (t : Slot) => 30 - jy) (ss.1) (ss.2.1) (ss.2.2.1) (ss.2.2.2)) (0, .slice A2 w.length k2, sb, none) ?_ ?_
          · try dsimp only
            refine ⟨?_, ?_, ?_, ?_, ?_, ?_, ?_⟩
            · first | exact h7_10 | (rw [h7_10]; rfl) | (rw [h7_10]; simp; done)
            · first | exact h7_11 | (rw [h7_11]; rfl) | (rw [h7_11]; simp; done)
            · rfl
            · rfl
            · rfl
            · rfl
            · refine ⟨Nat.zero_le _, ?_, ?_⟩
              · rw [List.replicate_zero, List.append_nil]; exact hrb
              · rw [List.replicate_zero, List.append_nil]; exact View.self hrb
          · intro ss T8 L8 hI K26 hK26
            obtain ⟨jy, vy, sy, t⟩ := ss
            try dsimp only at hI hK26
            simp only [h7_1, h7_2, h7_8] at hI hK26
            obtain ⟨h8_10, h8_11, h8_1, h8_2, h8_8, hL8, ⟨hj2, hry, hV⟩⟩ := hI
            replace hL8 := hL8.symm
            subst hL8
            clear h7_1 h7_2 h7_8 h7_10 h7_11 T7
            refine SX.seq_k fun K27 hK27 => ?_
            refine SX.seq_k fun K28 hK28 => ?_
            refine SX.region_d [some 47, some 48] rfl (fun ops hops => ?_)
            unfold Dsts at hops
            simp (maxSteps:=1000000)(dsimp:=false)(disch:=omega) only [go_sem, Φa, hP, h8_10, h8_11, h8_1, h8_2, h8_8, hops]
            repeat' ((first | refine And.intro (by omega) ?_ | fail); try (with_reducible refine stI ?_); try simp (maxSteps:=1000000)(dsimp:=false)(disch:=omega) only [go_sem, Φa, hP, h8_10, h8_11, h8_1, h8_2, h8_8, hops])
            refine hK28 _ _ ?_
            try clear hK28 K28
            refine SX.cond_k fun X29 Y29 hX29 hY29 => ?_
            simp (maxSteps:=1000000)(dsimp:=false)(disch:=omega) only [go_sem, Φa, hP, h8_10, h8_11, h8_1, h8_2, h8_8, condVC]
            refine ⟨fun hc48 => hX29 ?_, fun hc48 => hY29 ?_⟩
            · clear hX29 hY29 X29 Y29
              refine SX.skip ?_
              try simp only [andThen_normal, andThen_ret, andThen_exit, inBlk_normal, inBlk_ret, inBlk_exit, Nat.reduceEqDiff, if_true, if_false, ↓reduceIte]
              refine hK27 _ _ ?_
              try clear hK27 K27
              refine SX.seq_k fun K30 hK30 => ?_
              refine SX.block ?_
              refine SX.region_d [some 51, some 52, some 53, some 54, some 10] rfl (fun ops hops => ?_)
              unfold Dsts at hops
              simp (maxSteps:=1000000)(dsimp:=false)(disch:=omega) only [go_sem, Φa, hP, h8_10, h8_11, h8_1, h8_2, h8_8, hops]
              intro b2
              try with_reducible refine stI ?_
              try simp (maxSteps:=1000000)(dsimp:=false)(disch:=omega) only [go_sem, Φa, hP, h8_10, h8_11, h8_1, h8_2, h8_8, hops]
              refine YAppend.rowV1 (z := [.int .u8 0, .int .u16 0, .int .u8 0, .bool false, .bool false, .int .u8 0, .bool false, .int .u8 0]) (f := Rc.cells) (x := rK 81) (hP ▸ T.elS_23) (hP ▸ T.zr_46) rfl rfl rfl hry hV (by rw [List.length_append, List.length_replicate]; omega) (by decide) (fun vy2 sy2 t2 hry2 hV2 => ?_)
              try with_reducible refine stI ?_
              try simp (maxSteps:=1000000)(dsimp:=false)(disch:=omega) only [go_sem, Φa, hP, h8_10, h8_11, h8_1, h8_2, h8_8, hops]
              refine hK30 _ _ ?_
              try clear hK30 K30
              refine SX.region_d [some 49, some 50, some 11] rfl (fun ops hops => ?_)
              unfold Dsts at hops
              simp (maxSteps:=1000000)(dsimp:=false)(disch:=omega) only [go_sem, Φa, hP, h8_10, h8_11, h8_1, h8_2, h8_8, hops]
              repeat' ((first | refine And.intro (by omega) ?_ | fail); try (with_reducible refine stI ?_); try simp (maxSteps:=1000000)(dsimp:=false)(disch:=omega) only [go_sem, Φa, hP, h8_10, h8_11, h8_1, h8_2, h8_8, hops])
              refine hK26 (jy + 1, vy2, sy2, t2) _ (su :: sx :: sy2 :: t2 :: L) _ (by first | exact Less.refl _ | exact Less.drop _ _ | exact Less.drops (Less.drop _ _) | exact Less.drops (Less.drops (Less.drop _ _)) | exact Less.drops (Less.drops (Less.drops (Less.drop _ _))) | exact Less.drops (Less.drops (Less.drops (Less.drops (Less.drop _ _))))) ?_ ?_
              · try dsimp only
                refine ⟨?_, ?_, ?_, ?_, ?_, ?_, ?_⟩
                · simp (maxSteps:=1000000)(dsimp:=false)(disch:=omega) only [go_sem, Φa, hP, h8_10, h8_11, h8_1, h8_2, h8_8]
                  first | done | rfl | skip
                · simp (maxSteps:=1000000)(dsimp:=false)(disch:=omega) only [go_sem, Φa, hP, h8_10, h8_11, h8_1, h8_2, h8_8]
                  first | done | rfl | skip
                · simp (maxSteps:=1000000)(dsimp:=false)(disch:=omega) only [go_sem, Φa, hP, h8_10, h8_11, h8_1, h8_2, h8_8]
                · simp (maxSteps:=1000000)(dsimp:=false)(disch:=omega) only [go_sem, Φa, hP, h8_10, h8_11, h8_1, h8_2, h8_8]
                · simp (maxSteps:=1000000)(dsimp:=false)(disch:=omega) only [go_sem, Φa, hP, h8_10, h8_11, h8_1, h8_2, h8_8]
                · rfl
                · refine ⟨by omega, ?_, ?_⟩
                  · rw [show List.replicate (jy + 1) (rK 81) = List.replicate jy (rK 81) ++ [(rK 81)] from List.replicate_succ']; rw [← List.append_assoc]; exact hry2
                  · rw [show List.replicate (jy + 1) (rK 81) = List.replicate jy (rK 81) ++ [(rK 81)] from List.replicate_succ']; rw [← List.append_assoc]; exact hV2
              · (try dsimp only); omega
            · clear hX29 hY29 X29 Y29
              refine SX.exit ?_
              try simp only [andThen_normal, andThen_ret, andThen_exit, inBlk_normal, inBlk_ret, inBlk_exit, Nat.reduceEqDiff, if_true, if_false, ↓reduceIte]
              refine hK24 _ _ ?_
              try clear hK24 K24
              refine SX.seq_k fun K31 hK31 => ?_
              refine SX.seq_k fun K32 hK32 => ?_
              refine SX.region_d [some 55, some 56, some 12] rfl (fun ops hops => ?_)
              unfold Dsts at hops
              simp (maxSteps:=1000000)(dsimp:=false)(disch:=omega) only [go_sem, Φa, hP, h8_10, h8_11, h8_1, h8_2, h8_8, hops]
              repeat' ((first | refine And.intro (by omega) ?_ | fail); try (with_reducible refine stI ?_); try simp (maxSteps:=1000000)(dsimp:=false)(disch:=omega) only [go_sem, Φa, hP, h8_10, h8_11, h8_1, h8_2, h8_8, hops])
              refine hK32 _ _ ?_
              try clear hK32 K32
              refine SX.block ?_
              obtain rfl : jx = 30 := by omega
              obtain rfl : jy = 30 := by omega
              obtain ⟨B1, m1, rfl, -, -⟩ := Row.form hrx
              obtain ⟨B2_, m2, rfl, -, -⟩ := Row.form hry
              have hlx : (l1 ++ List.replicate 30 (rK 80)).length = w.length + 30 := by rw [List.length_append, List.length_replicate, hl1]
              have hly : (w ++ List.replicate 30 (rK 81)).length = w.length + 30 := by rw [List.length_append, List.length_replicate]
              refine SX.live [1, 2, 8, 10, 12] (fun T9 hT9 => ?_)
              simp only [forall_mem_cons', forall_mem_nil', go_sem, Φa, hP, h8_10, h8_11, h8_1, h8_2, h8_8] at hT9
              obtain ⟨h9_1, h9_2, h9_8, h9_10, h9_12⟩ := hT9
              clear h8_10 h8_11 h8_1 h8_2 h8_8 T8
              refine SX.loop_k (fun (ss : (Nat)) T L' => (fun (i : Nat) => T 12 = .int .i64 (i : Int) ∧ T 1 = T9 1 ∧ T 2 = T9 2 ∧ T 8 = T9 8 ∧ T 10 = T9 10 ∧ L' = su :: sx :: sy :: t :: L ∧ (w.length ≤ i ∧ i ≤ w.length + 30)) (ss)) (fun (ss : (Nat)) => (fun (i : Nat) => w.length + 30 - i) (ss)) w.length ?_ ?_
              · try dsimp only
                refine ⟨?_, ?_, ?_, ?_, ?_, ?_, ?_⟩
                · first | exact h9_12 | (rw [h9_12]; rfl) | (rw [h9_12]; simp; done)
                · rfl
                · rfl
                · rfl
                · rfl
                · rfl
                · exact ⟨Nat.le_refl _, by omega⟩
              · intro i T10 L10 hI K33 hK33
                try dsimp only at hI hK33
                simp only [h9_1, h9_2, h9_8, h9_10] at hI hK33
                obtain ⟨h10_12, h10_1, h10_2, h10_8, h10_10, hL10, ⟨hi1, hi2⟩⟩ := hI
                replace hL10 := hL10.symm
                subst hL10
                clear h9_1 h9_2 h9_8 h9_10 h9_12 T9
                refine SX.seq_k fun K34 hK34 => ?_
                refine SX.seq_k fun K35 hK35 => ?_
                refine SX.region_d [some 57, some 58, some 59, some 60] rfl (fun ops hops => ?_)
                unfold Dsts at hops
                simp (maxSteps:=1000000)(dsimp:=false)(disch:=omega) only [go_sem, Φa, hP, h10_12, h10_1, h10_2, h10_8, h10_10, hops, hlx]
                repeat' ((first | refine And.intro (by omega) ?_ | fail); try (with_reducible refine stI ?_); try simp (maxSteps:=1000000)(dsimp:=false)(disch:=omega) only [go_sem, Φa, hP, h10_12, h10_1, h10_2, h10_8, h10_10, hops, hlx])
                refine hK35 _ _ ?_
                try clear hK35 K35
                refine SX.cond_k fun X36 Y36 hX36 hY36 => ?_
                simp (maxSteps:=1000000)(dsimp:=false)(disch:=omega) only [go_sem, Φa, hP, h10_12, h10_1, h10_2, h10_8, h10_10, condVC]
                refine ⟨fun hc60 => hX36 ?_, fun hc60 => hY36 ?_⟩
                · clear hX36 hY36 X36 Y36
                  refine SX.skip ?_
                  try simp only [andThen_normal, andThen_ret, andThen_exit, inBlk_normal, inBlk_ret, inBlk_exit, Nat.reduceEqDiff, if_true, if_false, ↓reduceIte]
                  refine hK34 _ _ ?_
                  try clear hK34 K34
                  refine SX.seq_k fun K37 hK37 => ?_
                  refine SX.block ?_
                  refine SX.seq_k fun K38 hK38 => ?_
                  refine SX.region_xd [some 63, some 64, some 65, some 66, some 67, some 68, some 69, some 70, some 71, some 72, some 73, some 74, some 75, some 76] rfl (fun ops hops => ?_)
                  unfold Dsts at hops
                  refine RX.live [1, 2, 8, 10, 12] (fun T11 hT11 => ?_)
                  simp only [forall_mem_cons', forall_mem_nil', go_sem, Φa, hP, h10_12, h10_1, h10_2, h10_8, h10_10] at hT11
                  obtain ⟨h11_1, h11_2, h11_8, h11_10, h11_12⟩ := hT11
                  clear h10_12 h10_1 h10_2 h10_8 h10_10 T10
                  obtain ⟨_, _, e_, _, hAx⟩ := RowL.sl (Γ := Γ) (L := su :: sx :: sy :: t :: L) (i := 1) Rc.len hrx rfl
                  cases e_
                  obtain ⟨ax, hax, hRx⟩ := hAx i (rK 80) (by rw [List.getElem?_append_right (by omega), List.getElem?_replicate, if_pos (by omega)])
                  have hcx := hRx 0 (.int .u8 80) rfl
                  rw [add_addS] at hcx
                  simp only [Nat.mul_one, Nat.add_zero] at hcx
                  subst hax
                  obtain ⟨_, _, e_, _, hAy⟩ := RowL.sl (Γ := Γ) (L := su :: sx :: sy :: t :: L) (i := 2) Rc.len hry rfl
                  cases e_
                  obtain ⟨ay, hay, hRy⟩ := hAy i (rK 81) (by rw [List.getElem?_append_right (by omega), List.getElem?_replicate, if_pos (by omega)])
                  have hcy := hRy 0 (.int .u8 81) rfl
                  rw [add_addS] at hcy
                  simp only [Nat.mul_one, Nat.add_zero] at hcy
                  subst hay
                  refine RX.join 14 (fun (ss : Unit) T L' => T 76 = .bool (false) ∧ T 1 = T11 1 ∧ T 2 = T11 2 ∧ T 8 = T11 8 ∧ T 10 = T11 10 ∧ T 12 = T11 12 ∧ L' = su :: sx :: sy :: t :: L ∧ (True)) (fun K39 hK39 => ?_) ?_
                  · simp only [h11_1, h11_2, h11_8, h11_10, h11_12] at hK39
                    simp (maxSteps:=1000000)(dsimp:=false)(disch:=omega) only [go_sem, Φa, hP, h11_1, h11_2, h11_8, h11_10, h11_12, hops, hlx, hly]
                    repeat' (first | refine iteB (fun hg => ?_) (fun hg => ?_) | refine iteI (fun hg => ?_) (fun hg => ?_) | ((first | refine ⟨_, hcx, ?_⟩ | refine ⟨_, hcy, ?_⟩ | refine And.intro (by omega) ?_ | refine ⟨_, Cell.at 0 rfl rfl, ?_⟩ | refine ⟨_, Cell.at 1 rfl rfl, ?_⟩ | refine ⟨_, Cell.at 2 rfl rfl, ?_⟩ | refine ⟨_, Cell.at 3 rfl rfl, ?_⟩ | fail); try (with_reducible refine stI ?_); try simp (maxSteps:=1000000)(dsimp:=false)(disch:=omega) only [go_sem, Φa, hP, h11_1, h11_2, h11_8, h11_10, h11_12, hops, hlx, hly]) | fail)
                    all_goals
                      refine hK39 () _ (su :: sx :: sy :: t :: L) _ (by first | exact Less.refl _ | exact Less.drop _ _ | exact Less.drops (Less.drop _ _) | exact Less.drops (Less.drops (Less.drop _ _)) | exact Less.drops (Less.drops (Less.drops (Less.drop _ _))) | exact Less.drops (Less.drops (Less.drops (Less.drops (Less.drop _ _))))) ?_
                      try dsimp only
                      refine ⟨?_, ?_, ?_, ?_, ?_, ?_, ?_, ?_⟩
                      · simp (maxSteps:=1000000)(dsimp:=false)(disch:=omega) only [go_sem, Φa, hP, h11_1, h11_2, h11_8, h11_10, h11_12]
                        first | done | rfl | simp
                      · simp (maxSteps:=1000000)(dsimp:=false)(disch:=omega) only [go_sem, Φa, hP, h11_1, h11_2, h11_8, h11_10, h11_12]
                      · simp (maxSteps:=1000000)(dsimp:=false)(disch:=omega) only [go_sem, Φa, hP, h11_1, h11_2, h11_8, h11_10, h11_12]
                      · simp (maxSteps:=1000000)(dsimp:=false)(disch:=omega) only [go_sem, Φa, hP, h11_1, h11_2, h11_8, h11_10, h11_12]
                      · simp (maxSteps:=1000000)(dsimp:=false)(disch:=omega) only [go_sem, Φa, hP, h11_1, h11_2, h11_8, h11_10, h11_12]
                      · simp (maxSteps:=1000000)(dsimp:=false)(disch:=omega) only [go_sem, Φa, hP, h11_1, h11_2, h11_8, h11_10, h11_12]
                      · rfl
                      · trivial
                  · intro ss T12 L12 hI
                    simp only [h11_1, h11_2, h11_8, h11_10, h11_12] at hI 
                    obtain ⟨h12_76, h12_1, h12_2, h12_8, h12_10, h12_12, hL12, hinv⟩ := hI
                    replace hL12 := hL12.symm
                    subst hL12
                    clear h11_1 h11_2 h11_8 h11_10 h11_12 T11
                    refine RX.done ?_
                    simp (maxSteps:=1000000)(dsimp:=false)(disch:=omega) only [go_sem, Φa, hP, h12_76, h12_1, h12_2, h12_8, h12_10, h12_12, hops]
                    refine hK38 _ _ ?_
                    try clear hK38 K38
                    refine SX.cond_k fun X40 Y40 hX40 hY40 => ?_
                    simp (maxSteps:=1000000)(dsimp:=false)(disch:=omega) only [go_sem, Φa, hP, h12_76, h12_1, h12_2, h12_8, h12_10, h12_12, condVC]
                    refine hY40 ?_
                    clear hX40 hY40 X40 Y40
                    refine SX.skip ?_
                    try simp only [andThen_normal, andThen_ret, andThen_exit, inBlk_normal, inBlk_ret, inBlk_exit, Nat.reduceEqDiff, if_true, if_false, ↓reduceIte]
                    refine hK37 _ _ ?_
                    try clear hK37 K37
                    refine SX.region_d [some 61, some 62, some 12] rfl (fun ops hops => ?_)
                    unfold Dsts at hops
                    simp (maxSteps:=1000000)(dsimp:=false)(disch:=omega) only [go_sem, Φa, hP, h12_76, h12_1, h12_2, h12_8, h12_10, h12_12, hops]
                    repeat' ((first | refine And.intro (by omega) ?_ | fail); try (with_reducible refine stI ?_); try simp (maxSteps:=1000000)(dsimp:=false)(disch:=omega) only [go_sem, Φa, hP, h12_76, h12_1, h12_2, h12_8, h12_10, h12_12, hops])
                    refine hK33 (i + 1) _ (su :: sx :: sy :: t :: L) _ (by first | exact Less.refl _ | exact Less.drop _ _ | exact Less.drops (Less.drop _ _) | exact Less.drops (Less.drops (Less.drop _ _)) | exact Less.drops (Less.drops (Less.drops (Less.drop _ _))) | exact Less.drops (Less.drops (Less.drops (Less.drops (Less.drop _ _))))) ?_ ?_
                    · try dsimp only
                      refine ⟨?_, ?_, ?_, ?_, ?_, ?_, ?_⟩
                      · simp (maxSteps:=1000000)(dsimp:=false)(disch:=omega) only [go_sem, Φa, hP, h12_76, h12_1, h12_2, h12_8, h12_10, h12_12]
                        first | done | rfl | skip
                      · simp (maxSteps:=1000000)(dsimp:=false)(disch:=omega) only [go_sem, Φa, hP, h12_76, h12_1, h12_2, h12_8, h12_10, h12_12]
                      · simp (maxSteps:=1000000)(dsimp:=false)(disch:=omega) only [go_sem, Φa, hP, h12_76, h12_1, h12_2, h12_8, h12_10, h12_12]
                      · simp (maxSteps:=1000000)(dsimp:=false)(disch:=omega) only [go_sem, Φa, hP, h12_76, h12_1, h12_2, h12_8, h12_10, h12_12]
                      · simp (maxSteps:=1000000)(dsimp:=false)(disch:=omega) only [go_sem, Φa, hP, h12_76, h12_1, h12_2, h12_8, h12_10, h12_12]
                      · rfl
                      · exact ⟨by omega, by omega⟩
                    · (try dsimp only); omega
                · clear hX36 hY36 X36 Y36
                  refine SX.exit ?_
                  try simp only [andThen_normal, andThen_ret, andThen_exit, inBlk_normal, inBlk_ret, inBlk_exit, Nat.reduceEqDiff, if_true, if_false, ↓reduceIte]
                  refine hK31 _ _ ?_
                  try clear hK31 K31
                  refine SX.seq_k fun K41 hK41 => ?_
                  refine SX.region_d [some 77, some 78, some 79, some 6] rfl (fun ops hops => ?_)
                  unfold Dsts at hops
                  simp (maxSteps:=1000000)(dsimp:=false)(disch:=omega) only [go_sem, Φa, hP, h10_12, h10_1, h10_2, h10_8, h10_10, hops]
                  (refine SCall.mono (same_spec (a := w) (b := w) hP (View.sl (P := [su, sx]) (s := sy) (t := t) (L0 := L) Rc.len hV hry ⟨_, _, rfl, hk2⟩) (RowL.sl (L := su :: sx :: sy :: t :: L) (i := 0) Rc.len hru rfl) how how (by omega) (by omega)) ?_; rintro v_ L_ ⟨hv_, hL_⟩; rw [hv_, hL_, decide_eq_true rfl]; clear hv_ hL_ v_ L_)
                  try with_reducible refine stI ?_
                  try simp (maxSteps:=1000000)(dsimp:=false)(disch:=omega) only [go_sem, Φa, hP, h10_12, h10_1, h10_2, h10_8, h10_10, hops]
                  refine hK41 _ _ ?_
                  try clear hK41 K41
                  refine SX.ret ?_
                  simp only [andThen_normal, andThen_ret, andThen_exit, inBlk_normal, inBlk_ret, inBlk_exit, Nat.reduceEqDiff, if_true, if_false, ↓reduceIte, retQ_ret]
                  try simp only [res0, res1, res2, res3, stK_e, go_sem, Φa, hP, h10_12, h10_1, h10_2, h10_8, h10_10]
                  exact ⟨_, L, Less.tail [_, _, _, _] L, rfl, rfl, rfl⟩

end Go.Proofs.YtcenlgofldnfcaaDoor
set_option linter.unusedVariables false
set_option linter.unusedSimpArgs false
namespace Go.Proofs.YtcenlgofldnfcaaDoor
open Go.RowKit Go.SX Go.Proofs

theorem own_b (xs : List Int) : ints .u8 (xs.take (xs.length + 1)) ++ (ints .u8 (List.replicate (xs.length + 1) 0)).drop (min xs.length (xs.length + 1)) = ints .u8 (xs ++ [0]) := by
  rw [List.take_of_length_le (by omega), ints_app, show min xs.length (xs.length + 1) = xs.length by omega]
  congr 1
  unfold ints
  rw [← List.map_drop, List.drop_replicate, show xs.length + 1 - xs.length = 1 by omega]
  rfl
theorem mark_b (xs : List Int) : (ints .u8 (xs ++ [0])).set xs.length (.int .u8 77) = ints .u8 (xs ++ [77]) := by
  rw [ints_set, List.set_append_right _ _ (Nat.le_refl _), Nat.sub_self]
  rfl
theorem mark_b_at (xs : List Int) : (ints .u8 (xs ++ [77]))[xs.length]? = some (.int .u8 77) := by
  rw [SX.ints_at, List.getElem?_append_right (Nat.le_refl _), Nat.sub_self]
  rfl
theorem own_sl {Γ : Ctx} {H : Hp} {xs : List Int} {gx i : Nat} (h : H[i]? = some (some (gx, Obj.cells (ints .u8 (xs ++ [77])).toArray 5 (0, 0)))) : SlI .u8 (Cell Γ H) (.slice (some ⟨gx, 0, none⟩) xs.length (xs.length + 1)) xs := by
  have h1 : SlI .u8 (Cell Γ H) (.slice (some ⟨gx, 0, none⟩) (xs.length + 1) (xs.length + 1)) (xs ++ [77]) := SlI.own i h (by rw [List.length_append]; rfl) (Nat.le_refl _)
  have h2 := Sl.take (k := xs.length) h1 (by omega)
  rwa [List.take_left' rfl] at h2
theorem recs_ok {xs : List Int} (hb : Byte xs) : ∀ (n at_ : Nat) (next : Int) (l : List Rc) (e : Nat), 0 ≤ next ∧ next ≤ 65535 → recsP xs n at_ next = .good l e → (∀ r ∈ l, OkR r) ∧ l.length = n
  | 0, at_, next, l, e, _, h => by
    cases h
    exact ⟨fun r hr => (by cases hr), rfl⟩
  | n + 1, at_, next, l, e, hn, h => by
    rw [recsP] at h
    cases hr : recP xs at_ next with
    | none => rw [hr] at h; cases h
    | some p =>
      obtain ⟨x, k⟩ := p
      rw [hr] at h
      dsimp only at h
      have hx : OkR x := by
        have hx1 := X1_ok (at_ := at_) hb hn
        unfold recP at hr
        split at hr
        · cases hr
        · split at hr
          · cases hr
          · split at hr
            · simp only [Option.some.injEq, Prod.mk.injEq] at hr
              rw [← hr.1]
              exact hx1
            · cases hr
      cases hq : recsP xs n (at_ + k) (IntKind.u16.wrap (x.ad + 1)) with
      | bad p => rw [hq] at h; cases h
      | good m f =>
        rw [hq] at h
        cases h
        obtain ⟨h1, h2⟩ := recs_ok hb n _ _ m e (by rw [IntKind.wrap_u16]; omega) hq
        refine ⟨fun r hr' => ?_, by rw [List.length_cons, h2]⟩
        rcases List.mem_cons.1 hr' with rfl | h3
        · exact hx
        · exact h1 r h3
theorem unpP_ok {xs : List Int} (hb : Byte xs) : (∀ r ∈ (unpP xs).1, OkR r) ∧ (unpP xs).1.length ≤ 5000000 := by
  have hz : (∀ r ∈ ([] : List Rc), OkR r) ∧ ([] : List Rc).length ≤ 5000000 := ⟨fun r hr => (by cases hr), Nat.zero_le _⟩
  unfold unpP
  split
  · split
    · exact hz
    · rename_i h1 h2
      cases hr : recsP xs (nP xs 4).toNat 8 0 with
      | bad p => exact hz
      | good l e =>
        dsimp only
        split
        · exact hz
        · obtain ⟨h3, h4⟩ := recs_ok hb _ _ _ _ _ (by decide) hr
          exact ⟨h3, by show l.length ≤ 5000000; omega⟩
  · exact hz
set_option maxHeartbeats 1000000 in
set_option maxRecDepth 100000 in
theorem TraceUnpacks_spec {Γ : Ctx} (hP : Γ.P = Tryd.prog) {L : Hp} (hM : MD Γ) {v : Value} {xs : List Int} (hx : SlI .u8 (Cell Γ []) v xs) (hby : Byte xs) :
    SCall Γ 6 #[v] L (fun v L' => v = .bool true ∧ L' = L) := by
  obtain ⟨A, c, rfl, hc⟩ := Sl.shape hx
  refine SCall.enter (n := 95) (res1 2) (hP ▸ Tryd.func6) rfl rfl (by simp) (res1_ok rfl) ?_
  refine SX.seq_k fun K1 hK1 => ?_
  refine SX.region_d [some 2] rfl (fun ops hops => ?_)
  unfold Dsts at hops
  simp (maxSteps := 1000000) (dsimp := false) (disch := omega) only [go_sem, ia_someH, hP, hops]
  refine hK1 _ _ ?_
  try clear hK1 K1
  refine SX.seq_k fun K2 hK2 => ?_
  refine SX.seq_k fun K3 hK3 => ?_
  refine SX.region_d [some 14, some 15, some 16] rfl (fun ops hops => ?_)
  unfold Dsts at hops
  simp (maxSteps := 1000000) (dsimp := false) (disch := omega) only [go_sem, ia_someH, hP, hops]
  repeat' ((first | refine And.intro (by omega) ?_ | fail); try (with_reducible refine stI ?_); try simp (maxSteps := 1000000) (dsimp := false) (disch := omega) only [go_sem, ia_someH, hP, hops])
  refine hK3 _ _ ?_
  try clear hK3 K3
  refine SX.cond_k fun X4 Y4 hX4 hY4 => ?_
  simp (maxSteps := 1000000) (dsimp := false) (disch := omega) only [go_sem, ia_someH, hP, condVC]
  refine ⟨fun hc16 => hX4 ?_, fun hc16 => hY4 ?_⟩
  · clear hX4 hY4 X4 Y4
    refine SX.seq_k fun K5 hK5 => ?_
    refine SX.region_d [some 2] rfl (fun ops hops => ?_)
    unfold Dsts at hops
    simp (maxSteps := 1000000) (dsimp := false) (disch := omega) only [go_sem, ia_someH, hP, hops]
    refine hK5 _ _ ?_
    try clear hK5 K5
    refine SX.ret ?_
    simp only [andThen_normal, andThen_ret, andThen_exit, inBlk_normal, inBlk_ret, inBlk_exit, Nat.reduceEqDiff, if_true, if_false, ↓reduceIte, retQ_ret]
    try simp only [res0, res1, res2, res3, stK_e, go_sem, ia_someH, hP]
    exact ⟨_, _, Less.refl _, rfl, rfl, rfl⟩
  · clear hX4 hY4 X4 Y4
    refine SX.skip ?_
    try simp only [andThen_normal, andThen_ret, andThen_exit, inBlk_normal, inBlk_ret, inBlk_exit, Nat.reduceEqDiff, if_true, if_false, ↓reduceIte]
    refine hK2 _ _ ?_
    try clear hK2 K2
    refine SX.seq_k fun K6 hK6 => ?_
    have hxl : xs.length ≤ 2147483647 := by omega
    have hn1 : ((xs.length : Int) + 1).toNat = xs.length + 1 := by omega
    obtain ⟨huo, hul⟩ := unpP_ok hby
    refine SX.region_d [some 17, some 18, some 19, some 20, some 3] rfl (fun ops hops => ?_)
    unfold Dsts at hops
    simp (maxSteps := 1000000) (dsimp := false) (disch := omega) only [go_sem, ia_someH, hP, hops, hn1]
    intro gx
    try with_reducible refine stI ?_
    try simp (maxSteps := 1000000) (dsimp := false) (disch := omega) only [go_sem, ia_someH, hP, hops, hn1]
    rw [zerosV_ints]
    try with_reducible refine stI ?_
    try simp (maxSteps := 1000000) (dsimp := false) (disch := omega) only [go_sem, ia_someH, hP, hops, hn1]
    refine hK6 _ _ ?_
    try clear hK6 K6
    refine SX.live [0, 3] (fun T1 hT1 => ?_)
    simp only [forall_mem_cons', forall_mem_nil', go_sem, ia_someH, hP] at hT1
    obtain ⟨h1_0, h1_3⟩ := hT1
    refine SX.seq_k fun K7 hK7 => ?_
    refine SX.region_d [some 21, some 22, some 23] rfl (fun ops hops => ?_)
    unfold Dsts at hops
    simp (maxSteps := 1000000) (dsimp := false) (disch := omega) only [go_sem, ia_someH, hP, h1_0, h1_3, hops]
    refine YCopy.ints (i := 0) (hP ▸ T.elS_30) (SlI.mono (fun a v h => Cell.any h) hx) rfl (by rw [ints_length, List.length_replicate]; omega) (.inr (Nat.zero_le _)) ?_
    rw [own_b]
    try with_reducible refine stI ?_
    try simp (maxSteps := 1000000) (dsimp := false) (disch := omega) only [go_sem, ia_someH, hP, h1_0, h1_3, hops]
    refine hK7 _ _ ?_
    try clear hK7 K7
    refine SX.seq_k fun K8 hK8 => ?_
    refine SX.region_d [some 24, some 25, some 26, some 27, none] rfl (fun ops hops => ?_)
    unfold Dsts at hops
    simp (maxSteps := 1000000) (dsimp := false) (disch := omega) only [go_sem, ia_someH, hP, h1_0, h1_3, hops]
    refine ⟨0, _, _, _, rfl, (by rw [ints_length, List.length_append]; show xs.length + 1 ≤ _; exact Nat.le_refl _), .inr (Nat.zero_le _), ?_⟩
    try with_reducible refine stI ?_
    try simp (maxSteps := 1000000) (dsimp := false) (disch := omega) only [go_sem, ia_someH, hP, h1_0, h1_3, hops]
    rw [mark_b]
    refine hK8 _ _ ?_
    try clear hK8 K8
    refine SX.seq_k fun K9 hK9 => ?_
    refine SX.region_d [some 29, some 30, some 31, some 32, some 33, some 28, some 34, some 35, some 36, some 4, some 5, some 6] rfl (fun ops hops => ?_)
    unfold Dsts at hops
    simp (maxSteps := 1000000) (dsimp := false) (disch := omega) only [go_sem, ia_someH, hP, h1_0, h1_3, hops, cutA0, Nat.sub_zero]
    refine SCall.mono (Unpack_spec (xs := xs) hP (own_sl (i := 0) rfl) hxl hby) ?_
    rintro v_ L_ ⟨vl, sl, rfl, rfl, hrl⟩
    try with_reducible refine stI ?_
    try simp (maxSteps := 1000000) (dsimp := false) (disch := omega) only [go_sem, ia_someH, hP, h1_0, h1_3, hops, cutA0, Nat.sub_zero]
    refine hK9 _ _ ?_
    try clear hK9 K9
    refine SX.live [0, 3, 4, 5, 6] (fun T2 hT2 => ?_)
    simp only [forall_mem_cons', forall_mem_nil', go_sem, ia_someH, hP, h1_0, h1_3] at hT2
    obtain ⟨h2_0, h2_3, h2_4, h2_5, h2_6⟩ := hT2
    clear h1_0 h1_3 T1
    refine SX.seq_k fun K10 hK10 => ?_
    refine SX.seq_k fun K11 hK11 => ?_
    refine SX.region_d [some 37, some 38, some 39, some 40, some 41, some 42, some 43, some 44, some 45, some 46, some 47, some 48, some 49, some 50, some 51] rfl (fun ops hops => ?_)
    unfold Dsts at hops
    simp (maxSteps := 1000000) (dsimp := false) (disch := omega) only [go_sem, ia_someH, hP, h2_0, h2_3, h2_4, h2_5, h2_6, hops, cutA0, Nat.sub_zero]
    refine SCall.mono (sameBytes_spec (a := xs) (b := xs) hP (own_sl (i := 1) rfl) (SlI.mono (fun a v h => Cell.any h) hx) hby hby) ?_
    rintro v_ L_ ⟨hv_, hL_⟩
    rw [hv_, hL_]
    clear hv_ hL_ v_ L_
    rw [decide_eq_true rfl]
    try with_reducible refine stI ?_
    try simp (maxSteps := 1000000) (dsimp := false) (disch := omega) only [go_sem, ia_someH, hP, h2_0, h2_3, h2_4, h2_5, h2_6, hops, cutA0, Nat.sub_zero]
    refine ⟨_, Cell.at 1 rfl (mark_b_at xs), ?_⟩
    try with_reducible refine stI ?_
    try simp (maxSteps := 1000000) (dsimp := false) (disch := omega) only [go_sem, ia_someH, hP, h2_0, h2_3, h2_4, h2_5, h2_6, hops, cutA0, Nat.sub_zero]
    refine hK11 _ _ ?_
    try clear hK11 K11
    refine SX.live [0, 3, 4, 5, 6, 51] (fun T3 hT3 => ?_)
    simp only [forall_mem_cons', forall_mem_nil', go_sem, ia_someH, hP, h2_0, h2_3, h2_4, h2_5, h2_6] at hT3
    obtain ⟨h3_0, h3_3, h3_4, h3_5, h3_6, h3_51⟩ := hT3
    clear h2_0 h2_3 h2_4 h2_5 h2_6 T2
    refine SX.cond_k fun X12 Y12 hX12 hY12 => ?_
    simp (maxSteps := 1000000) (dsimp := false) (disch := omega) only [go_sem, ia_someH, hP, h3_0, h3_3, h3_4, h3_5, h3_6, h3_51, condVC]
    refine hY12 ?_
    clear hX12 hY12 X12 Y12
    refine SX.skip ?_
    try simp only [andThen_normal, andThen_ret, andThen_exit, inBlk_normal, inBlk_ret, inBlk_exit, Nat.reduceEqDiff, if_true, if_false, ↓reduceIte]
    refine hK10 _ _ ?_
    try clear hK10 K10
    refine SX.seq_k fun K13 hK13 => ?_
    refine SX.seq_k fun K14 hK14 => ?_
    refine SX.region_d [some 7] rfl (fun ops hops => ?_)
    unfold Dsts at hops
    simp (maxSteps := 1000000) (dsimp := false) (disch := omega) only [go_sem, ia_someH, hP, h3_0, h3_3, h3_4, h3_5, h3_6, h3_51, hops]
    refine hK14 _ _ ?_
    try clear hK14 K14
    refine SX.block ?_
    refine SX.live [0, 3, 4, 5, 6, 7] (fun T4 hT4 => ?_)
    simp only [forall_mem_cons', forall_mem_nil', go_sem, ia_someH, hP, h3_0, h3_3, h3_4, h3_5, h3_6, h3_51] at hT4
    obtain ⟨h4_0, h4_3, h4_4, h4_5, h4_6, h4_7⟩ := hT4
    clear h3_0 h3_3 h3_4 h3_5 h3_6 h3_51 T3
    refine SX.loop_k (fun (ss : (Nat) × (List Int)) T L' => (fun (i : Nat) (ys : List Int) => T 7 = .int .i64 (i : Int) ∧ T 0 = T4 0 ∧ T 3 = T4 3 ∧ T 4 = T4 4 ∧ T 5 = T4 5 ∧ T 6 = T4 6 ∧ L' = sl :: some (gx, .cells (ints .u8 ys).toArray 5 (0, 0)) :: L ∧ (i ≤ xs.length + 1 ∧ ys.length = xs.length + 1)) (ss.1) (ss.2)) (fun (ss : (Nat) × (List Int)) => (fun (i : Nat) (ys : List Int) => xs.length + 1 - i) (ss.1) (ss.2)) (0, xs ++ [77]) ?_ ?_
    · try dsimp only
      refine ⟨?_, ?_, ?_, ?_, ?_, ?_, ?_, ?_⟩
      · first | exact h4_7 | (rw [h4_7]; rfl) | (rw [h4_7]; simp; done)
      · rfl
      · rfl
      · rfl
      · rfl
      · rfl
      · rfl
      · exact ⟨Nat.zero_le _, by rw [List.length_append]; rfl⟩
    · intro ss T5 L5 hI K15 hK15
      obtain ⟨i, ys⟩ := ss
      try dsimp only at hI hK15
      simp only [h4_0, h4_3, h4_4, h4_5, h4_6] at hI hK15
      obtain ⟨h5_7, h5_0, h5_3, h5_4, h5_5, h5_6, hL5, ⟨hi, hyl⟩⟩ := hI
      replace hL5 := hL5.symm
      subst hL5
      clear h4_0 h4_3 h4_4 h4_5 h4_6 h4_7 T4
      refine SX.seq_k fun K16 hK16 => ?_
      refine SX.seq_k fun K17 hK17 => ?_
      refine SX.region_d [some 52, some 53, some 54, some 55] rfl (fun ops hops => ?_)
      unfold Dsts at hops
      simp (maxSteps := 1000000) (dsimp := false) (disch := omega) only [go_sem, ia_someH, hP, h5_7, h5_0, h5_3, h5_4, h5_5, h5_6, hops]
      repeat' ((first | refine And.intro (by omega) ?_ | fail); try (with_reducible refine stI ?_); try simp (maxSteps := 1000000) (dsimp := false) (disch := omega) only [go_sem, ia_someH, hP, h5_7, h5_0, h5_3, h5_4, h5_5, h5_6, hops])
      refine hK17 _ _ ?_
      try clear hK17 K17
      refine SX.cond_k fun X18 Y18 hX18 hY18 => ?_
      simp (maxSteps := 1000000) (dsimp := false) (disch := omega) only [go_sem, ia_someH, hP, h5_7, h5_0, h5_3, h5_4, h5_5, h5_6, condVC]
      refine ⟨fun hc55 => hX18 ?_, fun hc55 => hY18 ?_⟩
      · clear hX18 hY18 X18 Y18
        refine SX.skip ?_
        try simp only [andThen_normal, andThen_ret, andThen_exit, inBlk_normal, inBlk_ret, inBlk_exit, Nat.reduceEqDiff, if_true, if_false, ↓reduceIte]
        refine hK16 _ _ ?_
        try clear hK16 K16
        refine SX.seq_k fun K19 hK19 => ?_
        refine SX.block ?_
        refine SX.region_d [some 58, some 59, some 60, none] rfl (fun ops hops => ?_)
        unfold Dsts at hops
        simp (maxSteps := 1000000) (dsimp := false) (disch := omega) only [go_sem, ia_someH, hP, h5_7, h5_0, h5_3, h5_4, h5_5, h5_6, hops]
        refine ⟨1, _, _, _, rfl, (by rw [ints_length, hyl]; show i + 1 ≤ _; omega), .inr (Nat.zero_le _), ?_⟩
        try with_reducible refine stI ?_
        try simp (maxSteps := 1000000) (dsimp := false) (disch := omega) only [go_sem, ia_someH, hP, h5_7, h5_0, h5_3, h5_4, h5_5, h5_6, hops]
        rw [ints_set]
        refine hK19 _ _ ?_
        try clear hK19 K19
        refine SX.region_d [some 56, some 57, some 7] rfl (fun ops hops => ?_)
        unfold Dsts at hops
        simp (maxSteps := 1000000) (dsimp := false) (disch := omega) only [go_sem, ia_someH, hP, h5_7, h5_0, h5_3, h5_4, h5_5, h5_6, hops]
        repeat' ((first | refine And.intro (by omega) ?_ | fail); try (with_reducible refine stI ?_); try simp (maxSteps := 1000000) (dsimp := false) (disch := omega) only [go_sem, ia_someH, hP, h5_7, h5_0, h5_3, h5_4, h5_5, h5_6, hops])
        refine hK15 (i + 1, ys.set i 78) _ (sl :: some (gx, .cells (ints .u8 (ys.set i 78)).toArray 5 (0, 0)) :: L) _ (by first | exact Less.refl _ | exact Less.drop _ _ | exact Less.drops (Less.drop _ _) | exact Less.drops (Less.drops (Less.drop _ _)) | exact Less.drops (Less.drops (Less.drops (Less.drop _ _))) | exact Less.drops (Less.drops (Less.drops (Less.drops (Less.drop _ _))))) ?_ ?_
        · try dsimp only
          refine ⟨?_, ?_, ?_, ?_, ?_, ?_, ?_, ?_⟩
          · simp (maxSteps := 1000000) (dsimp := false) (disch := omega) only [go_sem, ia_someH, hP, h5_7, h5_0, h5_3, h5_4, h5_5, h5_6]
            first | done | rfl | skip
          · simp (maxSteps := 1000000) (dsimp := false) (disch := omega) only [go_sem, ia_someH, hP, h5_7, h5_0, h5_3, h5_4, h5_5, h5_6]
          · simp (maxSteps := 1000000) (dsimp := false) (disch := omega) only [go_sem, ia_someH, hP, h5_7, h5_0, h5_3, h5_4, h5_5, h5_6]
          · simp (maxSteps := 1000000) (dsimp := false) (disch := omega) only [go_sem, ia_someH, hP, h5_7, h5_0, h5_3, h5_4, h5_5, h5_6]
          · simp (maxSteps := 1000000) (dsimp := false) (disch := omega) only [go_sem, ia_someH, hP, h5_7, h5_0, h5_3, h5_4, h5_5, h5_6]
          · simp (maxSteps := 1000000) (dsimp := false) (disch := omega) only [go_sem, ia_someH, hP, h5_7, h5_0, h5_3, h5_4, h5_5, h5_6]
          · rfl
          · exact ⟨by omega, by rw [List.length_set]; exact hyl⟩
        · (try dsimp only); omega
      · clear hX18 hY18 X18 Y18
        refine SX.exit ?_
        try simp only [andThen_normal, andThen_ret, andThen_exit, inBlk_normal, inBlk_ret, inBlk_exit, Nat.reduceEqDiff, if_true, if_false, ↓reduceIte]
        refine hK13 _ _ ?_
        try clear hK13 K13
        refine SX.seq_k fun K20 hK20 => ?_
        refine SX.region_d [some 62, some 63, some 61, some 64, some 65, some 66, some 8, some 9, some 10] rfl (fun ops hops => ?_)
        unfold Dsts at hops
        simp (maxSteps := 1000000) (dsimp := false) (disch := omega) only [go_sem, ia_someH, hP, h5_7, h5_0, h5_3, h5_4, h5_5, h5_6, hops]
        refine SCall.mono (Unpack_spec (xs := xs) hP (SlI.mono (fun a v h => Cell.any h) hx) hxl hby) ?_
        rintro v_ L_ ⟨vm, sm, rfl, rfl, hrm⟩
        try with_reducible refine stI ?_
        try simp (maxSteps := 1000000) (dsimp := false) (disch := omega) only [go_sem, ia_someH, hP, h5_7, h5_0, h5_3, h5_4, h5_5, h5_6, hops]
        refine hK20 _ _ ?_
        try clear hK20 K20
        refine SX.live [0, 4, 5, 6, 8, 9] (fun T6 hT6 => ?_)
        simp only [forall_mem_cons', forall_mem_nil', go_sem, ia_someH, hP, h5_7, h5_0, h5_3, h5_4, h5_5, h5_6] at hT6
        obtain ⟨h6_0, h6_4, h6_5, h6_6, h6_8, h6_9⟩ := hT6
        clear h5_7 h5_0 h5_3 h5_4 h5_5 h5_6 T5
        refine SX.seq_k fun K21 hK21 => ?_
        refine SX.region_d [some 68, some 69, some 67, some 70, some 71, some 72, some 11, some 12, some 13] rfl (fun ops hops => ?_)
        unfold Dsts at hops
        simp (maxSteps := 1000000) (dsimp := false) (disch := omega) only [go_sem, ia_someH, hP, h6_0, h6_4, h6_5, h6_6, h6_8, h6_9, hops]
        refine SCall.mono (refUnpack_spec (xs := xs) hP (SlI.mono (fun a v h => Cell.any h) hx) hxl hby) ?_
        rintro v_ L_ ⟨vu, su, rfl, rfl, hru⟩
        try with_reducible refine stI ?_
        try simp (maxSteps := 1000000) (dsimp := false) (disch := omega) only [go_sem, ia_someH, hP, h6_0, h6_4, h6_5, h6_6, h6_8, h6_9, hops]
        refine hK21 _ _ ?_
        try clear hK21 K21
        refine SX.live [4, 5, 6, 8, 9, 11, 12, 13] (fun T7 hT7 => ?_)
        simp only [forall_mem_cons', forall_mem_nil', go_sem, ia_someH, hP, h6_0, h6_4, h6_5, h6_6, h6_8, h6_9] at hT7
        obtain ⟨h7_4, h7_5, h7_6, h7_8, h7_9, h7_11, h7_12, h7_13⟩ := hT7
        clear h6_0 h6_4 h6_5 h6_6 h6_8 h6_9 T6
        refine SX.seq_k fun K22 hK22 => ?_
        refine SX.region_d [some 73, some 74, some 75, some 76, some 77, some 78, some 79, some 80, some 81, some 82, some 83, some 84, some 85, some 86, some 87, some 88, some 89, some 90, some 91, some 92, some 93, some 94, some 2] rfl (fun ops hops => ?_)
        unfold Dsts at hops
        simp (maxSteps := 1000000) (dsimp := false) (disch := omega) only [go_sem, ia_someH, hP, h7_4, h7_5, h7_6, h7_8, h7_9, h7_11, h7_12, h7_13, hops]
        refine SCall.mono (own_spec hP hrl hrm hru huo hul) ?_
        rintro v_ L_ ⟨hv_, hL_⟩
        rw [hv_, hL_]
        clear hv_ hL_ v_ L_
        try with_reducible refine stI ?_
        try simp (maxSteps := 1000000) (dsimp := false) (disch := omega) only [go_sem, ia_someH, hP, h7_4, h7_5, h7_6, h7_8, h7_9, h7_11, h7_12, h7_13, hops]
        (refine SCall.mono (awake_spec hP hM) ?_; rintro v_ L_ ⟨hv_, hL_⟩; rw [hv_, hL_]; clear hv_ hL_ v_ L_)
        try with_reducible refine stI ?_
        try simp (maxSteps := 1000000) (dsimp := false) (disch := omega) only [go_sem, ia_someH, hP, h7_4, h7_5, h7_6, h7_8, h7_9, h7_11, h7_12, h7_13, hops]
        refine hK22 _ _ ?_
        try clear hK22 K22
        refine SX.ret ?_
        simp only [andThen_normal, andThen_ret, andThen_exit, inBlk_normal, inBlk_ret, inBlk_exit, Nat.reduceEqDiff, if_true, if_false, ↓reduceIte, retQ_ret]
        try simp only [res0, res1, res2, res3, stK_e, go_sem, ia_someH, hP, h7_4, h7_5, h7_6, h7_8, h7_9, h7_11, h7_12, h7_13]
        exact ⟨_, _, Less.drop _ _, rfl, rfl, rfl⟩

end Go.Proofs.YtcenlgofldnfcaaDoor
set_option linter.unusedVariables false
namespace Go.Proofs.YtcenlgofldnfcaaDoor
open Go.ChangeShapes Go.WideShapes Go.ChangeAt Go.RowKit Go.SX Go.Proofs
/-! What is handed in: records, bytes; the laid variable. -/
theorem own : ownKnob Tryd.prog.godebug = none := by kernel_rfl
theorem laidOut : laidOutB Tryd.prog = true := by kernel_rfl
theorem cells5 : Tryd.prog.cellsOf 5 = 1 := by kernel_rfl
theorem cells9 : Tryd.prog.cellsOf 9 = 1 := by kernel_rfl
theorem gMd : Tryd.prog.globalNamed "vesper/trace.modes" = some 0 := by kernel_rfl
theorem tMd : (Tryd.prog.globals[0]?).map (·.type) = some 89 := by kernel_rfl
theorem trod_arr_strs {H : Type} {enc : TypeId × Value → H} {P : Program} {w : World} {base : Nat} {spare : Nat → Bool} {held : Bool} {fuel : Nat} {cs : List Value} {x : DataW H × List MemPlace} {t e n : TypeId} {ss : List ByteArray} (hu : P.underlying t = some (.array n e)) (he : P.underlying e = some .string) (hc : P.cellsOf e = 1)
    (h : DataW.trod enc P w base spare held fuel t cs = some x) (hx : x.1 = .agg (ss.map fun s => .lit (.string s.data.toList))) : ∀ (i : Nat) (s : ByteArray), ss[i]? = some s → cs[i]? = some (.string s) := by
  obtain ⟨xs, m, rfl, rfl, hlen, hn, hel⟩ := DataW.trod_array hu h
  simp only [DataW.agg.injEq] at hx
  intro i s hs
  have hil : i < ss.length := (List.getElem?_eq_some_iff.1 hs).1
  have hl2 : ss.length = n := by
    have := congrArg List.length hx
    simp at this
    omega
  have h1 := hel i (by omega)
  rw [hc, Nat.mul_one] at h1
  have hxi : xs[i]? = some (xs[i]'(by omega)) := List.getElem?_eq_getElem (by omega)
  rw [hxi] at h1
  obtain ⟨z, e1, e2, _⟩ := DataW.trod_string he h1
  have h2 := congrArg (fun l => l[i]?) hx
  simp only [List.getElem?_map, hxi, hs, Option.map_some, e2, Option.some.injEq, DataW.lit.injEq, Lit.string.injEq] at h2
  have h3 : cs[i]? = some (.string z) := by
    have := congrArg List.head? e1
    rw [List.head?_take, if_neg (by omega), List.head?_drop] at this
    exact this
  rw [h3]
  have : z = s := by
    cases z; cases s
    simp only [ByteArray.mk.injEq]
    exact Array.toList_inj.1 h2
  rw [this]
theorem modes_of {W : World} {laid : List (String × DataW Unit)} (hp : (laid.all fun x => x.2.handleName?.isNone) = true) (hL : laidMetH Tryd.prog laid W) (hm : ("vesper/trace.modes", Rows.laid_vesper_trace_modes) ∈ laid) : MD ⟨Tryd.prog, W, []⟩ := by
  obtain ⟨cs, f, p, h1, h2⟩ := laid_var hp hL hm gMd tMd
  have key := trod_arr_strs (ss := mdL) Tryd.underlying89 Tryd.underlying9 cells9 h1 rfl
  intro L i hi
  refine Cell.old (by simp) ?_
  rw [h2]
  refine key i _ ?_
  match i, hi with
  | 0, _ | 1, _ | 2, _ | 3, _ => rfl
theorem flat46 : flatK Tryd.prog 9 46 = some [.i .u8, .i .u16, .i .u8, .b, .b, .i .u8, .b, .i .u8] := by kernel_rfl
section
variable {H : Type} {enc : TypeId × Value → H} {W : World} {base : Nat} {v : Value} {d : DataW H} {p : List MemPlace}
theorem rc_of {cs : List Value} (hk : okVs [.i .u8, .i .u16, .i .u8, .b, .b, .i .u8, .b, .i .u8] cs = true) : ∃ r : Rc, cs = r.cells ∧ OkR r := by
  obtain ⟨c0, v1, e1, h1, hk⟩ := okVs_i hk
  obtain ⟨c1, v2, e2, h2, hk⟩ := okVs_i hk
  obtain ⟨c2, v3, e3, h3, hk⟩ := okVs_i hk
  obtain ⟨c3, v4, e4, hk⟩ := okVs_b hk
  obtain ⟨c4, v5, e5, hk⟩ := okVs_b hk
  obtain ⟨c5, v6, e6, h6, hk⟩ := okVs_i hk
  obtain ⟨c6, v7, e7, hk⟩ := okVs_b hk
  obtain ⟨c7, v8, e8, h8, hk⟩ := okVs_i hk
  have e9 := okVs_nil hk
  subst e9 e8 e7 e6 e5 e4 e3 e2 e1
  have b1 := bounds_u8 h1
  have b2 := bounds_u16 h2
  have b3 := bounds_u8 h3
  have b6 := bounds_u8 h6
  have b8 := bounds_u8 h8
  exact ⟨⟨c0, c1, c2, c3, c4, c5, c6, c7⟩, rfl, ⟨by dsimp only; omega, by dsimp only; omega, by dsimp only; omega, by dsimp only; omega, by dsimp only; omega⟩⟩
set_option maxRecDepth 100000 in
theorem open_recs (hv : Value.okWide Tryd.prog W .any base 23 v) (h : DataW.Trod enc Tryd.prog W 0 (fun _ => true) true 23 v d p) :
    ∃ l : List Rc, SlC (Cell ⟨Tryd.prog, W, []⟩ []) v l ∧ (∀ r ∈ l, OkR r) ∧ l.length ≤ 9223372036854775807 := by
  have hkk : Tryd.prog.cellsOf 46 = 8 := by kernel_rfl
  obtain ⟨l, ⟨A, c, h1, h2, h3⟩, hl⟩ := open_slRT (R := fun cs (r : Rc) => cs = r.cells ∧ OkR r) Tryd.underlying23 hkk (fun n cs y hy => rc_of (trod_flat 9 46 _ _ _ _ flat46 hy)) hv h
  refine ⟨l, ⟨A, c, h1, h2, fun j x hj => ?_⟩, fun r hr => ?_, hl⟩
  · obtain ⟨a, ha, cs, _, ⟨rfl, _⟩, k⟩ := h3 j x hj
    exact ⟨a, ha, k⟩
  · obtain ⟨j, hj⟩ := List.mem_iff_getElem?.1 hr
    obtain ⟨a, ha, cs, _, ⟨_, k⟩, _⟩ := h3 j r hj
    exact k
end
end Go.Proofs.YtcenlgofldnfcaaDoor
