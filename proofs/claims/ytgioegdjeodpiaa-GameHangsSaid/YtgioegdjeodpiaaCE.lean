/- A part of a proof: contracts and plain facts that it stands on. -/
import Derived.Test.YtgioegdjeodpiaaCD
set_option linter.unusedVariables false
set_option linter.unusedSimpArgs false
namespace Go.Proofs.Ytgioegdjeodpiaa
open Go.RowKit Go.SX
open Go.SX renaming ia_someH → Φa

def awP : List Int := [97, 5, 98, 255, 130, 20]
def zeroF : Fnt := ⟨List.replicate 16 0, 0, []⟩
def quietD : Feed := ⟨0, 0, -1⟩
def awG : Nat → GM
  | 0 => (newG awP).1
  | k + 1 => (stepG (awG k) zeroF quietD).1
theorem awP_byte : Byte awP := fun x hx => by
  simp only [awP, List.mem_cons, List.not_mem_nil, or_false] at hx
  omega
theorem zeroF_ok : OkF zeroF := ⟨rfl, fun x hx => (by rw [List.eq_of_mem_replicate hx]; omega), by decide, fun x hx => (by simp [zeroF] at hx)⟩
theorem quietD_ok : OkD quietD := ⟨by decide, by decide⟩
def resOk (r : GM × Int × Int) : Bool := decide (r.2.1 = 1) && decide (r.2.2 = 0)
theorem aw_all : ((List.range 3).all fun k => resOk (stepG (awG k) zeroF quietD)) = true := by kernel_rfl
theorem aw_step {k : Nat} (h : k < 3) : stepG (awG k) zeroF quietD = (awG (k + 1), 1, 0) := by
  have h1 := List.all_eq_true.1 aw_all k (List.mem_range.2 h)
  simp only [resOk, Bool.and_eq_true, decide_eq_true_eq] at h1
  rw [show awG (k + 1) = (stepG (awG k) zeroF quietD).1 from rfl, ← h1.1, ← h1.2]
theorem aw_fine : ∀ k, k ≤ 3 → Fine (awG k)
  | 0, _ => (newG_fine awP_byte (by decide)).1
  | k + 1, h => (aw_fine k (by omega)).step zeroF_ok quietD_ok (by rw [aw_step (by omega)])
theorem aw_end : (awG 3).V.getD 1 0 = 5 ∧ (awG 3).V.getD 2 0 = 4 ∧ (awG 3).V.getD 15 0 = 1 ∧ (awG 3).PC = 518 := by
  refine ⟨?_, ?_, ?_, ?_⟩ <;> kernel_rfl
def awR (G : Nat → GM) (k : Nat) (L : Hp) (v : Value) (L' : Hp) : Prop := ∃ sv pv mv s1 s2 s3, v = .tuple #[.agg ((G k).cells sv pv mv).toArray, .int .u8 1, .int .i64 0] ∧ L' = s1 :: s2 :: s3 :: L ∧ Rows (G k) sv pv mv s1 s2 s3
def aw0R (G : Nat → GM) (L : Hp) (v : Value) (L' : Hp) : Prop := ∃ sv pv mv s1 s2 s3, v = .tuple #[.agg ((G 0).cells sv pv mv).toArray, .int .i64 0] ∧ L' = s1 :: s2 :: s3 :: L ∧ Rows (G 0) sv pv mv s1 s2 s3
theorem aw_new {Γ : Ctx} (hP : Γ.P = Try.prog) {L : Hp} {v : Value} (hp : SlI .u8 (Cell Γ L) v awP) : SCall Γ 13 #[v] L (aw0R awG L) := by
  refine SCall.mono (New_spec hP hp (by decide)) ?_
  rintro v' L' ⟨sv, pv, mv, s1, s2, s3, rfl, rfl, h⟩
  rw [(newG_fine awP_byte (by decide)).2]
  exact ⟨sv, pv, mv, s1, s2, s3, rfl, rfl, h⟩
theorem aw_call {Γ : Ctx} (hP : Γ.P = Try.prog) {L : Hp} {k : Nat} (hk : k < 3) {sv pv mv : Value} (hs : SlI .u16 (Cell Γ L) sv (awG k).st) (hp : SlI .u8 (Cell Γ L) pv (awG k).pg) (hm : SlI .u8 (Cell Γ L) mv (awG k).mm) :
    SCall Γ 25 #[.agg ((awG k).cells sv pv mv).toArray, .agg (zeroF.cells (.slice none 0 0)).toArray, .agg quietD.cells.toArray] L (awR awG (k + 1) L) := by
  have hF := aw_fine k (by omega)
  have h1 := hF.st
  have h2 := hF.pg
  have h3 := hF.mm
  have := Step_spec (Γ := Γ) (L := L) (fv := .slice none 0 0) hP hF.ok zeroF_ok quietD_ok hs hp hm ⟨none, 0, rfl, Nat.le_refl _, fun j x hj => (by simp [zeroF] at hj)⟩ (by omega) (by omega) (by omega) (by decide)
  rwa [aw_step hk] at this
theorem lessBox (a b c p : Slot) (L : Hp) : Less (a :: b :: c :: p :: L) (p :: a :: b :: c :: L) := Less.perm (List.perm_middle (l₁ := [a, b, c]))
set_option maxHeartbeats 1000000 in
set_option maxRecDepth 100000 in
theorem awake_core {Γ : Ctx} (hP : Γ.P = Try.prog) {L : Hp} {G : Nat → GM} (hF : ∀ k, k ≤ 3 → Fine (G k)) (h0 : (G 0).PC = 512) (hend : (G 3).V.getD 1 0 = 5 ∧ (G 3).V.getD 2 0 = 4 ∧ (G 3).V.getD 15 0 = 1 ∧ (G 3).PC = 518) (hnew : ∀ (L : Hp) (v : Value), SlI .u8 (Cell Γ L) v awP → SCall Γ 13 #[v] L (aw0R G L)) (hcall : ∀ (L : Hp) (k : Nat) (sv pv mv : Value), k < 3 → SlI .u16 (Cell Γ L) sv (G k).st → SlI .u8 (Cell Γ L) pv (G k).pg → SlI .u8 (Cell Γ L) mv (G k).mm → SCall Γ 25 #[.agg ((G k).cells sv pv mv).toArray, .agg (zeroF.cells (.slice none 0 0)).toArray, .agg quietD.cells.toArray] L (awR G (k + 1) L)) :
    SCall Γ 11 #[] L (fun v L' => v = .bool true ∧ L' = L) := by
  have aw0PC := h0
  have aw0mm : ((G 0).mm.length : Int) = 3232 := by rw [(hF 0 (by decide)).mm]; rfl
  have aw0pg : ((G 0).pg.length : Int) = 256 := by rw [(hF 0 (by decide)).pg]; rfl
  refine SCall.enter (n := 71) (res1 0) (hP ▸ Try.func11) rfl rfl (by simp) (res1_ok rfl) ?_
  refine SX.seq_k fun K1 hK1 => ?_
  refine SX.region_d [some 0] rfl (fun ops hops => ?_)
  unfold Dsts at hops
  simp (maxSteps:=1000000)(dsimp:=false)(disch:=omega) only [go_sem, Φa, hP, hops]
  refine hK1 _ _ ?_
  try clear hK1 K1
  refine SX.seq_k fun K2 hK2 => ?_
  refine SX.region_d [some 8, some 9, some 7, some 10, some 11, some 1, none, some 2] rfl (fun ops hops => ?_)
  unfold Dsts at hops
  simp (maxSteps:=1000000)(dsimp:=false)(disch:=omega) only [go_sem, Φa, hP, hops]
  intro b0
  try with_reducible refine stI ?_
  try simp (maxSteps:=1000000)(dsimp:=false)(disch:=omega) only [go_sem, Φa, hP, hops]
  refine SCall.mono (hnew _ _ (SlI.own (xs := awP) 0 rfl rfl (by decide))) ?_
  rintro v_ L_ ⟨sv, pv, mv, s1, s2, s3, rfl, rfl, hr⟩
  obtain ⟨A0st, c0st, rfl, hc0st⟩ := rowShape hr.st
  obtain ⟨A0pg, c0pg, rfl, hc0pg⟩ := rowShape hr.pg
  obtain ⟨A0mm, c0mm, rfl, hc0mm⟩ := rowShape hr.mm
  unfold GM.cells
  try with_reducible refine stI ?_
  try simp (maxSteps:=1000000)(dsimp:=false)(disch:=omega) only [go_sem, Φa, hP, hops]
  intro b1
  try with_reducible refine stI ?_
  try simp (maxSteps:=1000000)(dsimp:=false)(disch:=omega) only [go_sem, Φa, hP, hops]
  refine ⟨0, _, _, _, rfl, by decide, .inr (by decide), ?_⟩
  try with_reducible refine stI ?_
  try simp (maxSteps:=1000000)(dsimp:=false)(disch:=omega) only [go_sem, Φa, hP, hops]
  refine hK2 _ _ ?_
  try clear hK2 K2
  refine SX.seq_k fun K3 hK3 => ?_
  refine SX.seq_k fun K4 hK4 => ?_
  refine SX.region_xd [some 12, some 13, some 14, some 15, some 16, some 17, some 18, some 19, some 20, some 21, some 22, some 23, some 24, some 25, some 26, some 27, some 28, some 29, some 30] rfl (fun ops hops => ?_)
  unfold Dsts at hops
  refine RX.live [1, 2] (fun T1 hT1 => ?_)
  simp only [forall_mem_cons', forall_mem_nil', go_sem, Φa, hP] at hT1
  obtain ⟨h1_1, h1_2⟩ := hT1
  refine RX.join 7 (fun (ss : Unit) T L' => T 18 = .bool (false) ∧ T 1 = T1 1 ∧ L' = some (b1, .cells ((G 0).cells (.slice A0st (G 0).st.length c0st) (.slice A0pg (G 0).pg.length c0pg) (.slice A0mm (G 0).mm.length c0mm)).toArray 29 (0, 0)) :: s1 :: s2 :: s3 :: some (b0, .cells (ints .u8 awP).toArray 5 (0, 0)) :: L ∧ (True)) (fun K5 hK5 => ?_) ?_
  · simp only [h1_1] at hK5
    simp (maxSteps:=1000000)(dsimp:=false)(disch:=omega) only [go_sem, Φa, hP, h1_1, h1_2, hops]
    repeat' (first | refine iteB (fun hg => ?_) (fun hg => ?_) | refine iteI (fun hg => ?_) (fun hg => ?_) | ((first | refine ⟨_, Cell.at 0 rfl (show ((G 0).cells _ _ _)[17]? = some (.int .u16 (G 0).PC) from rfl), ?_⟩ | refine And.intro (by omega) ?_ | refine ⟨_, Cell.at 0 rfl rfl, ?_⟩ | refine ⟨_, Cell.at 1 rfl rfl, ?_⟩ | refine ⟨_, Cell.at 2 rfl rfl, ?_⟩ | refine ⟨_, Cell.at 3 rfl rfl, ?_⟩ | refine ⟨_, Cell.at 4 rfl rfl, ?_⟩ | fail); try (with_reducible refine stI ?_); try simp (maxSteps:=1000000)(dsimp:=false)(disch:=omega) only [go_sem, Φa, hP, h1_1, h1_2, hops]) | fail)
    all_goals
      refine hK5 () _ (some (b1, .cells ((G 0).cells (.slice A0st (G 0).st.length c0st) (.slice A0pg (G 0).pg.length c0pg) (.slice A0mm (G 0).mm.length c0mm)).toArray 29 (0, 0)) :: s1 :: s2 :: s3 :: some (b0, .cells (ints .u8 awP).toArray 5 (0, 0)) :: L) _ (by first | exact Less.refl _ | exact Less.drop _ _ | exact Less.drops (Less.drop _ _) | exact Less.drops (Less.drops (Less.drop _ _)) | exact Less.drops (Less.drops (Less.drops (Less.drop _ _))) | exact Less.drops (Less.drops (Less.drops (Less.drops (Less.drop _ _))))) ?_
      try dsimp only
      refine ⟨?_, ?_, ?_, ?_⟩
      · simp (maxSteps:=1000000)(dsimp:=false)(disch:=omega) only [go_sem, Φa, hP, h1_1, h1_2]
        first | done | exact congrArg _ (decide_eq_decide.2 (by omega)) | exact congrArg _ (decide_eq_true (by omega)).symm | exact congrArg _ (decide_eq_false (by omega)).symm
      · simp (maxSteps:=1000000)(dsimp:=false)(disch:=omega) only [go_sem, Φa, hP, h1_1, h1_2]
      · rfl
      · trivial
  · intro ss T2 L2 hI
    simp only [h1_1] at hI 
    obtain ⟨h2_18, h2_1, hL2, hinv⟩ := hI
    replace hL2 := hL2.symm
    subst hL2
    clear h1_1 h1_2 T1
    refine RX.live [1, 18] (fun T3 hT3 => ?_)
    simp only [forall_mem_cons', forall_mem_nil', go_sem, Φa, hP, h2_18, h2_1] at hT3
    obtain ⟨h3_1, h3_18⟩ := hT3
    clear h2_18 h2_1 T2
    refine RX.join 6 (fun (ss : Unit) T L' => T 24 = .bool (false) ∧ T 1 = T3 1 ∧ L' = some (b1, .cells ((G 0).cells (.slice A0st (G 0).st.length c0st) (.slice A0pg (G 0).pg.length c0pg) (.slice A0mm (G 0).mm.length c0mm)).toArray 29 (0, 0)) :: s1 :: s2 :: s3 :: some (b0, .cells (ints .u8 awP).toArray 5 (0, 0)) :: L ∧ (True)) (fun K6 hK6 => ?_) ?_
    · simp only [h3_1] at hK6
      simp (maxSteps:=1000000)(dsimp:=false)(disch:=omega) only [go_sem, Φa, hP, h3_1, h3_18, hops]
      repeat' (first | refine iteB (fun hg => ?_) (fun hg => ?_) | refine iteI (fun hg => ?_) (fun hg => ?_) | ((first | refine ⟨_, Cell.at 0 rfl (show ((G 0).cells _ _ _)[17]? = some (.int .u16 (G 0).PC) from rfl), ?_⟩ | refine And.intro (by omega) ?_ | refine ⟨_, Cell.at 0 rfl rfl, ?_⟩ | refine ⟨_, Cell.at 1 rfl rfl, ?_⟩ | refine ⟨_, Cell.at 2 rfl rfl, ?_⟩ | refine ⟨_, Cell.at 3 rfl rfl, ?_⟩ | refine ⟨_, Cell.at 4 rfl rfl, ?_⟩ | fail); try (with_reducible refine stI ?_); try simp (maxSteps:=1000000)(dsimp:=false)(disch:=omega) only [go_sem, Φa, hP, h3_1, h3_18, hops]) | fail)
      all_goals
        refine hK6 () _ (some (b1, .cells ((G 0).cells (.slice A0st (G 0).st.length c0st) (.slice A0pg (G 0).pg.length c0pg) (.slice A0mm (G 0).mm.length c0mm)).toArray 29 (0, 0)) :: s1 :: s2 :: s3 :: some (b0, .cells (ints .u8 awP).toArray 5 (0, 0)) :: L) _ (by first | exact Less.refl _ | exact Less.drop _ _ | exact Less.drops (Less.drop _ _) | exact Less.drops (Less.drops (Less.drop _ _)) | exact Less.drops (Less.drops (Less.drops (Less.drop _ _))) | exact Less.drops (Less.drops (Less.drops (Less.drops (Less.drop _ _))))) ?_
        try dsimp only
        refine ⟨?_, ?_, ?_, ?_⟩
        · simp (maxSteps:=1000000)(dsimp:=false)(disch:=omega) only [go_sem, Φa, hP, h3_1, h3_18]
          first | done | exact congrArg _ (decide_eq_decide.2 (by omega)) | exact congrArg _ (decide_eq_true (by omega)).symm | exact congrArg _ (decide_eq_false (by omega)).symm
        · simp (maxSteps:=1000000)(dsimp:=false)(disch:=omega) only [go_sem, Φa, hP, h3_1, h3_18]
        · rfl
        · trivial
    · intro ss T4 L4 hI
      simp only [h3_1] at hI 
      obtain ⟨h4_24, h4_1, hL4, hinv⟩ := hI
      replace hL4 := hL4.symm
      subst hL4
      clear h3_1 h3_18 T3
      refine RX.live [1, 24] (fun T5 hT5 => ?_)
      simp only [forall_mem_cons', forall_mem_nil', go_sem, Φa, hP, h4_24, h4_1] at hT5
      obtain ⟨h5_1, h5_24⟩ := hT5
      clear h4_24 h4_1 T4
      refine RX.join 6 (fun (ss : Unit) T L' => T 30 = .bool (false) ∧ T 1 = T5 1 ∧ L' = some (b1, .cells ((G 0).cells (.slice A0st (G 0).st.length c0st) (.slice A0pg (G 0).pg.length c0pg) (.slice A0mm (G 0).mm.length c0mm)).toArray 29 (0, 0)) :: s1 :: s2 :: s3 :: some (b0, .cells (ints .u8 awP).toArray 5 (0, 0)) :: L ∧ (True)) (fun K7 hK7 => ?_) ?_
      · simp only [h5_1] at hK7
        simp (maxSteps:=1000000)(dsimp:=false)(disch:=omega) only [go_sem, Φa, hP, h5_1, h5_24, hops]
        repeat' (first | refine iteB (fun hg => ?_) (fun hg => ?_) | refine iteI (fun hg => ?_) (fun hg => ?_) | ((first | refine ⟨_, Cell.at 0 rfl (show ((G 0).cells _ _ _)[17]? = some (.int .u16 (G 0).PC) from rfl), ?_⟩ | refine And.intro (by omega) ?_ | refine ⟨_, Cell.at 0 rfl rfl, ?_⟩ | refine ⟨_, Cell.at 1 rfl rfl, ?_⟩ | refine ⟨_, Cell.at 2 rfl rfl, ?_⟩ | refine ⟨_, Cell.at 3 rfl rfl, ?_⟩ | refine ⟨_, Cell.at 4 rfl rfl, ?_⟩ | fail); try (with_reducible refine stI ?_); try simp (maxSteps:=1000000)(dsimp:=false)(disch:=omega) only [go_sem, Φa, hP, h5_1, h5_24, hops]) | fail)
        all_goals
          refine hK7 () _ (some (b1, .cells ((G 0).cells (.slice A0st (G 0).st.length c0st) (.slice A0pg (G 0).pg.length c0pg) (.slice A0mm (G 0).mm.length c0mm)).toArray 29 (0, 0)) :: s1 :: s2 :: s3 :: some (b0, .cells (ints .u8 awP).toArray 5 (0, 0)) :: L) _ (by first | exact Less.refl _ | exact Less.drop _ _ | exact Less.drops (Less.drop _ _) | exact Less.drops (Less.drops (Less.drop _ _)) | exact Less.drops (Less.drops (Less.drops (Less.drop _ _))) | exact Less.drops (Less.drops (Less.drops (Less.drops (Less.drop _ _))))) ?_
          try dsimp only
          refine ⟨?_, ?_, ?_, ?_⟩
          · simp (maxSteps:=1000000)(dsimp:=false)(disch:=omega) only [go_sem, Φa, hP, h5_1, h5_24]
            first | done | exact congrArg _ (decide_eq_decide.2 (by omega)) | exact congrArg _ (decide_eq_true (by omega)).symm | exact congrArg _ (decide_eq_false (by omega)).symm
          · simp (maxSteps:=1000000)(dsimp:=false)(disch:=omega) only [go_sem, Φa, hP, h5_1, h5_24]
          · rfl
          · trivial
      · intro ss T6 L6 hI
        simp only [h5_1] at hI 
        obtain ⟨h6_30, h6_1, hL6, hinv⟩ := hI
        replace hL6 := hL6.symm
        subst hL6
        clear h5_1 h5_24 T5
        refine RX.done ?_
        simp (maxSteps:=1000000)(dsimp:=false)(disch:=omega) only [go_sem, Φa, hP, h6_30, h6_1, hops]
        refine hK4 _ _ ?_
        try clear hK4 K4
        refine SX.cond_k fun X8 Y8 hX8 hY8 => ?_
        simp (maxSteps:=1000000)(dsimp:=false)(disch:=omega) only [go_sem, Φa, hP, h6_30, h6_1, condVC]
        refine hY8 ?_
        clear hX8 hY8 X8 Y8
        refine SX.skip ?_
        try simp only [andThen_normal, andThen_ret, andThen_exit, inBlk_normal, inBlk_ret, inBlk_exit, Nat.reduceEqDiff, if_true, if_false, ↓reduceIte]
        refine hK3 _ _ ?_
        try clear hK3 K3
        refine SX.seq_k fun K9 hK9 => ?_
        refine SX.seq_k fun K10 hK10 => ?_
        refine SX.region_d [some 3] rfl (fun ops hops => ?_)
        unfold Dsts at hops
        simp (maxSteps:=1000000)(dsimp:=false)(disch:=omega) only [go_sem, Φa, hP, h6_30, h6_1, hops]
        refine hK10 _ _ ?_
        try clear hK10 K10
        refine SX.block ?_
        refine SX.less (Less.sublist (.cons_cons _ (.cons_cons _ (.cons_cons _ (.cons_cons _ (.cons _ (List.Sublist.refl _))))))) ?_
        refine SX.live [1, 3] (fun T7 hT7 => ?_)
        simp only [forall_mem_cons', forall_mem_nil', go_sem, Φa, hP, h6_30, h6_1] at hT7
        obtain ⟨h7_1, h7_3⟩ := hT7
        clear h6_30 h6_1 T6
        refine SX.loop_k (fun (ss : (Nat) × (Value) × (Value) × (Value) × (Slot) × (Slot) × (Slot)) T L' => (fun (k : Nat) (sv : Value) (pv : Value) (mv : Value) (s1 : Slot) (s2 : Slot) (s3 : Slot) => T 3 = .int .i64 (k : Int) ∧ T 1 = T7 1 ∧ L' = some (b1, .cells ((G k).cells sv pv mv).toArray 29 (0, 0)) :: s1 :: s2 :: s3 :: L ∧ (k ≤ 3 ∧ Rows (G k) sv pv mv s1 s2 s3)) (ss.1) (ss.2.1) (ss.2.2.1) (ss.2.2.2.1) (ss.2.2.2.2.1) (ss.2.2.2.2.2.1) (ss.2.2.2.2.2.2)) (fun (ss : (Nat) × (Value) × (Value) × (Value) × (Slot) × (Slot) × (Slot)) => (fun (k : Nat) (sv : Value) (pv : Value) (mv : Value) (s1 : Slot) (s2 : Slot) (s3 : Slot) => 3 - k) (ss.1) (ss.2.1) (ss.2.2.1) (ss.2.2.2.1) (ss.2.2.2.2.1) (ss.2.2.2.2.2.1) (ss.2.2.2.2.2.2)) (0, .slice A0st (G 0).st.length c0st, .slice A0pg (G 0).pg.length c0pg, .slice A0mm (G 0).mm.length c0mm, s1, s2, s3) ?_ ?_
        · try dsimp only
          refine ⟨?_, ?_, ?_, ?_⟩
          · first | exact h7_3 | (rw [h7_3]; rfl) | (rw [h7_3]; simp; done)
          · rfl
          · rfl
          · exact ⟨Nat.zero_le _, hr⟩
        · intro ss T8 L8 hI K11 hK11
          obtain ⟨k, sv, pv, mv, s1, s2, s3⟩ := ss
          try dsimp only at hI hK11
          simp only [h7_1] at hI hK11
          obtain ⟨h8_3, h8_1, hL8, ⟨hk, hr⟩⟩ := hI
          replace hL8 := hL8.symm
          subst hL8
          clear h7_1 h7_3 T7
          refine SX.seq_k fun K12 hK12 => ?_
          refine SX.seq_k fun K13 hK13 => ?_
          refine SX.region_d [some 31, some 32] rfl (fun ops hops => ?_)
          unfold Dsts at hops
          simp (maxSteps:=1000000)(dsimp:=false)(disch:=omega) only [go_sem, Φa, hP, h8_3, h8_1, hops]
          repeat' ((first | refine And.intro (by omega) ?_ | fail); try (with_reducible refine stI ?_); try simp (maxSteps:=1000000)(dsimp:=false)(disch:=omega) only [go_sem, Φa, hP, h8_3, h8_1, hops])
          refine hK13 _ _ ?_
          try clear hK13 K13
          refine SX.cond_k fun X14 Y14 hX14 hY14 => ?_
          simp (maxSteps:=1000000)(dsimp:=false)(disch:=omega) only [go_sem, Φa, hP, h8_3, h8_1, condVC]
          refine ⟨fun hc32 => hX14 ?_, fun hc32 => hY14 ?_⟩
          · clear hX14 hY14 X14 Y14
            refine SX.skip ?_
            try simp only [andThen_normal, andThen_ret, andThen_exit, inBlk_normal, inBlk_ret, inBlk_exit, Nat.reduceEqDiff, if_true, if_false, ↓reduceIte]
            refine hK12 _ _ ?_
            try clear hK12 K12
            refine SX.seq_k fun K15 hK15 => ?_
            refine SX.block ?_
            refine SX.seq_k fun K16 hK16 => ?_
            have hk3 : k < 3 := by omega
            refine SX.region_d [some 36, some 37, some 38, some 39, some 35, some 40, some 41, some 42, some 4, none, some 5, some 6] rfl (fun ops hops => ?_)
            unfold Dsts at hops
            simp (maxSteps:=1000000)(dsimp:=false)(disch:=omega) only [go_sem, Φa, hP, h8_3, h8_1, hops]
            obtain ⟨A0st, c0st, rfl, hc0st⟩ := rowShape hr.st
            obtain ⟨A0pg, c0pg, rfl, hc0pg⟩ := rowShape hr.pg
            obtain ⟨A0mm, c0mm, rfl, hc0mm⟩ := rowShape hr.mm
            refine ⟨_, Cell.at 0 rfl rfl, ?_⟩
            try with_reducible refine stI ?_
            try simp (maxSteps:=1000000)(dsimp:=false)(disch:=omega) only [go_sem, Φa, hP, h8_3, h8_1, hops]
            refine ⟨_, Cell.at 0 rfl rfl, ?_⟩
            try with_reducible refine stI ?_
            try simp (maxSteps:=1000000)(dsimp:=false)(disch:=omega) only [go_sem, Φa, hP, h8_3, h8_1, hops]
            refine ⟨_, Cell.at 0 rfl rfl, ?_⟩
            try with_reducible refine stI ?_
            try simp (maxSteps:=1000000)(dsimp:=false)(disch:=omega) only [go_sem, Φa, hP, h8_3, h8_1, hops]
            refine ⟨_, Cell.at 0 rfl rfl, ?_⟩
            try with_reducible refine stI ?_
            try simp (maxSteps:=1000000)(dsimp:=false)(disch:=omega) only [go_sem, Φa, hP, h8_3, h8_1, hops]
            refine ⟨_, Cell.at 0 rfl rfl, ?_⟩
            try with_reducible refine stI ?_
            try simp (maxSteps:=1000000)(dsimp:=false)(disch:=omega) only [go_sem, Φa, hP, h8_3, h8_1, hops]
            refine ⟨_, Cell.at 0 rfl rfl, ?_⟩
            try with_reducible refine stI ?_
            try simp (maxSteps:=1000000)(dsimp:=false)(disch:=omega) only [go_sem, Φa, hP, h8_3, h8_1, hops]
            refine ⟨_, Cell.at 0 rfl rfl, ?_⟩
            try with_reducible refine stI ?_
            try simp (maxSteps:=1000000)(dsimp:=false)(disch:=omega) only [go_sem, Φa, hP, h8_3, h8_1, hops]
            refine ⟨_, Cell.at 0 rfl rfl, ?_⟩
            try with_reducible refine stI ?_
            try simp (maxSteps:=1000000)(dsimp:=false)(disch:=omega) only [go_sem, Φa, hP, h8_3, h8_1, hops]
            refine ⟨_, Cell.at 0 rfl rfl, ?_⟩
            try with_reducible refine stI ?_
            try simp (maxSteps:=1000000)(dsimp:=false)(disch:=omega) only [go_sem, Φa, hP, h8_3, h8_1, hops]
            refine ⟨_, Cell.at 0 rfl rfl, ?_⟩
            try with_reducible refine stI ?_
            try simp (maxSteps:=1000000)(dsimp:=false)(disch:=omega) only [go_sem, Φa, hP, h8_3, h8_1, hops]
            refine ⟨_, Cell.at 0 rfl rfl, ?_⟩
            try with_reducible refine stI ?_
            try simp (maxSteps:=1000000)(dsimp:=false)(disch:=omega) only [go_sem, Φa, hP, h8_3, h8_1, hops]
            refine ⟨_, Cell.at 0 rfl rfl, ?_⟩
            try with_reducible refine stI ?_
            try simp (maxSteps:=1000000)(dsimp:=false)(disch:=omega) only [go_sem, Φa, hP, h8_3, h8_1, hops]
            refine ⟨_, Cell.at 0 rfl rfl, ?_⟩
            try with_reducible refine stI ?_
            try simp (maxSteps:=1000000)(dsimp:=false)(disch:=omega) only [go_sem, Φa, hP, h8_3, h8_1, hops]
            refine ⟨_, Cell.at 0 rfl rfl, ?_⟩
            try with_reducible refine stI ?_
            try simp (maxSteps:=1000000)(dsimp:=false)(disch:=omega) only [go_sem, Φa, hP, h8_3, h8_1, hops]
            refine ⟨_, Cell.at 0 rfl rfl, ?_⟩
            try with_reducible refine stI ?_
            try simp (maxSteps:=1000000)(dsimp:=false)(disch:=omega) only [go_sem, Φa, hP, h8_3, h8_1, hops]
            refine ⟨_, Cell.at 0 rfl rfl, ?_⟩
            try with_reducible refine stI ?_
            try simp (maxSteps:=1000000)(dsimp:=false)(disch:=omega) only [go_sem, Φa, hP, h8_3, h8_1, hops]
            refine ⟨_, Cell.at 0 rfl rfl, ?_⟩
            try with_reducible refine stI ?_
            try simp (maxSteps:=1000000)(dsimp:=false)(disch:=omega) only [go_sem, Φa, hP, h8_3, h8_1, hops]
            refine ⟨_, Cell.at 0 rfl rfl, ?_⟩
            try with_reducible refine stI ?_
            try simp (maxSteps:=1000000)(dsimp:=false)(disch:=omega) only [go_sem, Φa, hP, h8_3, h8_1, hops]
            refine ⟨_, Cell.at 0 rfl rfl, ?_⟩
            try with_reducible refine stI ?_
            try simp (maxSteps:=1000000)(dsimp:=false)(disch:=omega) only [go_sem, Φa, hP, h8_3, h8_1, hops]
            refine ⟨_, Cell.at 0 rfl rfl, ?_⟩
            try with_reducible refine stI ?_
            try simp (maxSteps:=1000000)(dsimp:=false)(disch:=omega) only [go_sem, Φa, hP, h8_3, h8_1, hops]
            refine ⟨_, Cell.at 0 rfl rfl, ?_⟩
            try with_reducible refine stI ?_
            try simp (maxSteps:=1000000)(dsimp:=false)(disch:=omega) only [go_sem, Φa, hP, h8_3, h8_1, hops]
            refine ⟨_, Cell.at 0 rfl rfl, ?_⟩
            try with_reducible refine stI ?_
            try simp (maxSteps:=1000000)(dsimp:=false)(disch:=omega) only [go_sem, Φa, hP, h8_3, h8_1, hops]
            refine ⟨_, Cell.at 0 rfl rfl, ?_⟩
            try with_reducible refine stI ?_
            try simp (maxSteps:=1000000)(dsimp:=false)(disch:=omega) only [go_sem, Φa, hP, h8_3, h8_1, hops]
            refine SCall.mono (hcall _ _ _ _ _ hk3 (RowI.sl hr.st (i := 1) rfl) (RowI.sl hr.pg (i := 2) rfl) (RowI.sl hr.mm (i := 3) rfl)) ?_
            rintro v_ L_ ⟨sv', pv', mv', s1', s2', s3', rfl, rfl, hr'⟩
            obtain ⟨A1st, c1st, rfl, hc1st⟩ := rowShape hr'.st
            obtain ⟨A1pg, c1pg, rfl, hc1pg⟩ := rowShape hr'.pg
            obtain ⟨A1mm, c1mm, rfl, hc1mm⟩ := rowShape hr'.mm
            unfold GM.cells
            try with_reducible refine stI ?_
            try simp (maxSteps:=1000000)(dsimp:=false)(disch:=omega) only [go_sem, Φa, hP, h8_3, h8_1, hops]
            intro b4
            try with_reducible refine stI ?_
            try simp (maxSteps:=1000000)(dsimp:=false)(disch:=omega) only [go_sem, Φa, hP, h8_3, h8_1, hops]
            refine ⟨0, _, _, _, rfl, by decide, .inr (by decide), ?_⟩
            try with_reducible refine stI ?_
            try simp (maxSteps:=1000000)(dsimp:=false)(disch:=omega) only [go_sem, Φa, hP, h8_3, h8_1, hops]
            refine hK16 _ _ ?_
            try clear hK16 K16
            refine SX.live [1, 3, 4, 5, 6] (fun T9 hT9 => ?_)
            simp only [forall_mem_cons', forall_mem_nil', go_sem, Φa, hP, h8_3, h8_1] at hT9
            obtain ⟨h9_1, h9_3, h9_4, h9_5, h9_6⟩ := hT9
            clear h8_3 h8_1 T8
            refine SX.seq_k fun K17 hK17 => ?_
            refine SX.seq_k fun K18 hK18 => ?_
            refine SX.region_xd [some 43, some 44, some 45, some 46, some 47, some 48] rfl (fun ops hops => ?_)
            unfold Dsts at hops
            refine RX.live [1, 3, 4, 5, 6] (fun T10 hT10 => ?_)
            simp only [forall_mem_cons', forall_mem_nil', go_sem, Φa, hP, h9_1, h9_3, h9_4, h9_5, h9_6] at hT10
            obtain ⟨h10_1, h10_3, h10_4, h10_5, h10_6⟩ := hT10
            clear h9_1 h9_3 h9_4 h9_5 h9_6 T9
            refine RX.join 6 (fun (ss : Unit) T L' => T 48 = .bool (false) ∧ T 1 = T10 1 ∧ T 3 = T10 3 ∧ T 4 = T10 4 ∧ L' = some (b4, .cells ((G (k + 1)).cells (.slice A1st (G (k + 1)).st.length c1st) (.slice A1pg (G (k + 1)).pg.length c1pg) (.slice A1mm (G (k + 1)).mm.length c1mm)).toArray 29 (0, 0)) :: s1' :: s2' :: s3' :: some (b1, .cells ((G k).cells (.slice A0st (G k).st.length c0st) (.slice A0pg (G k).pg.length c0pg) (.slice A0mm (G k).mm.length c0mm)).toArray 29 (0, 0)) :: s1 :: s2 :: s3 :: L ∧ (True)) (fun K19 hK19 => ?_) ?_
            · simp only [h10_1, h10_3, h10_4] at hK19
              simp (maxSteps:=1000000)(dsimp:=false)(disch:=omega) only [go_sem, Φa, hP, h10_1, h10_3, h10_4, h10_5, h10_6, hops]
              repeat' (first | refine iteB (fun hg => ?_) (fun hg => ?_) | refine iteI (fun hg => ?_) (fun hg => ?_) | ((first | refine And.intro (by omega) ?_ | refine ⟨_, Cell.at 0 rfl rfl, ?_⟩ | refine ⟨_, Cell.at 1 rfl rfl, ?_⟩ | refine ⟨_, Cell.at 2 rfl rfl, ?_⟩ | refine ⟨_, Cell.at 3 rfl rfl, ?_⟩ | refine ⟨_, Cell.at 4 rfl rfl, ?_⟩ | refine ⟨_, Cell.at 5 rfl rfl, ?_⟩ | refine ⟨_, Cell.at 6 rfl rfl, ?_⟩ | refine ⟨_, Cell.at 7 rfl rfl, ?_⟩ | fail); try (with_reducible refine stI ?_); try simp (maxSteps:=1000000)(dsimp:=false)(disch:=omega) only [go_sem, Φa, hP, h10_1, h10_3, h10_4, h10_5, h10_6, hops]) | fail)
              all_goals
                refine hK19 () _ (some (b4, .cells ((G (k + 1)).cells (.slice A1st (G (k + 1)).st.length c1st) (.slice A1pg (G (k + 1)).pg.length c1pg) (.slice A1mm (G (k + 1)).mm.length c1mm)).toArray 29 (0, 0)) :: s1' :: s2' :: s3' :: some (b1, .cells ((G k).cells (.slice A0st (G k).st.length c0st) (.slice A0pg (G k).pg.length c0pg) (.slice A0mm (G k).mm.length c0mm)).toArray 29 (0, 0)) :: s1 :: s2 :: s3 :: L) _ (by first | exact Less.refl _ | exact Less.drop _ _ | exact Less.drops (Less.drop _ _) | exact Less.drops (Less.drops (Less.drop _ _)) | exact Less.drops (Less.drops (Less.drops (Less.drop _ _))) | exact Less.drops (Less.drops (Less.drops (Less.drops (Less.drop _ _))))) ?_
                try dsimp only
                refine ⟨?_, ?_, ?_, ?_, ?_, ?_⟩
                · simp (maxSteps:=1000000)(dsimp:=false)(disch:=omega) only [go_sem, Φa, hP, h10_1, h10_3, h10_4, h10_5, h10_6]
                  first | done | exact congrArg _ (decide_eq_decide.2 (by omega)) | exact congrArg _ (decide_eq_true (by omega)).symm | exact congrArg _ (decide_eq_false (by omega)).symm
                · simp (maxSteps:=1000000)(dsimp:=false)(disch:=omega) only [go_sem, Φa, hP, h10_1, h10_3, h10_4, h10_5, h10_6]
                · simp (maxSteps:=1000000)(dsimp:=false)(disch:=omega) only [go_sem, Φa, hP, h10_1, h10_3, h10_4, h10_5, h10_6]
                · simp (maxSteps:=1000000)(dsimp:=false)(disch:=omega) only [go_sem, Φa, hP, h10_1, h10_3, h10_4, h10_5, h10_6]
                · rfl
                · trivial
            · intro ss T11 L11 hI
              simp only [h10_1, h10_3, h10_4] at hI 
              obtain ⟨h11_48, h11_1, h11_3, h11_4, hL11, hinv⟩ := hI
              replace hL11 := hL11.symm
              subst hL11
              clear h10_1 h10_3 h10_4 h10_5 h10_6 T10
              refine RX.done ?_
              simp (maxSteps:=1000000)(dsimp:=false)(disch:=omega) only [go_sem, Φa, hP, h11_48, h11_1, h11_3, h11_4, hops]
              refine hK18 _ _ ?_
              try clear hK18 K18
              refine SX.cond_k fun X20 Y20 hX20 hY20 => ?_
              simp (maxSteps:=1000000)(dsimp:=false)(disch:=omega) only [go_sem, Φa, hP, h11_48, h11_1, h11_3, h11_4, condVC]
              refine hY20 ?_
              clear hX20 hY20 X20 Y20
              refine SX.skip ?_
              try simp only [andThen_normal, andThen_ret, andThen_exit, inBlk_normal, inBlk_ret, inBlk_exit, Nat.reduceEqDiff, if_true, if_false, ↓reduceIte]
              refine hK17 _ _ ?_
              try clear hK17 K17
              refine SX.region_d [some 49, none] rfl (fun ops hops => ?_)
              unfold Dsts at hops
              simp (maxSteps:=1000000)(dsimp:=false)(disch:=omega) only [go_sem, Φa, hP, h11_48, h11_1, h11_3, h11_4, hops]
              refine ⟨_, Cell.at 0 rfl rfl, ?_⟩
              try with_reducible refine stI ?_
              try simp (maxSteps:=1000000)(dsimp:=false)(disch:=omega) only [go_sem, Φa, hP, h11_48, h11_1, h11_3, h11_4, hops]
              refine ⟨_, Cell.at 0 rfl rfl, ?_⟩
              try with_reducible refine stI ?_
              try simp (maxSteps:=1000000)(dsimp:=false)(disch:=omega) only [go_sem, Φa, hP, h11_48, h11_1, h11_3, h11_4, hops]
              refine ⟨_, Cell.at 0 rfl rfl, ?_⟩
              try with_reducible refine stI ?_
              try simp (maxSteps:=1000000)(dsimp:=false)(disch:=omega) only [go_sem, Φa, hP, h11_48, h11_1, h11_3, h11_4, hops]
              refine ⟨_, Cell.at 0 rfl rfl, ?_⟩
              try with_reducible refine stI ?_
              try simp (maxSteps:=1000000)(dsimp:=false)(disch:=omega) only [go_sem, Φa, hP, h11_48, h11_1, h11_3, h11_4, hops]
              refine ⟨_, Cell.at 0 rfl rfl, ?_⟩
              try with_reducible refine stI ?_
              try simp (maxSteps:=1000000)(dsimp:=false)(disch:=omega) only [go_sem, Φa, hP, h11_48, h11_1, h11_3, h11_4, hops]
              refine ⟨_, Cell.at 0 rfl rfl, ?_⟩
              try with_reducible refine stI ?_
              try simp (maxSteps:=1000000)(dsimp:=false)(disch:=omega) only [go_sem, Φa, hP, h11_48, h11_1, h11_3, h11_4, hops]
              refine ⟨_, Cell.at 0 rfl rfl, ?_⟩
              try with_reducible refine stI ?_
              try simp (maxSteps:=1000000)(dsimp:=false)(disch:=omega) only [go_sem, Φa, hP, h11_48, h11_1, h11_3, h11_4, hops]
              refine ⟨_, Cell.at 0 rfl rfl, ?_⟩
              try with_reducible refine stI ?_
              try simp (maxSteps:=1000000)(dsimp:=false)(disch:=omega) only [go_sem, Φa, hP, h11_48, h11_1, h11_3, h11_4, hops]
              refine ⟨_, Cell.at 0 rfl rfl, ?_⟩
              try with_reducible refine stI ?_
              try simp (maxSteps:=1000000)(dsimp:=false)(disch:=omega) only [go_sem, Φa, hP, h11_48, h11_1, h11_3, h11_4, hops]
              refine ⟨_, Cell.at 0 rfl rfl, ?_⟩
              try with_reducible refine stI ?_
              try simp (maxSteps:=1000000)(dsimp:=false)(disch:=omega) only [go_sem, Φa, hP, h11_48, h11_1, h11_3, h11_4, hops]
              refine ⟨_, Cell.at 0 rfl rfl, ?_⟩
              try with_reducible refine stI ?_
              try simp (maxSteps:=1000000)(dsimp:=false)(disch:=omega) only [go_sem, Φa, hP, h11_48, h11_1, h11_3, h11_4, hops]
              refine ⟨_, Cell.at 0 rfl rfl, ?_⟩
              try with_reducible refine stI ?_
              try simp (maxSteps:=1000000)(dsimp:=false)(disch:=omega) only [go_sem, Φa, hP, h11_48, h11_1, h11_3, h11_4, hops]
              refine ⟨_, Cell.at 0 rfl rfl, ?_⟩
              try with_reducible refine stI ?_
              try simp (maxSteps:=1000000)(dsimp:=false)(disch:=omega) only [go_sem, Φa, hP, h11_48, h11_1, h11_3, h11_4, hops]
              refine ⟨_, Cell.at 0 rfl rfl, ?_⟩
              try with_reducible refine stI ?_
              try simp (maxSteps:=1000000)(dsimp:=false)(disch:=omega) only [go_sem, Φa, hP, h11_48, h11_1, h11_3, h11_4, hops]
              refine ⟨_, Cell.at 0 rfl rfl, ?_⟩
              try with_reducible refine stI ?_
              try simp (maxSteps:=1000000)(dsimp:=false)(disch:=omega) only [go_sem, Φa, hP, h11_48, h11_1, h11_3, h11_4, hops]
              refine ⟨_, Cell.at 0 rfl rfl, ?_⟩
              try with_reducible refine stI ?_
              try simp (maxSteps:=1000000)(dsimp:=false)(disch:=omega) only [go_sem, Φa, hP, h11_48, h11_1, h11_3, h11_4, hops]
              refine ⟨_, Cell.at 0 rfl rfl, ?_⟩
              try with_reducible refine stI ?_
              try simp (maxSteps:=1000000)(dsimp:=false)(disch:=omega) only [go_sem, Φa, hP, h11_48, h11_1, h11_3, h11_4, hops]
              refine ⟨_, Cell.at 0 rfl rfl, ?_⟩
              try with_reducible refine stI ?_
              try simp (maxSteps:=1000000)(dsimp:=false)(disch:=omega) only [go_sem, Φa, hP, h11_48, h11_1, h11_3, h11_4, hops]
              refine ⟨_, Cell.at 0 rfl rfl, ?_⟩
              try with_reducible refine stI ?_
              try simp (maxSteps:=1000000)(dsimp:=false)(disch:=omega) only [go_sem, Φa, hP, h11_48, h11_1, h11_3, h11_4, hops]
              refine ⟨_, Cell.at 0 rfl rfl, ?_⟩
              try with_reducible refine stI ?_
              try simp (maxSteps:=1000000)(dsimp:=false)(disch:=omega) only [go_sem, Φa, hP, h11_48, h11_1, h11_3, h11_4, hops]
              refine ⟨_, Cell.at 0 rfl rfl, ?_⟩
              try with_reducible refine stI ?_
              try simp (maxSteps:=1000000)(dsimp:=false)(disch:=omega) only [go_sem, Φa, hP, h11_48, h11_1, h11_3, h11_4, hops]
              refine ⟨_, Cell.at 0 rfl rfl, ?_⟩
              try with_reducible refine stI ?_
              try simp (maxSteps:=1000000)(dsimp:=false)(disch:=omega) only [go_sem, Φa, hP, h11_48, h11_1, h11_3, h11_4, hops]
              refine ⟨_, Cell.at 0 rfl rfl, ?_⟩
              try with_reducible refine stI ?_
              try simp (maxSteps:=1000000)(dsimp:=false)(disch:=omega) only [go_sem, Φa, hP, h11_48, h11_1, h11_3, h11_4, hops]
              unfold GM.cells
              refine ⟨4, _, _, _, rfl, by simp, .inr (by decide), ?_⟩
              try with_reducible refine stI ?_
              try simp (maxSteps:=1000000)(dsimp:=false)(disch:=omega) only [go_sem, Φa, hP, h11_48, h11_1, h11_3, h11_4, hops]
              refine hK15 _ _ ?_
              try clear hK15 K15
              refine SX.region_d [some 33, some 34, some 3] rfl (fun ops hops => ?_)
              unfold Dsts at hops
              simp (maxSteps:=1000000)(dsimp:=false)(disch:=omega) only [go_sem, Φa, hP, h11_48, h11_1, h11_3, h11_4, hops]
              repeat' ((first | refine And.intro (by omega) ?_ | fail); try (with_reducible refine stI ?_); try simp (maxSteps:=1000000)(dsimp:=false)(disch:=omega) only [go_sem, Φa, hP, h11_48, h11_1, h11_3, h11_4, hops])
              refine hK11 (k + 1, .slice A1st (G (k + 1)).st.length c1st, .slice A1pg (G (k + 1)).pg.length c1pg, .slice A1mm (G (k + 1)).mm.length c1mm, s1', s2', s3') _ (some (b1, .cells ((G (k + 1)).cells (.slice A1st (G (k + 1)).st.length c1st) (.slice A1pg (G (k + 1)).pg.length c1pg) (.slice A1mm (G (k + 1)).mm.length c1mm)).toArray 29 (0, 0)) :: s1' :: s2' :: s3' :: L) _ (by exact (Less.sublist (.cons _ (.cons_cons _ (.cons_cons _ (.cons_cons _ (.cons_cons _ (.cons _ (.cons _ (.cons _ (List.Sublist.refl _)))))))))).trans (lessBox _ _ _ _ _)) ?_ ?_
              · try dsimp only
                refine ⟨?_, ?_, ?_, ?_⟩
                · simp (maxSteps:=1000000)(dsimp:=false)(disch:=omega) only [go_sem, Φa, hP, h11_48, h11_1, h11_3, h11_4]
                  first | done | rfl | skip
                · simp (maxSteps:=1000000)(dsimp:=false)(disch:=omega) only [go_sem, Φa, hP, h11_48, h11_1, h11_3, h11_4]
                · rfl
                · exact ⟨by omega, hr'⟩
              · (try dsimp only); omega
          · clear hX14 hY14 X14 Y14
            refine SX.exit ?_
            try simp only [andThen_normal, andThen_ret, andThen_exit, inBlk_normal, inBlk_ret, inBlk_exit, Nat.reduceEqDiff, if_true, if_false, ↓reduceIte]
            refine hK9 _ _ ?_
            try clear hK9 K9
            refine SX.seq_k fun K21 hK21 => ?_
            refine SX.region_xd [some 50, some 51, some 52, some 53, some 54, some 55, some 56, some 57, some 58, some 59, some 60, some 61, some 62, some 63, some 64, some 65, some 66, some 67, some 68, some 69, some 70, some 0] rfl (fun ops hops => ?_)
            unfold Dsts at hops
            refine RX.live [1] (fun T12 hT12 => ?_)
            simp only [forall_mem_cons', forall_mem_nil', go_sem, Φa, hP, h8_3, h8_1] at hT12
            have h12_1 := hT12; clear hT12
            clear h8_3 h8_1 T8
            obtain ⟨e1, e2, e15, ePC⟩ : (G k).V.getD 1 0 = 5 ∧ (G k).V.getD 2 0 = 4 ∧ (G k).V.getD 15 0 = 1 ∧ (G k).PC = 518 := by
              obtain rfl : k = 3 := by omega
              exact hend
            refine RX.join 10 (fun (ss : Unit) T L' => T 59 = .bool (true) ∧ T 1 = T12 1 ∧ L' = some (b1, .cells ((G k).cells sv pv mv).toArray 29 (0, 0)) :: s1 :: s2 :: s3 :: L ∧ (True)) (fun K22 hK22 => ?_) ?_
            · simp only [h12_1] at hK22
              simp (maxSteps:=1000000)(dsimp:=false)(disch:=omega) only [go_sem, Φa, hP, h12_1, hops]
              repeat' (first | refine iteB (fun hg => ?_) (fun hg => ?_) | refine iteI (fun hg => ?_) (fun hg => ?_) | ((first | refine ⟨_, Cell.at 0 rfl (show ((G k).cells sv pv mv)[1]? = some (.int .u8 ((G k).V.getD 1 0)) from rfl), ?_⟩ | refine ⟨_, Cell.at 0 rfl (show ((G k).cells sv pv mv)[2]? = some (.int .u8 ((G k).V.getD 2 0)) from rfl), ?_⟩ | refine ⟨_, Cell.at 0 rfl (show ((G k).cells sv pv mv)[15]? = some (.int .u8 ((G k).V.getD 15 0)) from rfl), ?_⟩ | refine ⟨_, Cell.at 0 rfl (show ((G k).cells sv pv mv)[17]? = some (.int .u16 (G k).PC) from rfl), ?_⟩ | refine And.intro (by omega) ?_ | refine ⟨_, Cell.at 0 rfl rfl, ?_⟩ | refine ⟨_, Cell.at 1 rfl rfl, ?_⟩ | refine ⟨_, Cell.at 2 rfl rfl, ?_⟩ | refine ⟨_, Cell.at 3 rfl rfl, ?_⟩ | fail); try (with_reducible refine stI ?_); try simp (maxSteps:=1000000)(dsimp:=false)(disch:=omega) only [go_sem, Φa, hP, h12_1, hops]) | fail)
              all_goals
                refine hK22 () _ (some (b1, .cells ((G k).cells sv pv mv).toArray 29 (0, 0)) :: s1 :: s2 :: s3 :: L) _ (by first | exact Less.refl _ | exact Less.drop _ _ | exact Less.drops (Less.drop _ _) | exact Less.drops (Less.drops (Less.drop _ _)) | exact Less.drops (Less.drops (Less.drops (Less.drop _ _))) | exact Less.drops (Less.drops (Less.drops (Less.drops (Less.drop _ _))))) ?_
                try dsimp only
                refine ⟨?_, ?_, ?_, ?_⟩
                · simp (maxSteps:=1000000)(dsimp:=false)(disch:=omega) only [go_sem, Φa, hP, h12_1]
                  first | done | exact congrArg _ (decide_eq_decide.2 (by omega)) | exact congrArg _ (decide_eq_true (by omega)).symm | exact congrArg _ (decide_eq_false (by omega)).symm
                · simp (maxSteps:=1000000)(dsimp:=false)(disch:=omega) only [go_sem, Φa, hP, h12_1]
                · rfl
                · trivial
            · intro ss T13 L13 hI
              simp only [h12_1] at hI 
              obtain ⟨h13_59, h13_1, hL13, hinv⟩ := hI
              replace hL13 := hL13.symm
              subst hL13
              clear h12_1 T12
              refine RX.live [1, 59] (fun T14 hT14 => ?_)
              simp only [forall_mem_cons', forall_mem_nil', go_sem, Φa, hP, h13_59, h13_1] at hT14
              obtain ⟨h14_1, h14_59⟩ := hT14
              clear h13_59 h13_1 T13
              refine RX.join 6 (fun (ss : Unit) T L' => T 65 = .bool (true) ∧ T 1 = T14 1 ∧ L' = some (b1, .cells ((G k).cells sv pv mv).toArray 29 (0, 0)) :: s1 :: s2 :: s3 :: L ∧ (True)) (fun K23 hK23 => ?_) ?_
              · simp only [h14_1] at hK23
                simp (maxSteps:=1000000)(dsimp:=false)(disch:=omega) only [go_sem, Φa, hP, h14_1, h14_59, hops]
                repeat' (first | refine iteB (fun hg => ?_) (fun hg => ?_) | refine iteI (fun hg => ?_) (fun hg => ?_) | ((first | refine ⟨_, Cell.at 0 rfl (show ((G k).cells sv pv mv)[1]? = some (.int .u8 ((G k).V.getD 1 0)) from rfl), ?_⟩ | refine ⟨_, Cell.at 0 rfl (show ((G k).cells sv pv mv)[2]? = some (.int .u8 ((G k).V.getD 2 0)) from rfl), ?_⟩ | refine ⟨_, Cell.at 0 rfl (show ((G k).cells sv pv mv)[15]? = some (.int .u8 ((G k).V.getD 15 0)) from rfl), ?_⟩ | refine ⟨_, Cell.at 0 rfl (show ((G k).cells sv pv mv)[17]? = some (.int .u16 (G k).PC) from rfl), ?_⟩ | refine And.intro (by omega) ?_ | refine ⟨_, Cell.at 0 rfl rfl, ?_⟩ | refine ⟨_, Cell.at 1 rfl rfl, ?_⟩ | refine ⟨_, Cell.at 2 rfl rfl, ?_⟩ | refine ⟨_, Cell.at 3 rfl rfl, ?_⟩ | fail); try (with_reducible refine stI ?_); try simp (maxSteps:=1000000)(dsimp:=false)(disch:=omega) only [go_sem, Φa, hP, h14_1, h14_59, hops]) | fail)
                all_goals
                  refine hK23 () _ (some (b1, .cells ((G k).cells sv pv mv).toArray 29 (0, 0)) :: s1 :: s2 :: s3 :: L) _ (by first | exact Less.refl _ | exact Less.drop _ _ | exact Less.drops (Less.drop _ _) | exact Less.drops (Less.drops (Less.drop _ _)) | exact Less.drops (Less.drops (Less.drops (Less.drop _ _))) | exact Less.drops (Less.drops (Less.drops (Less.drops (Less.drop _ _))))) ?_
                  try dsimp only
                  refine ⟨?_, ?_, ?_, ?_⟩
                  · simp (maxSteps:=1000000)(dsimp:=false)(disch:=omega) only [go_sem, Φa, hP, h14_1, h14_59]
                    first | done | exact congrArg _ (decide_eq_decide.2 (by omega)) | exact congrArg _ (decide_eq_true (by omega)).symm | exact congrArg _ (decide_eq_false (by omega)).symm
                  · simp (maxSteps:=1000000)(dsimp:=false)(disch:=omega) only [go_sem, Φa, hP, h14_1, h14_59]
                  · rfl
                  · trivial
              · intro ss T15 L15 hI
                simp only [h14_1] at hI 
                obtain ⟨h15_65, h15_1, hL15, hinv⟩ := hI
                replace hL15 := hL15.symm
                subst hL15
                clear h14_1 h14_59 T14
                refine RX.live [1, 65] (fun T16 hT16 => ?_)
                simp only [forall_mem_cons', forall_mem_nil', go_sem, Φa, hP, h15_65, h15_1] at hT16
                obtain ⟨h16_1, h16_65⟩ := hT16
                clear h15_65 h15_1 T15
                refine RX.join 5 (fun (ss : Unit) T L' => T 70 = .bool (true) ∧ L' = some (b1, .cells ((G k).cells sv pv mv).toArray 29 (0, 0)) :: s1 :: s2 :: s3 :: L ∧ (True)) (fun K24 hK24 => ?_) ?_
                · simp (maxSteps:=1000000)(dsimp:=false)(disch:=omega) only [go_sem, Φa, hP, h16_1, h16_65, hops]
                  repeat' (first | refine iteB (fun hg => ?_) (fun hg => ?_) | refine iteI (fun hg => ?_) (fun hg => ?_) | ((first | refine ⟨_, Cell.at 0 rfl (show ((G k).cells sv pv mv)[1]? = some (.int .u8 ((G k).V.getD 1 0)) from rfl), ?_⟩ | refine ⟨_, Cell.at 0 rfl (show ((G k).cells sv pv mv)[2]? = some (.int .u8 ((G k).V.getD 2 0)) from rfl), ?_⟩ | refine ⟨_, Cell.at 0 rfl (show ((G k).cells sv pv mv)[15]? = some (.int .u8 ((G k).V.getD 15 0)) from rfl), ?_⟩ | refine ⟨_, Cell.at 0 rfl (show ((G k).cells sv pv mv)[17]? = some (.int .u16 (G k).PC) from rfl), ?_⟩ | refine And.intro (by omega) ?_ | refine ⟨_, Cell.at 0 rfl rfl, ?_⟩ | refine ⟨_, Cell.at 1 rfl rfl, ?_⟩ | refine ⟨_, Cell.at 2 rfl rfl, ?_⟩ | refine ⟨_, Cell.at 3 rfl rfl, ?_⟩ | fail); try (with_reducible refine stI ?_); try simp (maxSteps:=1000000)(dsimp:=false)(disch:=omega) only [go_sem, Φa, hP, h16_1, h16_65, hops]) | fail)
                  all_goals
                    refine hK24 () _ (some (b1, .cells ((G k).cells sv pv mv).toArray 29 (0, 0)) :: s1 :: s2 :: s3 :: L) _ (by first | exact Less.refl _ | exact Less.drop _ _ | exact Less.drops (Less.drop _ _) | exact Less.drops (Less.drops (Less.drop _ _)) | exact Less.drops (Less.drops (Less.drops (Less.drop _ _))) | exact Less.drops (Less.drops (Less.drops (Less.drops (Less.drop _ _))))) ?_
                    try dsimp only
                    refine ⟨?_, ?_, ?_⟩
                    · simp (maxSteps:=1000000)(dsimp:=false)(disch:=omega) only [go_sem, Φa, hP, h16_1, h16_65]
                      first | done | exact congrArg _ (decide_eq_decide.2 (by omega)) | exact congrArg _ (decide_eq_true (by omega)).symm | exact congrArg _ (decide_eq_false (by omega)).symm
                    · rfl
                    · trivial
                · intro ss T17 L17 hI
                  obtain ⟨h17_70, hL17, hinv⟩ := hI
                  replace hL17 := hL17.symm
                  subst hL17
                  clear h16_1 h16_65 T16
                  refine RX.done ?_
                  simp (maxSteps:=1000000)(dsimp:=false)(disch:=omega) only [go_sem, Φa, hP, h17_70, hops]
                  refine hK21 _ _ ?_
                  try clear hK21 K21
                  refine SX.ret ?_
                  simp only [andThen_normal, andThen_ret, andThen_exit, inBlk_normal, inBlk_ret, inBlk_exit, Nat.reduceEqDiff, if_true, if_false, ↓reduceIte, retQ_ret]
                  try simp only [res0, res1, res2, res3, stK_e, go_sem, Φa, hP, h17_70]
                  exact ⟨_, _, Less.drops (Less.drops (Less.drops (Less.drop _ _))), rfl, rfl, rfl⟩

theorem awake_spec {Γ : Ctx} (hP : Γ.P = Try.prog) {L : Hp} : SCall Γ 11 #[] L (fun v L' => v = .bool true ∧ L' = L) :=
  awake_core (G := awG) hP aw_fine rfl aw_end (fun L v h => aw_new hP h) (fun L k sv pv mv hk hs hp hm => aw_call hP hk hs hp hm)

end Go.Proofs.Ytgioegdjeodpiaa
set_option linter.unusedVariables false
set_option linter.unusedSimpArgs false
namespace Go.Proofs.Ytgioegdjeodpiaa
open Go.RowKit Go.SX

def vastR (a b c d : Nat) : Bool := decide ((2147483647 : Int) < a) || decide ((2147483647 : Int) < b) || decide ((2147483647 : Int) < c) || decide ((2147483647 : Int) < d) || decide ((2147483647 : Int) < IntKind.i64.wrap (IntKind.i64.wrap (IntKind.i64.wrap ((a : Int) + b) + c) + d))
theorem vast_eq (g : GM) (f : Fnt) : vastR g.st.length g.pg.length g.mm.length f.bs.length = vastB g f := by
  unfold vastR vastB
  generalize g.st.length = a
  generalize g.pg.length = b
  generalize g.mm.length = c
  generalize f.bs.length = d
  by_cases h : a ≤ 2147483647 ∧ b ≤ 2147483647 ∧ c ≤ 2147483647 ∧ d ≤ 2147483647
  · obtain ⟨h1, h2, h3, h4⟩ := h
    rw [w64 (n := (a : Int) + b) (by omega), w64 (n := (a : Int) + b + c) (by omega), w64 (n := (a : Int) + b + c + d) (by omega)]
    rw [Bool.eq_iff_iff]
    simp only [Bool.or_eq_true, decide_eq_true_eq]
    omega
  · rw [Bool.eq_iff_iff]
    simp only [Bool.or_eq_true, decide_eq_true_eq]
    constructor
    · intro _; omega
    · intro _; omega
theorem vast_no {g : GM} {f : Fnt} (h : vastB g f = false) : g.st.length ≤ 2147483647 ∧ g.pg.length ≤ 2147483647 ∧ g.mm.length ≤ 2147483647 ∧ f.bs.length ≤ 2147483647 := by
  unfold vastB at h
  simp only [decide_eq_false_iff_not] at h
  omega
set_option maxHeartbeats 1000000 in
set_option maxRecDepth 100000 in
theorem vast_spec {Γ : Ctx} (hP : Γ.P = Try.prog) {L : Hp} {g : GM} {sv pv mv : Value} {f : Fnt} {fv : Value} (hs : SlI .u16 (Cell Γ L) sv g.st) (hp : SlI .u8 (Cell Γ L) pv g.pg) (hm : SlI .u8 (Cell Γ L) mv g.mm) (hf : SlI .u8 (Cell Γ L) fv f.bs) :
    SCall Γ 18 #[(.agg (g.cells sv pv mv).toArray), (.agg (f.cells fv).toArray)] L (fun v L' => v = .bool (vastB g f) ∧ L' = L) := by
  obtain ⟨As, cs, rfl, hcs⟩ := slShape hs
  obtain ⟨Ap, cp, rfl, hcp⟩ := slShape hp
  obtain ⟨Am, cm, rfl, hcm⟩ := slShape hm
  obtain ⟨Af, cf, rfl, hcf⟩ := slShape hf
  refine SCall.enter (n := 45) (res1 4) (hP ▸ Try.func18) rfl rfl (by simp) (res1_ok rfl) ?_
  refine SX.seq_k fun K1 hK1 => ?_
  refine SX.region_d [some 2, some 3, some 4] rfl (fun ops hops => ?_)
  unfold Dsts at hops
  simp (maxSteps := 1000000) (dsimp := false) (disch := omega) only [go_sem, ia_someH, hP, hops]
  intro b0
  try with_reducible refine stI ?_
  try simp (maxSteps := 1000000) (dsimp := false) (disch := omega) only [go_sem, ia_someH, hP, hops]
  intro b1
  try with_reducible refine stI ?_
  try simp (maxSteps := 1000000) (dsimp := false) (disch := omega) only [go_sem, ia_someH, hP, hops]
  refine hK1 _ _ ?_
  try clear hK1 K1
  refine SX.seq_k fun K2 hK2 => ?_
  refine SX.region_xd [some 5, some 6, some 7, some 8, some 9, some 10, some 11, some 12, some 13, some 14, some 15, some 16, some 17, some 18, some 19, some 20, some 21, some 22, some 23, some 24, some 25, some 26, some 27, some 28, some 29, some 30, some 31, some 32, some 33, some 34, some 35, some 36, some 37, some 38, some 39, some 40, some 41, some 42, some 43, some 44, some 4] rfl (fun ops hops => ?_)
  unfold Dsts at hops
  refine RX.live [2, 3] (fun T1 hT1 => ?_)
  simp only [forall_mem_cons', forall_mem_nil', go_sem, ia_someH, hP] at hT1
  obtain ⟨h1_2, h1_3⟩ := hT1
  refine RX.join 10 (fun (ss : Unit) T L' => T 14 = .bool (decide ((2147483647 : Int) < (g.st.length : Int)) || decide ((2147483647 : Int) < (g.pg.length : Int))) ∧ T 2 = T1 2 ∧ T 3 = T1 3 ∧ L' = some (b1, .cells (f.cells (.slice Af f.bs.length cf)).toArray 40 (0, 0)) :: some (b0, .cells (g.cells (.slice As g.st.length cs) (.slice Ap g.pg.length cp) (.slice Am g.mm.length cm)).toArray 29 (0, 0)) :: L ∧ (True)) (fun K3 hK3 => ?_) ?_
  · simp only [h1_2, h1_3] at hK3
    simp (maxSteps := 1000000) (dsimp := false) (disch := omega) only [go_sem, ia_someH, hP, h1_2, h1_3, hops]
    repeat' (first | refine iteB (fun hg => ?_) (fun hg => ?_) | refine iteI (fun hg => ?_) (fun hg => ?_) | ((first | refine ⟨_, Cell.at 1 rfl (show (g.cells _ _ _)[18]? = _ from rfl), ?_⟩ | refine ⟨_, Cell.at 1 rfl (show (g.cells _ _ _)[21]? = _ from rfl), ?_⟩ | refine ⟨_, Cell.at 1 rfl (show (g.cells _ _ _)[22]? = _ from rfl), ?_⟩ | refine ⟨_, Cell.at 0 rfl (show (f.cells _)[17]? = _ from rfl), ?_⟩ | refine And.intro (by omega) ?_ | refine ⟨_, Cell.at 0 rfl rfl, ?_⟩ | refine ⟨_, Cell.at 1 rfl rfl, ?_⟩ | fail); try (with_reducible refine stI ?_); try simp (maxSteps := 1000000) (dsimp := false) (disch := omega) only [go_sem, ia_someH, hP, h1_2, h1_3, hops]) | fail)
    all_goals
      refine hK3 () _ (some (b1, .cells (f.cells (.slice Af f.bs.length cf)).toArray 40 (0, 0)) :: some (b0, .cells (g.cells (.slice As g.st.length cs) (.slice Ap g.pg.length cp) (.slice Am g.mm.length cm)).toArray 29 (0, 0)) :: L) _ (by first | exact Less.refl _ | exact Less.drop _ _ | exact Less.drops (Less.drop _ _) | exact Less.drops (Less.drops (Less.drop _ _)) | exact Less.drops (Less.drops (Less.drops (Less.drop _ _))) | exact Less.drops (Less.drops (Less.drops (Less.drops (Less.drop _ _))))) ?_
      try dsimp only
      refine ⟨?_, ?_, ?_, ?_, ?_⟩
      · simp (maxSteps := 1000000) (dsimp := false) (disch := omega) only [go_sem, ia_someH, hP, h1_2, h1_3]
        first | done | (refine congrArg Value.bool ?_; rw [Bool.eq_iff_iff]; simp only [Bool.or_eq_true, Bool.or_eq_false_iff, decide_eq_true_eq, decide_eq_false_iff_not, Bool.true_eq_false, Bool.false_eq_true, true_iff, iff_true] at *; omega) | (refine congrArg Value.bool ?_; simp_all; done)
      · simp (maxSteps := 1000000) (dsimp := false) (disch := omega) only [go_sem, ia_someH, hP, h1_2, h1_3]
      · simp (maxSteps := 1000000) (dsimp := false) (disch := omega) only [go_sem, ia_someH, hP, h1_2, h1_3]
      · rfl
      · trivial
  · intro ss T2 L2 hI
    simp only [h1_2, h1_3] at hI 
    obtain ⟨h2_14, h2_2, h2_3, hL2, hinv⟩ := hI
    replace hL2 := hL2.symm
    subst hL2
    clear h1_2 h1_3 T1
    refine RX.live [2, 3, 14] (fun T3 hT3 => ?_)
    simp only [forall_mem_cons', forall_mem_nil', go_sem, ia_someH, hP, h2_14, h2_2, h2_3] at hT3
    obtain ⟨h3_2, h3_3, h3_14⟩ := hT3
    clear h2_14 h2_2 h2_3 T2
    refine RX.join 6 (fun (ss : Unit) T L' => T 20 = .bool (decide ((2147483647 : Int) < (g.st.length : Int)) || decide ((2147483647 : Int) < (g.pg.length : Int)) || decide ((2147483647 : Int) < (g.mm.length : Int))) ∧ T 2 = T3 2 ∧ T 3 = T3 3 ∧ L' = some (b1, .cells (f.cells (.slice Af f.bs.length cf)).toArray 40 (0, 0)) :: some (b0, .cells (g.cells (.slice As g.st.length cs) (.slice Ap g.pg.length cp) (.slice Am g.mm.length cm)).toArray 29 (0, 0)) :: L ∧ (True)) (fun K4 hK4 => ?_) ?_
    · simp only [h3_2, h3_3] at hK4
      simp (maxSteps := 1000000) (dsimp := false) (disch := omega) only [go_sem, ia_someH, hP, h3_2, h3_3, h3_14, hops]
      repeat' (first | refine iteB (fun hg => ?_) (fun hg => ?_) | refine iteI (fun hg => ?_) (fun hg => ?_) | ((first | refine ⟨_, Cell.at 1 rfl (show (g.cells _ _ _)[18]? = _ from rfl), ?_⟩ | refine ⟨_, Cell.at 1 rfl (show (g.cells _ _ _)[21]? = _ from rfl), ?_⟩ | refine ⟨_, Cell.at 1 rfl (show (g.cells _ _ _)[22]? = _ from rfl), ?_⟩ | refine ⟨_, Cell.at 0 rfl (show (f.cells _)[17]? = _ from rfl), ?_⟩ | refine And.intro (by omega) ?_ | refine ⟨_, Cell.at 0 rfl rfl, ?_⟩ | refine ⟨_, Cell.at 1 rfl rfl, ?_⟩ | fail); try (with_reducible refine stI ?_); try simp (maxSteps := 1000000) (dsimp := false) (disch := omega) only [go_sem, ia_someH, hP, h3_2, h3_3, h3_14, hops]) | fail)
      all_goals
        refine hK4 () _ (some (b1, .cells (f.cells (.slice Af f.bs.length cf)).toArray 40 (0, 0)) :: some (b0, .cells (g.cells (.slice As g.st.length cs) (.slice Ap g.pg.length cp) (.slice Am g.mm.length cm)).toArray 29 (0, 0)) :: L) _ (by first | exact Less.refl _ | exact Less.drop _ _ | exact Less.drops (Less.drop _ _) | exact Less.drops (Less.drops (Less.drop _ _)) | exact Less.drops (Less.drops (Less.drops (Less.drop _ _))) | exact Less.drops (Less.drops (Less.drops (Less.drops (Less.drop _ _))))) ?_
        try dsimp only
        refine ⟨?_, ?_, ?_, ?_, ?_⟩
        · simp (maxSteps := 1000000) (dsimp := false) (disch := omega) only [go_sem, ia_someH, hP, h3_2, h3_3, h3_14]
          first | done | (refine congrArg Value.bool ?_; rw [Bool.eq_iff_iff]; simp only [Bool.or_eq_true, Bool.or_eq_false_iff, decide_eq_true_eq, decide_eq_false_iff_not, Bool.true_eq_false, Bool.false_eq_true, true_iff, iff_true] at *; omega) | (refine congrArg Value.bool ?_; simp_all; done)
        · simp (maxSteps := 1000000) (dsimp := false) (disch := omega) only [go_sem, ia_someH, hP, h3_2, h3_3, h3_14]
        · simp (maxSteps := 1000000) (dsimp := false) (disch := omega) only [go_sem, ia_someH, hP, h3_2, h3_3, h3_14]
        · rfl
        · trivial
    · intro ss T4 L4 hI
      simp only [h3_2, h3_3] at hI 
      obtain ⟨h4_20, h4_2, h4_3, hL4, hinv⟩ := hI
      replace hL4 := hL4.symm
      subst hL4
      clear h3_2 h3_3 h3_14 T3
      refine RX.live [2, 3, 20] (fun T5 hT5 => ?_)
      simp only [forall_mem_cons', forall_mem_nil', go_sem, ia_someH, hP, h4_20, h4_2, h4_3] at hT5
      obtain ⟨h5_2, h5_3, h5_20⟩ := hT5
      clear h4_20 h4_2 h4_3 T4
      refine RX.join 6 (fun (ss : Unit) T L' => T 26 = .bool (decide ((2147483647 : Int) < (g.st.length : Int)) || decide ((2147483647 : Int) < (g.pg.length : Int)) || decide ((2147483647 : Int) < (g.mm.length : Int)) || decide ((2147483647 : Int) < (f.bs.length : Int))) ∧ T 2 = T5 2 ∧ T 3 = T5 3 ∧ L' = some (b1, .cells (f.cells (.slice Af f.bs.length cf)).toArray 40 (0, 0)) :: some (b0, .cells (g.cells (.slice As g.st.length cs) (.slice Ap g.pg.length cp) (.slice Am g.mm.length cm)).toArray 29 (0, 0)) :: L ∧ (True)) (fun K5 hK5 => ?_) ?_
      · simp only [h5_2, h5_3] at hK5
        simp (maxSteps := 1000000) (dsimp := false) (disch := omega) only [go_sem, ia_someH, hP, h5_2, h5_3, h5_20, hops]
        repeat' (first | refine iteB (fun hg => ?_) (fun hg => ?_) | refine iteI (fun hg => ?_) (fun hg => ?_) | ((first | refine ⟨_, Cell.at 1 rfl (show (g.cells _ _ _)[18]? = _ from rfl), ?_⟩ | refine ⟨_, Cell.at 1 rfl (show (g.cells _ _ _)[21]? = _ from rfl), ?_⟩ | refine ⟨_, Cell.at 1 rfl (show (g.cells _ _ _)[22]? = _ from rfl), ?_⟩ | refine ⟨_, Cell.at 0 rfl (show (f.cells _)[17]? = _ from rfl), ?_⟩ | refine And.intro (by omega) ?_ | refine ⟨_, Cell.at 0 rfl rfl, ?_⟩ | refine ⟨_, Cell.at 1 rfl rfl, ?_⟩ | fail); try (with_reducible refine stI ?_); try simp (maxSteps := 1000000) (dsimp := false) (disch := omega) only [go_sem, ia_someH, hP, h5_2, h5_3, h5_20, hops]) | fail)
        all_goals
          refine hK5 () _ (some (b1, .cells (f.cells (.slice Af f.bs.length cf)).toArray 40 (0, 0)) :: some (b0, .cells (g.cells (.slice As g.st.length cs) (.slice Ap g.pg.length cp) (.slice Am g.mm.length cm)).toArray 29 (0, 0)) :: L) _ (by first | exact Less.refl _ | exact Less.drop _ _ | exact Less.drops (Less.drop _ _) | exact Less.drops (Less.drops (Less.drop _ _)) | exact Less.drops (Less.drops (Less.drops (Less.drop _ _))) | exact Less.drops (Less.drops (Less.drops (Less.drops (Less.drop _ _))))) ?_
          try dsimp only
          refine ⟨?_, ?_, ?_, ?_, ?_⟩
          · simp (maxSteps := 1000000) (dsimp := false) (disch := omega) only [go_sem, ia_someH, hP, h5_2, h5_3, h5_20]
            first | done | (refine congrArg Value.bool ?_; rw [Bool.eq_iff_iff]; simp only [Bool.or_eq_true, Bool.or_eq_false_iff, decide_eq_true_eq, decide_eq_false_iff_not, Bool.true_eq_false, Bool.false_eq_true, true_iff, iff_true] at *; omega) | (refine congrArg Value.bool ?_; simp_all; done)
          · simp (maxSteps := 1000000) (dsimp := false) (disch := omega) only [go_sem, ia_someH, hP, h5_2, h5_3, h5_20]
          · simp (maxSteps := 1000000) (dsimp := false) (disch := omega) only [go_sem, ia_someH, hP, h5_2, h5_3, h5_20]
          · rfl
          · trivial
      · intro ss T6 L6 hI
        simp only [h5_2, h5_3] at hI 
        obtain ⟨h6_26, h6_2, h6_3, hL6, hinv⟩ := hI
        replace hL6 := hL6.symm
        subst hL6
        clear h5_2 h5_3 h5_20 T5
        refine RX.live [2, 3, 26] (fun T7 hT7 => ?_)
        simp only [forall_mem_cons', forall_mem_nil', go_sem, ia_someH, hP, h6_26, h6_2, h6_3] at hT7
        obtain ⟨h7_2, h7_3, h7_26⟩ := hT7
        clear h6_26 h6_2 h6_3 T6
        refine RX.join 18 (fun (ss : Unit) T L' => T 44 = .bool (decide ((2147483647 : Int) < (g.st.length : Int)) || decide ((2147483647 : Int) < (g.pg.length : Int)) || decide ((2147483647 : Int) < (g.mm.length : Int)) || decide ((2147483647 : Int) < (f.bs.length : Int)) || decide ((2147483647 : Int) < IntKind.i64.wrap (IntKind.i64.wrap (IntKind.i64.wrap ((g.st.length : Int) + (g.pg.length : Int)) + (g.mm.length : Int)) + (f.bs.length : Int)))) ∧ L' = some (b1, .cells (f.cells (.slice Af f.bs.length cf)).toArray 40 (0, 0)) :: some (b0, .cells (g.cells (.slice As g.st.length cs) (.slice Ap g.pg.length cp) (.slice Am g.mm.length cm)).toArray 29 (0, 0)) :: L ∧ (True)) (fun K6 hK6 => ?_) ?_
        · simp (maxSteps := 1000000) (dsimp := false) (disch := omega) only [go_sem, ia_someH, hP, h7_2, h7_3, h7_26, hops]
          repeat' (first | refine iteB (fun hg => ?_) (fun hg => ?_) | refine iteI (fun hg => ?_) (fun hg => ?_) | ((first | refine ⟨_, Cell.at 1 rfl (show (g.cells _ _ _)[18]? = _ from rfl), ?_⟩ | refine ⟨_, Cell.at 1 rfl (show (g.cells _ _ _)[21]? = _ from rfl), ?_⟩ | refine ⟨_, Cell.at 1 rfl (show (g.cells _ _ _)[22]? = _ from rfl), ?_⟩ | refine ⟨_, Cell.at 0 rfl (show (f.cells _)[17]? = _ from rfl), ?_⟩ | refine And.intro (by omega) ?_ | refine ⟨_, Cell.at 0 rfl rfl, ?_⟩ | refine ⟨_, Cell.at 1 rfl rfl, ?_⟩ | fail); try (with_reducible refine stI ?_); try simp (maxSteps := 1000000) (dsimp := false) (disch := omega) only [go_sem, ia_someH, hP, h7_2, h7_3, h7_26, hops]) | fail)
          all_goals
            refine hK6 () _ (some (b1, .cells (f.cells (.slice Af f.bs.length cf)).toArray 40 (0, 0)) :: some (b0, .cells (g.cells (.slice As g.st.length cs) (.slice Ap g.pg.length cp) (.slice Am g.mm.length cm)).toArray 29 (0, 0)) :: L) _ (by first | exact Less.refl _ | exact Less.drop _ _ | exact Less.drops (Less.drop _ _) | exact Less.drops (Less.drops (Less.drop _ _)) | exact Less.drops (Less.drops (Less.drops (Less.drop _ _))) | exact Less.drops (Less.drops (Less.drops (Less.drops (Less.drop _ _))))) ?_
            try dsimp only
            refine ⟨?_, ?_, ?_⟩
            · simp (maxSteps := 1000000) (dsimp := false) (disch := omega) only [go_sem, ia_someH, hP, h7_2, h7_3, h7_26]
              first | done | (refine congrArg Value.bool ?_; rw [Bool.eq_iff_iff]; simp only [Bool.or_eq_true, Bool.or_eq_false_iff, decide_eq_true_eq, decide_eq_false_iff_not, Bool.true_eq_false, Bool.false_eq_true, true_iff, iff_true] at *; omega) | (refine congrArg Value.bool ?_; simp_all; done)
            · rfl
            · trivial
        · intro ss T8 L8 hI
          obtain ⟨h8_44, hL8, hinv⟩ := hI
          replace hL8 := hL8.symm
          subst hL8
          clear h7_2 h7_3 h7_26 T7
          refine RX.done ?_
          simp (maxSteps := 1000000) (dsimp := false) (disch := omega) only [go_sem, ia_someH, hP, h8_44, hops]
          refine hK2 _ _ ?_
          try clear hK2 K2
          refine SX.ret ?_
          simp only [andThen_normal, andThen_ret, andThen_exit, inBlk_normal, inBlk_ret, inBlk_exit, Nat.reduceEqDiff, if_true, if_false, ↓reduceIte, retQ_ret]
          try simp only [res0, res1, res2, res3, stK_e, go_sem, ia_someH, hP, h8_44]
          refine ⟨_, _, Less.drops (Less.drop _ _), rfl, ?_, rfl⟩
          exact congrArg Value.bool (vast_eq g f)

end Go.Proofs.Ytgioegdjeodpiaa
set_option linter.unusedVariables false
set_option linter.unusedSimpArgs false
namespace Go.Proofs.Ytgioegdjeodpiaa
open Go.RowKit Go.SX
open Go.SX renaming ia_someH → Φa

theorem stepG_bad {g : GM} {f : Fnt} {d : Feed} (h : checkE g ≠ 0) : stepG g f d = (zeroG, 0, checkE g) := by
  unfold stepG
  rw [if_pos h]
theorem stepG_err {g : GM} {f : Fnt} {d : Feed} (h : checkE g = 0) (he : (stepG g f d).2.2 ≠ 0) : stepG g f d = (zeroG, 0, 1) := by
  unfold stepG at he ⊢
  rw [if_neg (by rw [h]; simp)] at he ⊢
  split
  · rfl
  · rename_i h1
    rw [if_neg h1] at he
    split at he
    · exact absurd rfl he
    · dsimp only at he
      split at he <;> exact absurd rfl he
theorem stepG_out {g : GM} {f : Fnt} {d : Feed} (h : checkE g = 0) (he : (stepG g f d).2.2 = 0) : (stepG g f d).2.1 = 1 ∨ (stepG g f d).1 = g := by
  unfold stepG at he ⊢
  rw [if_neg (by rw [h]; simp)] at he ⊢
  split at he
  · cases he
  · rename_i h1
    rw [if_neg h1]
    split
    · exact .inr rfl
    · dsimp only
      split
      · exact .inr rfl
      · exact .inl rfl
theorem tickG_bad {g : GM} (h : checkE g ≠ 0) : tickG g = zeroG := if_pos h
set_option maxHeartbeats 1000000 in
set_option maxRecDepth 100000 in
theorem GameMay_spec {Γ : Ctx} (hP : Γ.P = Try.prog) {L : Hp} {g : GM} {sv pv mv : Value} {d : Feed} (hd : OkD d) {f : Fnt} {fv : Value} (hg : OkG g) (hF : OkF f) (hs : SlI .u16 (Cell Γ []) sv g.st) (hp : SlI .u8 (Cell Γ []) pv g.pg) (hm : SlI .u8 (Cell Γ []) mv g.mm) (hf : SlI .u8 (Cell Γ []) fv f.bs) :
    SCall Γ 10 #[(.agg (g.cells sv pv mv).toArray), (.agg (f.cells fv).toArray), (.agg d.cells.toArray)] L (fun v L' => v = .bool true ∧ L' = L) := by
  obtain ⟨As, cs, rfl, hcs⟩ := slShape hs
  obtain ⟨Ap, cp, rfl, hcp⟩ := slShape hp
  obtain ⟨Am, cm, rfl, hcm⟩ := slShape hm
  obtain ⟨Af, cf, rfl, hcf⟩ := slShape hf
  refine SCall.enter (n := 94) (res1 6) (hP ▸ Try.func10) rfl rfl (by simp) (res1_ok rfl) ?_
  refine SX.seq_k fun K1 hK1 => ?_
  refine SX.region_d [some 3, some 4, some 5, some 6] rfl (fun ops hops => ?_)
  unfold Dsts at hops
  simp (maxSteps:=1000000)(dsimp:=false)(disch:=omega) only [go_sem, Φa, hP, hops]
  intro b0
  try with_reducible refine stI ?_
  try simp (maxSteps:=1000000)(dsimp:=false)(disch:=omega) only [go_sem, Φa, hP, hops]
  intro b1
  try with_reducible refine stI ?_
  try simp (maxSteps:=1000000)(dsimp:=false)(disch:=omega) only [go_sem, Φa, hP, hops]
  intro b2
  try with_reducible refine stI ?_
  try simp (maxSteps:=1000000)(dsimp:=false)(disch:=omega) only [go_sem, Φa, hP, hops]
  refine hK1 _ _ ?_
  try clear hK1 K1
  refine SX.seq_k fun K2 hK2 => ?_
  refine SX.region_d [some 16, some 7] rfl (fun ops hops => ?_)
  unfold Dsts at hops
  simp (maxSteps:=1000000)(dsimp:=false)(disch:=omega) only [go_sem, Φa, hP, hops]
  first | (refine SCall.mono (awake_spec hP) ?_; rintro v_ L_ ⟨hv_, hL_⟩; rw [hv_, hL_]; clear hv_ hL_ v_ L_) | refine ⟨_, awake_spec hP, ?_⟩ | refine ⟨_, fun L0 hl0 => awake_spec hP, ?_⟩
  try with_reducible refine stI ?_
  try simp (maxSteps:=1000000)(dsimp:=false)(disch:=omega) only [go_sem, Φa, hP, hops]
  refine hK2 _ _ ?_
  try clear hK2 K2
  refine SX.seq_k fun K3 hK3 => ?_
  refine SX.seq_k fun K4 hK4 => ?_
  refine SX.region_d [some 17, some 18, some 19] rfl (fun ops hops => ?_)
  unfold Dsts at hops
  simp (maxSteps:=1000000)(dsimp:=false)(disch:=omega) only [go_sem, Φa, hP, hops]
  refine ⟨_, Cell.at 2 rfl rfl, ?_⟩
  try with_reducible refine stI ?_
  try simp (maxSteps:=1000000)(dsimp:=false)(disch:=omega) only [go_sem, Φa, hP, hops]
  refine ⟨_, Cell.at 2 rfl rfl, ?_⟩
  try with_reducible refine stI ?_
  try simp (maxSteps:=1000000)(dsimp:=false)(disch:=omega) only [go_sem, Φa, hP, hops]
  refine ⟨_, Cell.at 2 rfl rfl, ?_⟩
  try with_reducible refine stI ?_
  try simp (maxSteps:=1000000)(dsimp:=false)(disch:=omega) only [go_sem, Φa, hP, hops]
  refine ⟨_, Cell.at 2 rfl rfl, ?_⟩
  try with_reducible refine stI ?_
  try simp (maxSteps:=1000000)(dsimp:=false)(disch:=omega) only [go_sem, Φa, hP, hops]
  refine ⟨_, Cell.at 2 rfl rfl, ?_⟩
  try with_reducible refine stI ?_
  try simp (maxSteps:=1000000)(dsimp:=false)(disch:=omega) only [go_sem, Φa, hP, hops]
  refine ⟨_, Cell.at 2 rfl rfl, ?_⟩
  try with_reducible refine stI ?_
  try simp (maxSteps:=1000000)(dsimp:=false)(disch:=omega) only [go_sem, Φa, hP, hops]
  refine ⟨_, Cell.at 2 rfl rfl, ?_⟩
  try with_reducible refine stI ?_
  try simp (maxSteps:=1000000)(dsimp:=false)(disch:=omega) only [go_sem, Φa, hP, hops]
  refine ⟨_, Cell.at 2 rfl rfl, ?_⟩
  try with_reducible refine stI ?_
  try simp (maxSteps:=1000000)(dsimp:=false)(disch:=omega) only [go_sem, Φa, hP, hops]
  refine ⟨_, Cell.at 2 rfl rfl, ?_⟩
  try with_reducible refine stI ?_
  try simp (maxSteps:=1000000)(dsimp:=false)(disch:=omega) only [go_sem, Φa, hP, hops]
  refine ⟨_, Cell.at 2 rfl rfl, ?_⟩
  try with_reducible refine stI ?_
  try simp (maxSteps:=1000000)(dsimp:=false)(disch:=omega) only [go_sem, Φa, hP, hops]
  refine ⟨_, Cell.at 2 rfl rfl, ?_⟩
  try with_reducible refine stI ?_
  try simp (maxSteps:=1000000)(dsimp:=false)(disch:=omega) only [go_sem, Φa, hP, hops]
  refine ⟨_, Cell.at 2 rfl rfl, ?_⟩
  try with_reducible refine stI ?_
  try simp (maxSteps:=1000000)(dsimp:=false)(disch:=omega) only [go_sem, Φa, hP, hops]
  refine ⟨_, Cell.at 2 rfl rfl, ?_⟩
  try with_reducible refine stI ?_
  try simp (maxSteps:=1000000)(dsimp:=false)(disch:=omega) only [go_sem, Φa, hP, hops]
  refine ⟨_, Cell.at 2 rfl rfl, ?_⟩
  try with_reducible refine stI ?_
  try simp (maxSteps:=1000000)(dsimp:=false)(disch:=omega) only [go_sem, Φa, hP, hops]
  refine ⟨_, Cell.at 2 rfl rfl, ?_⟩
  try with_reducible refine stI ?_
  try simp (maxSteps:=1000000)(dsimp:=false)(disch:=omega) only [go_sem, Φa, hP, hops]
  refine ⟨_, Cell.at 2 rfl rfl, ?_⟩
  try with_reducible refine stI ?_
  try simp (maxSteps:=1000000)(dsimp:=false)(disch:=omega) only [go_sem, Φa, hP, hops]
  refine ⟨_, Cell.at 2 rfl rfl, ?_⟩
  try with_reducible refine stI ?_
  try simp (maxSteps:=1000000)(dsimp:=false)(disch:=omega) only [go_sem, Φa, hP, hops]
  refine ⟨_, Cell.at 2 rfl rfl, ?_⟩
  try with_reducible refine stI ?_
  try simp (maxSteps:=1000000)(dsimp:=false)(disch:=omega) only [go_sem, Φa, hP, hops]
  refine ⟨_, Cell.at 2 rfl rfl, ?_⟩
  try with_reducible refine stI ?_
  try simp (maxSteps:=1000000)(dsimp:=false)(disch:=omega) only [go_sem, Φa, hP, hops]
  refine ⟨_, Cell.at 2 rfl rfl, ?_⟩
  try with_reducible refine stI ?_
  try simp (maxSteps:=1000000)(dsimp:=false)(disch:=omega) only [go_sem, Φa, hP, hops]
  refine ⟨_, Cell.at 2 rfl rfl, ?_⟩
  try with_reducible refine stI ?_
  try simp (maxSteps:=1000000)(dsimp:=false)(disch:=omega) only [go_sem, Φa, hP, hops]
  refine ⟨_, Cell.at 2 rfl rfl, ?_⟩
  try with_reducible refine stI ?_
  try simp (maxSteps:=1000000)(dsimp:=false)(disch:=omega) only [go_sem, Φa, hP, hops]
  refine ⟨_, Cell.at 2 rfl rfl, ?_⟩
  try with_reducible refine stI ?_
  try simp (maxSteps:=1000000)(dsimp:=false)(disch:=omega) only [go_sem, Φa, hP, hops]
  refine ⟨_, Cell.at 1 rfl rfl, ?_⟩
  try with_reducible refine stI ?_
  try simp (maxSteps:=1000000)(dsimp:=false)(disch:=omega) only [go_sem, Φa, hP, hops]
  refine ⟨_, Cell.at 1 rfl rfl, ?_⟩
  try with_reducible refine stI ?_
  try simp (maxSteps:=1000000)(dsimp:=false)(disch:=omega) only [go_sem, Φa, hP, hops]
  refine ⟨_, Cell.at 1 rfl rfl, ?_⟩
  try with_reducible refine stI ?_
  try simp (maxSteps:=1000000)(dsimp:=false)(disch:=omega) only [go_sem, Φa, hP, hops]
  refine ⟨_, Cell.at 1 rfl rfl, ?_⟩
  try with_reducible refine stI ?_
  try simp (maxSteps:=1000000)(dsimp:=false)(disch:=omega) only [go_sem, Φa, hP, hops]
  refine ⟨_, Cell.at 1 rfl rfl, ?_⟩
  try with_reducible refine stI ?_
  try simp (maxSteps:=1000000)(dsimp:=false)(disch:=omega) only [go_sem, Φa, hP, hops]
  refine ⟨_, Cell.at 1 rfl rfl, ?_⟩
  try with_reducible refine stI ?_
  try simp (maxSteps:=1000000)(dsimp:=false)(disch:=omega) only [go_sem, Φa, hP, hops]
  refine ⟨_, Cell.at 1 rfl rfl, ?_⟩
  try with_reducible refine stI ?_
  try simp (maxSteps:=1000000)(dsimp:=false)(disch:=omega) only [go_sem, Φa, hP, hops]
  refine ⟨_, Cell.at 1 rfl rfl, ?_⟩
  try with_reducible refine stI ?_
  try simp (maxSteps:=1000000)(dsimp:=false)(disch:=omega) only [go_sem, Φa, hP, hops]
  refine ⟨_, Cell.at 1 rfl rfl, ?_⟩
  try with_reducible refine stI ?_
  try simp (maxSteps:=1000000)(dsimp:=false)(disch:=omega) only [go_sem, Φa, hP, hops]
  refine ⟨_, Cell.at 1 rfl rfl, ?_⟩
  try with_reducible refine stI ?_
  try simp (maxSteps:=1000000)(dsimp:=false)(disch:=omega) only [go_sem, Φa, hP, hops]
  refine ⟨_, Cell.at 1 rfl rfl, ?_⟩
  try with_reducible refine stI ?_
  try simp (maxSteps:=1000000)(dsimp:=false)(disch:=omega) only [go_sem, Φa, hP, hops]
  refine ⟨_, Cell.at 1 rfl rfl, ?_⟩
  try with_reducible refine stI ?_
  try simp (maxSteps:=1000000)(dsimp:=false)(disch:=omega) only [go_sem, Φa, hP, hops]
  refine ⟨_, Cell.at 1 rfl rfl, ?_⟩
  try with_reducible refine stI ?_
  try simp (maxSteps:=1000000)(dsimp:=false)(disch:=omega) only [go_sem, Φa, hP, hops]
  refine ⟨_, Cell.at 1 rfl rfl, ?_⟩
  try with_reducible refine stI ?_
  try simp (maxSteps:=1000000)(dsimp:=false)(disch:=omega) only [go_sem, Φa, hP, hops]
  refine ⟨_, Cell.at 1 rfl rfl, ?_⟩
  try with_reducible refine stI ?_
  try simp (maxSteps:=1000000)(dsimp:=false)(disch:=omega) only [go_sem, Φa, hP, hops]
  refine ⟨_, Cell.at 1 rfl rfl, ?_⟩
  try with_reducible refine stI ?_
  try simp (maxSteps:=1000000)(dsimp:=false)(disch:=omega) only [go_sem, Φa, hP, hops]
  refine ⟨_, Cell.at 1 rfl rfl, ?_⟩
  try with_reducible refine stI ?_
  try simp (maxSteps:=1000000)(dsimp:=false)(disch:=omega) only [go_sem, Φa, hP, hops]
  refine ⟨_, Cell.at 1 rfl rfl, ?_⟩
  try with_reducible refine stI ?_
  try simp (maxSteps:=1000000)(dsimp:=false)(disch:=omega) only [go_sem, Φa, hP, hops]
  first | (refine SCall.mono (vast_spec (g := g) (f := f) hP (SlI.any hs) (SlI.any hp) (SlI.any hm) (SlI.any hf)) ?_; rintro v_ L_ ⟨hv_, hL_⟩; rw [hv_, hL_]; clear hv_ hL_ v_ L_) | refine ⟨_, vast_spec (g := g) (f := f) hP (SlI.any hs) (SlI.any hp) (SlI.any hm) (SlI.any hf), ?_⟩ | refine ⟨_, fun L0 hl0 => vast_spec (g := g) (f := f) hP (SlI.any hs) (SlI.any hp) (SlI.any hm) (SlI.any hf), ?_⟩
  try with_reducible refine stI ?_
  try simp (maxSteps:=1000000)(dsimp:=false)(disch:=omega) only [go_sem, Φa, hP, hops]
  refine hK4 _ _ ?_
  try clear hK4 K4
  refine SX.live [3, 4, 5, 7, 19] (fun T1 hT1 => ?_)
  simp only [forall_mem_cons', forall_mem_nil', go_sem, Φa, hP] at hT1
  obtain ⟨h1_3, h1_4, h1_5, h1_7, h1_19⟩ := hT1
  refine SX.cond_k fun X5 Y5 hX5 hY5 => ?_
  simp (maxSteps:=1000000)(dsimp:=false)(disch:=omega) only [go_sem, Φa, hP, h1_3, h1_4, h1_5, h1_7, h1_19, condVC]
  refine ⟨fun hc19 => hX5 ?_, fun hc19 => hY5 ?_⟩
  · clear hX5 hY5 X5 Y5
    refine SX.seq_k fun K6 hK6 => ?_
    refine SX.region_d [some 6] rfl (fun ops hops => ?_)
    unfold Dsts at hops
    simp (maxSteps:=1000000)(dsimp:=false)(disch:=omega) only [go_sem, Φa, hP, h1_3, h1_4, h1_5, h1_7, h1_19, hops]
    refine hK6 _ _ ?_
    try clear hK6 K6
    refine SX.ret ?_
    simp only [andThen_normal, andThen_ret, andThen_exit, inBlk_normal, inBlk_ret, inBlk_exit, Nat.reduceEqDiff, if_true, if_false, ↓reduceIte, retQ_ret]
    try simp only [res0, res1, res2, res3, stK_e, go_sem, Φa, hP, h1_3, h1_4, h1_5, h1_7, h1_19]
    exact ⟨_, _, Less.tail [_, _, _] _, rfl, rfl, rfl⟩
  · clear hX5 hY5 X5 Y5
    refine SX.skip ?_
    try simp only [andThen_normal, andThen_ret, andThen_exit, inBlk_normal, inBlk_ret, inBlk_exit, Nat.reduceEqDiff, if_true, if_false, ↓reduceIte]
    refine hK3 _ _ ?_
    try clear hK3 K3
    refine SX.seq_k fun K7 hK7 => ?_
    obtain ⟨hs1, hs2, hs3, hs4⟩ := vast_no (by simpa using hc19)
    refine SX.region_d [some 20, some 21, some 8] rfl (fun ops hops => ?_)
    unfold Dsts at hops
    simp (maxSteps:=1000000)(dsimp:=false)(disch:=omega) only [go_sem, Φa, hP, h1_3, h1_4, h1_5, h1_7, h1_19, hops]
    refine ⟨_, Cell.at 2 rfl rfl, ?_⟩
    try with_reducible refine stI ?_
    try simp (maxSteps:=1000000)(dsimp:=false)(disch:=omega) only [go_sem, Φa, hP, h1_3, h1_4, h1_5, h1_7, h1_19, hops]
    refine ⟨_, Cell.at 2 rfl rfl, ?_⟩
    try with_reducible refine stI ?_
    try simp (maxSteps:=1000000)(dsimp:=false)(disch:=omega) only [go_sem, Φa, hP, h1_3, h1_4, h1_5, h1_7, h1_19, hops]
    refine ⟨_, Cell.at 2 rfl rfl, ?_⟩
    try with_reducible refine stI ?_
    try simp (maxSteps:=1000000)(dsimp:=false)(disch:=omega) only [go_sem, Φa, hP, h1_3, h1_4, h1_5, h1_7, h1_19, hops]
    refine ⟨_, Cell.at 2 rfl rfl, ?_⟩
    try with_reducible refine stI ?_
    try simp (maxSteps:=1000000)(dsimp:=false)(disch:=omega) only [go_sem, Φa, hP, h1_3, h1_4, h1_5, h1_7, h1_19, hops]
    refine ⟨_, Cell.at 2 rfl rfl, ?_⟩
    try with_reducible refine stI ?_
    try simp (maxSteps:=1000000)(dsimp:=false)(disch:=omega) only [go_sem, Φa, hP, h1_3, h1_4, h1_5, h1_7, h1_19, hops]
    refine ⟨_, Cell.at 2 rfl rfl, ?_⟩
    try with_reducible refine stI ?_
    try simp (maxSteps:=1000000)(dsimp:=false)(disch:=omega) only [go_sem, Φa, hP, h1_3, h1_4, h1_5, h1_7, h1_19, hops]
    refine ⟨_, Cell.at 2 rfl rfl, ?_⟩
    try with_reducible refine stI ?_
    try simp (maxSteps:=1000000)(dsimp:=false)(disch:=omega) only [go_sem, Φa, hP, h1_3, h1_4, h1_5, h1_7, h1_19, hops]
    refine ⟨_, Cell.at 2 rfl rfl, ?_⟩
    try with_reducible refine stI ?_
    try simp (maxSteps:=1000000)(dsimp:=false)(disch:=omega) only [go_sem, Φa, hP, h1_3, h1_4, h1_5, h1_7, h1_19, hops]
    refine ⟨_, Cell.at 2 rfl rfl, ?_⟩
    try with_reducible refine stI ?_
    try simp (maxSteps:=1000000)(dsimp:=false)(disch:=omega) only [go_sem, Φa, hP, h1_3, h1_4, h1_5, h1_7, h1_19, hops]
    refine ⟨_, Cell.at 2 rfl rfl, ?_⟩
    try with_reducible refine stI ?_
    try simp (maxSteps:=1000000)(dsimp:=false)(disch:=omega) only [go_sem, Φa, hP, h1_3, h1_4, h1_5, h1_7, h1_19, hops]
    refine ⟨_, Cell.at 2 rfl rfl, ?_⟩
    try with_reducible refine stI ?_
    try simp (maxSteps:=1000000)(dsimp:=false)(disch:=omega) only [go_sem, Φa, hP, h1_3, h1_4, h1_5, h1_7, h1_19, hops]
    refine ⟨_, Cell.at 2 rfl rfl, ?_⟩
    try with_reducible refine stI ?_
    try simp (maxSteps:=1000000)(dsimp:=false)(disch:=omega) only [go_sem, Φa, hP, h1_3, h1_4, h1_5, h1_7, h1_19, hops]
    refine ⟨_, Cell.at 2 rfl rfl, ?_⟩
    try with_reducible refine stI ?_
    try simp (maxSteps:=1000000)(dsimp:=false)(disch:=omega) only [go_sem, Φa, hP, h1_3, h1_4, h1_5, h1_7, h1_19, hops]
    refine ⟨_, Cell.at 2 rfl rfl, ?_⟩
    try with_reducible refine stI ?_
    try simp (maxSteps:=1000000)(dsimp:=false)(disch:=omega) only [go_sem, Φa, hP, h1_3, h1_4, h1_5, h1_7, h1_19, hops]
    refine ⟨_, Cell.at 2 rfl rfl, ?_⟩
    try with_reducible refine stI ?_
    try simp (maxSteps:=1000000)(dsimp:=false)(disch:=omega) only [go_sem, Φa, hP, h1_3, h1_4, h1_5, h1_7, h1_19, hops]
    refine ⟨_, Cell.at 2 rfl rfl, ?_⟩
    try with_reducible refine stI ?_
    try simp (maxSteps:=1000000)(dsimp:=false)(disch:=omega) only [go_sem, Φa, hP, h1_3, h1_4, h1_5, h1_7, h1_19, hops]
    refine ⟨_, Cell.at 2 rfl rfl, ?_⟩
    try with_reducible refine stI ?_
    try simp (maxSteps:=1000000)(dsimp:=false)(disch:=omega) only [go_sem, Φa, hP, h1_3, h1_4, h1_5, h1_7, h1_19, hops]
    refine ⟨_, Cell.at 2 rfl rfl, ?_⟩
    try with_reducible refine stI ?_
    try simp (maxSteps:=1000000)(dsimp:=false)(disch:=omega) only [go_sem, Φa, hP, h1_3, h1_4, h1_5, h1_7, h1_19, hops]
    refine ⟨_, Cell.at 2 rfl rfl, ?_⟩
    try with_reducible refine stI ?_
    try simp (maxSteps:=1000000)(dsimp:=false)(disch:=omega) only [go_sem, Φa, hP, h1_3, h1_4, h1_5, h1_7, h1_19, hops]
    refine ⟨_, Cell.at 2 rfl rfl, ?_⟩
    try with_reducible refine stI ?_
    try simp (maxSteps:=1000000)(dsimp:=false)(disch:=omega) only [go_sem, Φa, hP, h1_3, h1_4, h1_5, h1_7, h1_19, hops]
    refine ⟨_, Cell.at 2 rfl rfl, ?_⟩
    try with_reducible refine stI ?_
    try simp (maxSteps:=1000000)(dsimp:=false)(disch:=omega) only [go_sem, Φa, hP, h1_3, h1_4, h1_5, h1_7, h1_19, hops]
    refine ⟨_, Cell.at 2 rfl rfl, ?_⟩
    try with_reducible refine stI ?_
    try simp (maxSteps:=1000000)(dsimp:=false)(disch:=omega) only [go_sem, Φa, hP, h1_3, h1_4, h1_5, h1_7, h1_19, hops]
    refine ⟨_, Cell.at 2 rfl rfl, ?_⟩
    try with_reducible refine stI ?_
    try simp (maxSteps:=1000000)(dsimp:=false)(disch:=omega) only [go_sem, Φa, hP, h1_3, h1_4, h1_5, h1_7, h1_19, hops]
    first | (refine SCall.mono (Check_spec (g := g) hP (SlI.any hs) (SlI.any hp) (SlI.any hm) (by omega) (by omega) (by omega)) ?_; rintro v_ L_ ⟨hv_, hL_⟩; rw [hv_, hL_]; clear hv_ hL_ v_ L_) | refine ⟨_, Check_spec (g := g) hP (SlI.any hs) (SlI.any hp) (SlI.any hm) (by omega) (by omega) (by omega), ?_⟩ | refine ⟨_, fun L0 hl0 => Check_spec (g := g) hP (SlI.any hs) (SlI.any hp) (SlI.any hm) (by omega) (by omega) (by omega), ?_⟩
    try with_reducible refine stI ?_
    try simp (maxSteps:=1000000)(dsimp:=false)(disch:=omega) only [go_sem, Φa, hP, h1_3, h1_4, h1_5, h1_7, h1_19, hops]
    refine hK7 _ _ ?_
    try clear hK7 K7
    refine SX.seq_k fun K8 hK8 => ?_
    refine SX.region_d [some 23, some 24, some 25, some 26, some 22, some 27, some 28, some 29, some 9, none, some 10, some 11] rfl (fun ops hops => ?_)
    unfold Dsts at hops
    simp (maxSteps:=1000000)(dsimp:=false)(disch:=omega) only [go_sem, Φa, hP, h1_3, h1_4, h1_5, h1_7, h1_19, hops]
    refine ⟨_, Cell.at 2 rfl rfl, ?_⟩
    try with_reducible refine stI ?_
    try simp (maxSteps:=1000000)(dsimp:=false)(disch:=omega) only [go_sem, Φa, hP, h1_3, h1_4, h1_5, h1_7, h1_19, hops]
    refine ⟨_, Cell.at 2 rfl rfl, ?_⟩
    try with_reducible refine stI ?_
    try simp (maxSteps:=1000000)(dsimp:=false)(disch:=omega) only [go_sem, Φa, hP, h1_3, h1_4, h1_5, h1_7, h1_19, hops]
    refine ⟨_, Cell.at 2 rfl rfl, ?_⟩
    try with_reducible refine stI ?_
    try simp (maxSteps:=1000000)(dsimp:=false)(disch:=omega) only [go_sem, Φa, hP, h1_3, h1_4, h1_5, h1_7, h1_19, hops]
    refine ⟨_, Cell.at 2 rfl rfl, ?_⟩
    try with_reducible refine stI ?_
    try simp (maxSteps:=1000000)(dsimp:=false)(disch:=omega) only [go_sem, Φa, hP, h1_3, h1_4, h1_5, h1_7, h1_19, hops]
    refine ⟨_, Cell.at 2 rfl rfl, ?_⟩
    try with_reducible refine stI ?_
    try simp (maxSteps:=1000000)(dsimp:=false)(disch:=omega) only [go_sem, Φa, hP, h1_3, h1_4, h1_5, h1_7, h1_19, hops]
    refine ⟨_, Cell.at 2 rfl rfl, ?_⟩
    try with_reducible refine stI ?_
    try simp (maxSteps:=1000000)(dsimp:=false)(disch:=omega) only [go_sem, Φa, hP, h1_3, h1_4, h1_5, h1_7, h1_19, hops]
    refine ⟨_, Cell.at 2 rfl rfl, ?_⟩
    try with_reducible refine stI ?_
    try simp (maxSteps:=1000000)(dsimp:=false)(disch:=omega) only [go_sem, Φa, hP, h1_3, h1_4, h1_5, h1_7, h1_19, hops]
    refine ⟨_, Cell.at 2 rfl rfl, ?_⟩
    try with_reducible refine stI ?_
    try simp (maxSteps:=1000000)(dsimp:=false)(disch:=omega) only [go_sem, Φa, hP, h1_3, h1_4, h1_5, h1_7, h1_19, hops]
    refine ⟨_, Cell.at 2 rfl rfl, ?_⟩
    try with_reducible refine stI ?_
    try simp (maxSteps:=1000000)(dsimp:=false)(disch:=omega) only [go_sem, Φa, hP, h1_3, h1_4, h1_5, h1_7, h1_19, hops]
    refine ⟨_, Cell.at 2 rfl rfl, ?_⟩
    try with_reducible refine stI ?_
    try simp (maxSteps:=1000000)(dsimp:=false)(disch:=omega) only [go_sem, Φa, hP, h1_3, h1_4, h1_5, h1_7, h1_19, hops]
    refine ⟨_, Cell.at 2 rfl rfl, ?_⟩
    try with_reducible refine stI ?_
    try simp (maxSteps:=1000000)(dsimp:=false)(disch:=omega) only [go_sem, Φa, hP, h1_3, h1_4, h1_5, h1_7, h1_19, hops]
    refine ⟨_, Cell.at 2 rfl rfl, ?_⟩
    try with_reducible refine stI ?_
    try simp (maxSteps:=1000000)(dsimp:=false)(disch:=omega) only [go_sem, Φa, hP, h1_3, h1_4, h1_5, h1_7, h1_19, hops]
    refine ⟨_, Cell.at 2 rfl rfl, ?_⟩
    try with_reducible refine stI ?_
    try simp (maxSteps:=1000000)(dsimp:=false)(disch:=omega) only [go_sem, Φa, hP, h1_3, h1_4, h1_5, h1_7, h1_19, hops]
    refine ⟨_, Cell.at 2 rfl rfl, ?_⟩
    try with_reducible refine stI ?_
    try simp (maxSteps:=1000000)(dsimp:=false)(disch:=omega) only [go_sem, Φa, hP, h1_3, h1_4, h1_5, h1_7, h1_19, hops]
    refine ⟨_, Cell.at 2 rfl rfl, ?_⟩
    try with_reducible refine stI ?_
    try simp (maxSteps:=1000000)(dsimp:=false)(disch:=omega) only [go_sem, Φa, hP, h1_3, h1_4, h1_5, h1_7, h1_19, hops]
    refine ⟨_, Cell.at 2 rfl rfl, ?_⟩
    try with_reducible refine stI ?_
    try simp (maxSteps:=1000000)(dsimp:=false)(disch:=omega) only [go_sem, Φa, hP, h1_3, h1_4, h1_5, h1_7, h1_19, hops]
    refine ⟨_, Cell.at 2 rfl rfl, ?_⟩
    try with_reducible refine stI ?_
    try simp (maxSteps:=1000000)(dsimp:=false)(disch:=omega) only [go_sem, Φa, hP, h1_3, h1_4, h1_5, h1_7, h1_19, hops]
    refine ⟨_, Cell.at 2 rfl rfl, ?_⟩
    try with_reducible refine stI ?_
    try simp (maxSteps:=1000000)(dsimp:=false)(disch:=omega) only [go_sem, Φa, hP, h1_3, h1_4, h1_5, h1_7, h1_19, hops]
    refine ⟨_, Cell.at 2 rfl rfl, ?_⟩
    try with_reducible refine stI ?_
    try simp (maxSteps:=1000000)(dsimp:=false)(disch:=omega) only [go_sem, Φa, hP, h1_3, h1_4, h1_5, h1_7, h1_19, hops]
    refine ⟨_, Cell.at 2 rfl rfl, ?_⟩
    try with_reducible refine stI ?_
    try simp (maxSteps:=1000000)(dsimp:=false)(disch:=omega) only [go_sem, Φa, hP, h1_3, h1_4, h1_5, h1_7, h1_19, hops]
    refine ⟨_, Cell.at 2 rfl rfl, ?_⟩
    try with_reducible refine stI ?_
    try simp (maxSteps:=1000000)(dsimp:=false)(disch:=omega) only [go_sem, Φa, hP, h1_3, h1_4, h1_5, h1_7, h1_19, hops]
    refine ⟨_, Cell.at 2 rfl rfl, ?_⟩
    try with_reducible refine stI ?_
    try simp (maxSteps:=1000000)(dsimp:=false)(disch:=omega) only [go_sem, Φa, hP, h1_3, h1_4, h1_5, h1_7, h1_19, hops]
    refine ⟨_, Cell.at 2 rfl rfl, ?_⟩
    try with_reducible refine stI ?_
    try simp (maxSteps:=1000000)(dsimp:=false)(disch:=omega) only [go_sem, Φa, hP, h1_3, h1_4, h1_5, h1_7, h1_19, hops]
    refine ⟨_, Cell.at 1 rfl rfl, ?_⟩
    try with_reducible refine stI ?_
    try simp (maxSteps:=1000000)(dsimp:=false)(disch:=omega) only [go_sem, Φa, hP, h1_3, h1_4, h1_5, h1_7, h1_19, hops]
    refine ⟨_, Cell.at 1 rfl rfl, ?_⟩
    try with_reducible refine stI ?_
    try simp (maxSteps:=1000000)(dsimp:=false)(disch:=omega) only [go_sem, Φa, hP, h1_3, h1_4, h1_5, h1_7, h1_19, hops]
    refine ⟨_, Cell.at 1 rfl rfl, ?_⟩
    try with_reducible refine stI ?_
    try simp (maxSteps:=1000000)(dsimp:=false)(disch:=omega) only [go_sem, Φa, hP, h1_3, h1_4, h1_5, h1_7, h1_19, hops]
    refine ⟨_, Cell.at 1 rfl rfl, ?_⟩
    try with_reducible refine stI ?_
    try simp (maxSteps:=1000000)(dsimp:=false)(disch:=omega) only [go_sem, Φa, hP, h1_3, h1_4, h1_5, h1_7, h1_19, hops]
    refine ⟨_, Cell.at 1 rfl rfl, ?_⟩
    try with_reducible refine stI ?_
    try simp (maxSteps:=1000000)(dsimp:=false)(disch:=omega) only [go_sem, Φa, hP, h1_3, h1_4, h1_5, h1_7, h1_19, hops]
    refine ⟨_, Cell.at 1 rfl rfl, ?_⟩
    try with_reducible refine stI ?_
    try simp (maxSteps:=1000000)(dsimp:=false)(disch:=omega) only [go_sem, Φa, hP, h1_3, h1_4, h1_5, h1_7, h1_19, hops]
    refine ⟨_, Cell.at 1 rfl rfl, ?_⟩
    try with_reducible refine stI ?_
    try simp (maxSteps:=1000000)(dsimp:=false)(disch:=omega) only [go_sem, Φa, hP, h1_3, h1_4, h1_5, h1_7, h1_19, hops]
    refine ⟨_, Cell.at 1 rfl rfl, ?_⟩
    try with_reducible refine stI ?_
    try simp (maxSteps:=1000000)(dsimp:=false)(disch:=omega) only [go_sem, Φa, hP, h1_3, h1_4, h1_5, h1_7, h1_19, hops]
    refine ⟨_, Cell.at 1 rfl rfl, ?_⟩
    try with_reducible refine stI ?_
    try simp (maxSteps:=1000000)(dsimp:=false)(disch:=omega) only [go_sem, Φa, hP, h1_3, h1_4, h1_5, h1_7, h1_19, hops]
    refine ⟨_, Cell.at 1 rfl rfl, ?_⟩
    try with_reducible refine stI ?_
    try simp (maxSteps:=1000000)(dsimp:=false)(disch:=omega) only [go_sem, Φa, hP, h1_3, h1_4, h1_5, h1_7, h1_19, hops]
    refine ⟨_, Cell.at 1 rfl rfl, ?_⟩
    try with_reducible refine stI ?_
    try simp (maxSteps:=1000000)(dsimp:=false)(disch:=omega) only [go_sem, Φa, hP, h1_3, h1_4, h1_5, h1_7, h1_19, hops]
    refine ⟨_, Cell.at 1 rfl rfl, ?_⟩
    try with_reducible refine stI ?_
    try simp (maxSteps:=1000000)(dsimp:=false)(disch:=omega) only [go_sem, Φa, hP, h1_3, h1_4, h1_5, h1_7, h1_19, hops]
    refine ⟨_, Cell.at 1 rfl rfl, ?_⟩
    try with_reducible refine stI ?_
    try simp (maxSteps:=1000000)(dsimp:=false)(disch:=omega) only [go_sem, Φa, hP, h1_3, h1_4, h1_5, h1_7, h1_19, hops]
    refine ⟨_, Cell.at 1 rfl rfl, ?_⟩
    try with_reducible refine stI ?_
    try simp (maxSteps:=1000000)(dsimp:=false)(disch:=omega) only [go_sem, Φa, hP, h1_3, h1_4, h1_5, h1_7, h1_19, hops]
    refine ⟨_, Cell.at 1 rfl rfl, ?_⟩
    try with_reducible refine stI ?_
    try simp (maxSteps:=1000000)(dsimp:=false)(disch:=omega) only [go_sem, Φa, hP, h1_3, h1_4, h1_5, h1_7, h1_19, hops]
    refine ⟨_, Cell.at 1 rfl rfl, ?_⟩
    try with_reducible refine stI ?_
    try simp (maxSteps:=1000000)(dsimp:=false)(disch:=omega) only [go_sem, Φa, hP, h1_3, h1_4, h1_5, h1_7, h1_19, hops]
    refine ⟨_, Cell.at 1 rfl rfl, ?_⟩
    try with_reducible refine stI ?_
    try simp (maxSteps:=1000000)(dsimp:=false)(disch:=omega) only [go_sem, Φa, hP, h1_3, h1_4, h1_5, h1_7, h1_19, hops]
    refine ⟨_, Cell.at 1 rfl rfl, ?_⟩
    try with_reducible refine stI ?_
    try simp (maxSteps:=1000000)(dsimp:=false)(disch:=omega) only [go_sem, Φa, hP, h1_3, h1_4, h1_5, h1_7, h1_19, hops]
    refine ⟨_, Cell.at 0 rfl rfl, ?_⟩
    try with_reducible refine stI ?_
    try simp (maxSteps:=1000000)(dsimp:=false)(disch:=omega) only [go_sem, Φa, hP, h1_3, h1_4, h1_5, h1_7, h1_19, hops]
    refine ⟨_, Cell.at 0 rfl rfl, ?_⟩
    try with_reducible refine stI ?_
    try simp (maxSteps:=1000000)(dsimp:=false)(disch:=omega) only [go_sem, Φa, hP, h1_3, h1_4, h1_5, h1_7, h1_19, hops]
    refine ⟨_, Cell.at 0 rfl rfl, ?_⟩
    try with_reducible refine stI ?_
    try simp (maxSteps:=1000000)(dsimp:=false)(disch:=omega) only [go_sem, Φa, hP, h1_3, h1_4, h1_5, h1_7, h1_19, hops]
    refine SCall.mono (Step_spec (g := g) (f := f) (d := d) hP hg hF hd (SlI.any hs) (SlI.any hp) (SlI.any hm) (SlI.any hf) (by omega) (by omega) (by omega) (by omega)) ?_
    rintro v_ L_ ⟨sv0, pv0, mv0, n1, n2, n3, rfl, rfl, hr⟩
    obtain ⟨A0st, c0st, rfl, hc0st⟩ := rowShape hr.st
    obtain ⟨A0pg, c0pg, rfl, hc0pg⟩ := rowShape hr.pg
    obtain ⟨A0mm, c0mm, rfl, hc0mm⟩ := rowShape hr.mm
    unfold GM.cells
    try with_reducible refine stI ?_
    try simp (maxSteps:=1000000)(dsimp:=false)(disch:=omega) only [go_sem, Φa, hP, h1_3, h1_4, h1_5, h1_7, h1_19, hops]
    intro b9
    try with_reducible refine stI ?_
    try simp (maxSteps:=1000000)(dsimp:=false)(disch:=omega) only [go_sem, Φa, hP, h1_3, h1_4, h1_5, h1_7, h1_19, hops]
    refine ⟨0, _, _, _, rfl, by decide, .inr (by decide), ?_⟩
    try with_reducible refine stI ?_
    try simp (maxSteps:=1000000)(dsimp:=false)(disch:=omega) only [go_sem, Φa, hP, h1_3, h1_4, h1_5, h1_7, h1_19, hops]
    refine hK8 _ _ ?_
    try clear hK8 K8
    refine SX.live [3, 7, 8, 9, 10, 11] (fun T2 hT2 => ?_)
    simp only [forall_mem_cons', forall_mem_nil', go_sem, Φa, hP, h1_3, h1_4, h1_5, h1_7, h1_19] at hT2
    obtain ⟨h2_3, h2_7, h2_8, h2_9, h2_10, h2_11⟩ := hT2
    clear h1_3 h1_4 h1_5 h1_7 h1_19 T1
    refine SX.seq_k fun K9 hK9 => ?_
    refine SX.region_d [some 30, some 31, some 12, none] rfl (fun ops hops => ?_)
    unfold Dsts at hops
    simp (maxSteps:=1000000)(dsimp:=false)(disch:=omega) only [go_sem, Φa, hP, h2_3, h2_7, h2_8, h2_9, h2_10, h2_11, hops]
    refine ⟨_, Cell.at 6 rfl rfl, ?_⟩
    try with_reducible refine stI ?_
    try simp (maxSteps:=1000000)(dsimp:=false)(disch:=omega) only [go_sem, Φa, hP, h2_3, h2_7, h2_8, h2_9, h2_10, h2_11, hops]
    refine ⟨_, Cell.at 6 rfl rfl, ?_⟩
    try with_reducible refine stI ?_
    try simp (maxSteps:=1000000)(dsimp:=false)(disch:=omega) only [go_sem, Φa, hP, h2_3, h2_7, h2_8, h2_9, h2_10, h2_11, hops]
    refine ⟨_, Cell.at 6 rfl rfl, ?_⟩
    try with_reducible refine stI ?_
    try simp (maxSteps:=1000000)(dsimp:=false)(disch:=omega) only [go_sem, Φa, hP, h2_3, h2_7, h2_8, h2_9, h2_10, h2_11, hops]
    refine ⟨_, Cell.at 6 rfl rfl, ?_⟩
    try with_reducible refine stI ?_
    try simp (maxSteps:=1000000)(dsimp:=false)(disch:=omega) only [go_sem, Φa, hP, h2_3, h2_7, h2_8, h2_9, h2_10, h2_11, hops]
    refine ⟨_, Cell.at 6 rfl rfl, ?_⟩
    try with_reducible refine stI ?_
    try simp (maxSteps:=1000000)(dsimp:=false)(disch:=omega) only [go_sem, Φa, hP, h2_3, h2_7, h2_8, h2_9, h2_10, h2_11, hops]
    refine ⟨_, Cell.at 6 rfl rfl, ?_⟩
    try with_reducible refine stI ?_
    try simp (maxSteps:=1000000)(dsimp:=false)(disch:=omega) only [go_sem, Φa, hP, h2_3, h2_7, h2_8, h2_9, h2_10, h2_11, hops]
    refine ⟨_, Cell.at 6 rfl rfl, ?_⟩
    try with_reducible refine stI ?_
    try simp (maxSteps:=1000000)(dsimp:=false)(disch:=omega) only [go_sem, Φa, hP, h2_3, h2_7, h2_8, h2_9, h2_10, h2_11, hops]
    refine ⟨_, Cell.at 6 rfl rfl, ?_⟩
    try with_reducible refine stI ?_
    try simp (maxSteps:=1000000)(dsimp:=false)(disch:=omega) only [go_sem, Φa, hP, h2_3, h2_7, h2_8, h2_9, h2_10, h2_11, hops]
    refine ⟨_, Cell.at 6 rfl rfl, ?_⟩
    try with_reducible refine stI ?_
    try simp (maxSteps:=1000000)(dsimp:=false)(disch:=omega) only [go_sem, Φa, hP, h2_3, h2_7, h2_8, h2_9, h2_10, h2_11, hops]
    refine ⟨_, Cell.at 6 rfl rfl, ?_⟩
    try with_reducible refine stI ?_
    try simp (maxSteps:=1000000)(dsimp:=false)(disch:=omega) only [go_sem, Φa, hP, h2_3, h2_7, h2_8, h2_9, h2_10, h2_11, hops]
    refine ⟨_, Cell.at 6 rfl rfl, ?_⟩
    try with_reducible refine stI ?_
    try simp (maxSteps:=1000000)(dsimp:=false)(disch:=omega) only [go_sem, Φa, hP, h2_3, h2_7, h2_8, h2_9, h2_10, h2_11, hops]
    refine ⟨_, Cell.at 6 rfl rfl, ?_⟩
    try with_reducible refine stI ?_
    try simp (maxSteps:=1000000)(dsimp:=false)(disch:=omega) only [go_sem, Φa, hP, h2_3, h2_7, h2_8, h2_9, h2_10, h2_11, hops]
    refine ⟨_, Cell.at 6 rfl rfl, ?_⟩
    try with_reducible refine stI ?_
    try simp (maxSteps:=1000000)(dsimp:=false)(disch:=omega) only [go_sem, Φa, hP, h2_3, h2_7, h2_8, h2_9, h2_10, h2_11, hops]
    refine ⟨_, Cell.at 6 rfl rfl, ?_⟩
    try with_reducible refine stI ?_
    try simp (maxSteps:=1000000)(dsimp:=false)(disch:=omega) only [go_sem, Φa, hP, h2_3, h2_7, h2_8, h2_9, h2_10, h2_11, hops]
    refine ⟨_, Cell.at 6 rfl rfl, ?_⟩
    try with_reducible refine stI ?_
    try simp (maxSteps:=1000000)(dsimp:=false)(disch:=omega) only [go_sem, Φa, hP, h2_3, h2_7, h2_8, h2_9, h2_10, h2_11, hops]
    refine ⟨_, Cell.at 6 rfl rfl, ?_⟩
    try with_reducible refine stI ?_
    try simp (maxSteps:=1000000)(dsimp:=false)(disch:=omega) only [go_sem, Φa, hP, h2_3, h2_7, h2_8, h2_9, h2_10, h2_11, hops]
    refine ⟨_, Cell.at 6 rfl rfl, ?_⟩
    try with_reducible refine stI ?_
    try simp (maxSteps:=1000000)(dsimp:=false)(disch:=omega) only [go_sem, Φa, hP, h2_3, h2_7, h2_8, h2_9, h2_10, h2_11, hops]
    refine ⟨_, Cell.at 6 rfl rfl, ?_⟩
    try with_reducible refine stI ?_
    try simp (maxSteps:=1000000)(dsimp:=false)(disch:=omega) only [go_sem, Φa, hP, h2_3, h2_7, h2_8, h2_9, h2_10, h2_11, hops]
    refine ⟨_, Cell.at 6 rfl rfl, ?_⟩
    try with_reducible refine stI ?_
    try simp (maxSteps:=1000000)(dsimp:=false)(disch:=omega) only [go_sem, Φa, hP, h2_3, h2_7, h2_8, h2_9, h2_10, h2_11, hops]
    refine ⟨_, Cell.at 6 rfl rfl, ?_⟩
    try with_reducible refine stI ?_
    try simp (maxSteps:=1000000)(dsimp:=false)(disch:=omega) only [go_sem, Φa, hP, h2_3, h2_7, h2_8, h2_9, h2_10, h2_11, hops]
    refine ⟨_, Cell.at 6 rfl rfl, ?_⟩
    try with_reducible refine stI ?_
    try simp (maxSteps:=1000000)(dsimp:=false)(disch:=omega) only [go_sem, Φa, hP, h2_3, h2_7, h2_8, h2_9, h2_10, h2_11, hops]
    refine ⟨_, Cell.at 6 rfl rfl, ?_⟩
    try with_reducible refine stI ?_
    try simp (maxSteps:=1000000)(dsimp:=false)(disch:=omega) only [go_sem, Φa, hP, h2_3, h2_7, h2_8, h2_9, h2_10, h2_11, hops]
    refine ⟨_, Cell.at 6 rfl rfl, ?_⟩
    try with_reducible refine stI ?_
    try simp (maxSteps:=1000000)(dsimp:=false)(disch:=omega) only [go_sem, Φa, hP, h2_3, h2_7, h2_8, h2_9, h2_10, h2_11, hops]
    refine SCall.mono (Tick_spec (g := g) hP hg (SlI.any hs) (SlI.any hp) (SlI.any hm) (by omega) (by omega) (by omega)) ?_
    rintro v_ L_ ⟨sv1, pv1, mv1, m1, m2, m3, rfl, rfl, hr1⟩
    obtain ⟨A1st, c1st, rfl, hc1st⟩ := rowShape hr1.st
    obtain ⟨A1pg, c1pg, rfl, hc1pg⟩ := rowShape hr1.pg
    obtain ⟨A1mm, c1mm, rfl, hc1mm⟩ := rowShape hr1.mm
    unfold GM.cells
    try with_reducible refine stI ?_
    try simp (maxSteps:=1000000)(dsimp:=false)(disch:=omega) only [go_sem, Φa, hP, h2_3, h2_7, h2_8, h2_9, h2_10, h2_11, hops]
    intro b12
    try with_reducible refine stI ?_
    try simp (maxSteps:=1000000)(dsimp:=false)(disch:=omega) only [go_sem, Φa, hP, h2_3, h2_7, h2_8, h2_9, h2_10, h2_11, hops]
    refine ⟨0, _, _, _, rfl, by decide, .inr (by decide), ?_⟩
    try with_reducible refine stI ?_
    try simp (maxSteps:=1000000)(dsimp:=false)(disch:=omega) only [go_sem, Φa, hP, h2_3, h2_7, h2_8, h2_9, h2_10, h2_11, hops]
    refine hK9 _ _ ?_
    try clear hK9 K9
    refine SX.seq_k fun K10 hK10 => ?_
    refine SX.seq_k fun K11 hK11 => ?_
    refine SX.region_d [some 32, some 33] rfl (fun ops hops => ?_)
    unfold Dsts at hops
    simp (maxSteps:=1000000)(dsimp:=false)(disch:=omega) only [go_sem, Φa, hP, h2_3, h2_7, h2_8, h2_9, h2_10, h2_11, hops]
    repeat' ((first | refine And.intro (by omega) ?_ | fail); try (with_reducible refine stI ?_); try simp (maxSteps:=1000000)(dsimp:=false)(disch:=omega) only [go_sem, Φa, hP, h2_3, h2_7, h2_8, h2_9, h2_10, h2_11, hops])
    refine hK11 _ _ ?_
    try clear hK11 K11
    refine SX.cond_k fun X12 Y12 hX12 hY12 => ?_
    simp (maxSteps:=1000000)(dsimp:=false)(disch:=omega) only [go_sem, Φa, hP, h2_3, h2_7, h2_8, h2_9, h2_10, h2_11, condVC]
    refine ⟨fun hc33 => hX12 ?_, fun hc33 => hY12 ?_⟩
    · clear hX12 hY12 X12 Y12
      refine SX.seq_k fun K13 hK13 => ?_
      refine SX.region_xd [some 34, some 35, some 36, some 37, some 38, some 39, some 40, some 41, some 42, some 43, some 44, some 45, some 46, some 47, some 48, some 49, some 50, some 51, some 52, some 53, some 54, some 55, some 6] rfl (fun ops hops => ?_)
      unfold Dsts at hops
      refine RX.live [7, 8, 9, 10, 11, 12] (fun T3 hT3 => ?_)
      simp only [forall_mem_cons', forall_mem_nil', go_sem, Φa, hP, h2_3, h2_7, h2_8, h2_9, h2_10, h2_11] at hT3
      obtain ⟨h3_7, h3_8, h3_9, h3_10, h3_11, h3_12⟩ := hT3
      clear h2_3 h2_7 h2_8 h2_9 h2_10 h2_11 T2
      have hbad := stepG_bad (f := f) (d := d) (g := g) (by simpa using hc33)
      have e1 : (stepG g f d).2.2 = checkE g := by rw [hbad]
      have e2 : (stepG g f d).2.1 = 0 := by rw [hbad]
      have e3 : (stepG g f d).1.pg.length = 0 := by rw [hbad]; rfl
      have e4 : (tickG g).pg.length = 0 := by rw [tickG_bad (by simpa using hc33)]; rfl
      refine RX.join 6 (fun (ss : Unit) T L' => T 39 = .bool (true) ∧ T 9 = T3 9 ∧ T 10 = T3 10 ∧ T 12 = T3 12 ∧ L' = some (b12, .cells ((tickG g).cells (.slice A1st (tickG g).st.length c1st) (.slice A1pg (tickG g).pg.length c1pg) (.slice A1mm (tickG g).mm.length c1mm)).toArray 29 (0, 0)) :: m1 :: m2 :: m3 :: some (b9, .cells ((stepG g f d).1.cells (.slice A0st (stepG g f d).1.st.length c0st) (.slice A0pg (stepG g f d).1.pg.length c0pg) (.slice A0mm (stepG g f d).1.mm.length c0mm)).toArray 29 (0, 0)) :: n1 :: n2 :: n3 :: some (b2, .cells d.cells.toArray 50 (0, 0)) :: some (b1, .cells (f.cells (.slice Af f.bs.length cf)).toArray 40 (0, 0)) :: some (b0, .cells (g.cells (.slice As g.st.length cs) (.slice Ap g.pg.length cp) (.slice Am g.mm.length cm)).toArray 29 (0, 0)) :: L ∧ (True)) (fun K14 hK14 => ?_) ?_
      · simp only [h3_9, h3_10, h3_12] at hK14
        simp (maxSteps:=1000000)(dsimp:=false)(disch:=omega) only [go_sem, Φa, hP, h3_7, h3_8, h3_9, h3_10, h3_11, h3_12, hops]
        repeat' (first | refine iteB (fun hg => ?_) (fun hg => ?_) | refine iteI (fun hg => ?_) (fun hg => ?_) | ((first | refine And.intro (by omega) ?_ | refine ⟨_, Cell.at 0 rfl rfl, ?_⟩ | refine ⟨_, Cell.at 1 rfl rfl, ?_⟩ | refine ⟨_, Cell.at 2 rfl rfl, ?_⟩ | refine ⟨_, Cell.at 3 rfl rfl, ?_⟩ | refine ⟨_, Cell.at 4 rfl rfl, ?_⟩ | refine ⟨_, Cell.at 5 rfl rfl, ?_⟩ | refine ⟨_, Cell.at 6 rfl rfl, ?_⟩ | refine ⟨_, Cell.at 7 rfl rfl, ?_⟩ | refine ⟨_, Cell.at 8 rfl rfl, ?_⟩ | refine ⟨_, Cell.at 9 rfl rfl, ?_⟩ | refine ⟨_, Cell.at 10 rfl rfl, ?_⟩ | fail); try (with_reducible refine stI ?_); try simp (maxSteps:=1000000)(dsimp:=false)(disch:=omega) only [go_sem, Φa, hP, h3_7, h3_8, h3_9, h3_10, h3_11, h3_12, hops]) | fail)
        all_goals
          refine hK14 () _ (some (b12, .cells ((tickG g).cells (.slice A1st (tickG g).st.length c1st) (.slice A1pg (tickG g).pg.length c1pg) (.slice A1mm (tickG g).mm.length c1mm)).toArray 29 (0, 0)) :: m1 :: m2 :: m3 :: some (b9, .cells ((stepG g f d).1.cells (.slice A0st (stepG g f d).1.st.length c0st) (.slice A0pg (stepG g f d).1.pg.length c0pg) (.slice A0mm (stepG g f d).1.mm.length c0mm)).toArray 29 (0, 0)) :: n1 :: n2 :: n3 :: some (b2, .cells d.cells.toArray 50 (0, 0)) :: some (b1, .cells (f.cells (.slice Af f.bs.length cf)).toArray 40 (0, 0)) :: some (b0, .cells (g.cells (.slice As g.st.length cs) (.slice Ap g.pg.length cp) (.slice Am g.mm.length cm)).toArray 29 (0, 0)) :: L) _ (by first | exact Less.refl _ | exact Less.drop _ _ | exact Less.drops (Less.drop _ _) | exact Less.drops (Less.drops (Less.drop _ _)) | exact Less.drops (Less.drops (Less.drops (Less.drop _ _))) | exact Less.drops (Less.drops (Less.drops (Less.drops (Less.drop _ _))))) ?_
          try dsimp only
          refine ⟨?_, ?_, ?_, ?_, ?_, ?_⟩
          · simp (maxSteps:=1000000)(dsimp:=false)(disch:=omega) only [go_sem, Φa, hP, h3_7, h3_8, h3_9, h3_10, h3_11, h3_12]
            first | done | (refine congrArg Value.bool ?_; simp_all; done)
          · simp (maxSteps:=1000000)(dsimp:=false)(disch:=omega) only [go_sem, Φa, hP, h3_7, h3_8, h3_9, h3_10, h3_11, h3_12]
          · simp (maxSteps:=1000000)(dsimp:=false)(disch:=omega) only [go_sem, Φa, hP, h3_7, h3_8, h3_9, h3_10, h3_11, h3_12]
          · simp (maxSteps:=1000000)(dsimp:=false)(disch:=omega) only [go_sem, Φa, hP, h3_7, h3_8, h3_9, h3_10, h3_11, h3_12]
          · rfl
          · trivial
      · intro ss T4 L4 hI
        simp only [h3_9, h3_10, h3_12] at hI 
        obtain ⟨h4_39, h4_9, h4_10, h4_12, hL4, hinv⟩ := hI
        replace hL4 := hL4.symm
        subst hL4
        clear h3_7 h3_8 h3_9 h3_10 h3_11 h3_12 T3
        refine RX.live [9, 10, 12, 39] (fun T5 hT5 => ?_)
        simp only [forall_mem_cons', forall_mem_nil', go_sem, Φa, hP, h4_39, h4_9, h4_10, h4_12] at hT5
        obtain ⟨h5_9, h5_10, h5_12, h5_39⟩ := hT5
        clear h4_39 h4_9 h4_10 h4_12 T4
        refine RX.join 4 (fun (ss : Unit) T L' => T 43 = .bool (true) ∧ T 9 = T5 9 ∧ T 12 = T5 12 ∧ L' = some (b12, .cells ((tickG g).cells (.slice A1st (tickG g).st.length c1st) (.slice A1pg (tickG g).pg.length c1pg) (.slice A1mm (tickG g).mm.length c1mm)).toArray 29 (0, 0)) :: m1 :: m2 :: m3 :: some (b9, .cells ((stepG g f d).1.cells (.slice A0st (stepG g f d).1.st.length c0st) (.slice A0pg (stepG g f d).1.pg.length c0pg) (.slice A0mm (stepG g f d).1.mm.length c0mm)).toArray 29 (0, 0)) :: n1 :: n2 :: n3 :: some (b2, .cells d.cells.toArray 50 (0, 0)) :: some (b1, .cells (f.cells (.slice Af f.bs.length cf)).toArray 40 (0, 0)) :: some (b0, .cells (g.cells (.slice As g.st.length cs) (.slice Ap g.pg.length cp) (.slice Am g.mm.length cm)).toArray 29 (0, 0)) :: L ∧ (True)) (fun K15 hK15 => ?_) ?_
        · simp only [h5_9, h5_12] at hK15
          simp (maxSteps:=1000000)(dsimp:=false)(disch:=omega) only [go_sem, Φa, hP, h5_9, h5_10, h5_12, h5_39, hops]
          repeat' (first | refine iteB (fun hg => ?_) (fun hg => ?_) | refine iteI (fun hg => ?_) (fun hg => ?_) | ((first | refine And.intro (by omega) ?_ | refine ⟨_, Cell.at 0 rfl rfl, ?_⟩ | refine ⟨_, Cell.at 1 rfl rfl, ?_⟩ | refine ⟨_, Cell.at 2 rfl rfl, ?_⟩ | refine ⟨_, Cell.at 3 rfl rfl, ?_⟩ | refine ⟨_, Cell.at 4 rfl rfl, ?_⟩ | refine ⟨_, Cell.at 5 rfl rfl, ?_⟩ | refine ⟨_, Cell.at 6 rfl rfl, ?_⟩ | refine ⟨_, Cell.at 7 rfl rfl, ?_⟩ | refine ⟨_, Cell.at 8 rfl rfl, ?_⟩ | refine ⟨_, Cell.at 9 rfl rfl, ?_⟩ | refine ⟨_, Cell.at 10 rfl rfl, ?_⟩ | fail); try (with_reducible refine stI ?_); try simp (maxSteps:=1000000)(dsimp:=false)(disch:=omega) only [go_sem, Φa, hP, h5_9, h5_10, h5_12, h5_39, hops]) | fail)
          all_goals
            refine hK15 () _ (some (b12, .cells ((tickG g).cells (.slice A1st (tickG g).st.length c1st) (.slice A1pg (tickG g).pg.length c1pg) (.slice A1mm (tickG g).mm.length c1mm)).toArray 29 (0, 0)) :: m1 :: m2 :: m3 :: some (b9, .cells ((stepG g f d).1.cells (.slice A0st (stepG g f d).1.st.length c0st) (.slice A0pg (stepG g f d).1.pg.length c0pg) (.slice A0mm (stepG g f d).1.mm.length c0mm)).toArray 29 (0, 0)) :: n1 :: n2 :: n3 :: some (b2, .cells d.cells.toArray 50 (0, 0)) :: some (b1, .cells (f.cells (.slice Af f.bs.length cf)).toArray 40 (0, 0)) :: some (b0, .cells (g.cells (.slice As g.st.length cs) (.slice Ap g.pg.length cp) (.slice Am g.mm.length cm)).toArray 29 (0, 0)) :: L) _ (by first | exact Less.refl _ | exact Less.drop _ _ | exact Less.drops (Less.drop _ _) | exact Less.drops (Less.drops (Less.drop _ _)) | exact Less.drops (Less.drops (Less.drops (Less.drop _ _))) | exact Less.drops (Less.drops (Less.drops (Less.drops (Less.drop _ _))))) ?_
            try dsimp only
            refine ⟨?_, ?_, ?_, ?_, ?_⟩
            · simp (maxSteps:=1000000)(dsimp:=false)(disch:=omega) only [go_sem, Φa, hP, h5_9, h5_10, h5_12, h5_39]
              first | done | (refine congrArg Value.bool ?_; simp_all; done)
            · simp (maxSteps:=1000000)(dsimp:=false)(disch:=omega) only [go_sem, Φa, hP, h5_9, h5_10, h5_12, h5_39]
            · simp (maxSteps:=1000000)(dsimp:=false)(disch:=omega) only [go_sem, Φa, hP, h5_9, h5_10, h5_12, h5_39]
            · rfl
            · trivial
        · intro ss T6 L6 hI
          simp only [h5_9, h5_12] at hI 
          obtain ⟨h6_43, h6_9, h6_12, hL6, hinv⟩ := hI
          replace hL6 := hL6.symm
          subst hL6
          clear h5_9 h5_10 h5_12 h5_39 T5
          refine RX.live [9, 12, 43] (fun T7 hT7 => ?_)
          simp only [forall_mem_cons', forall_mem_nil', go_sem, Φa, hP, h6_43, h6_9, h6_12] at hT7
          obtain ⟨h7_9, h7_12, h7_43⟩ := hT7
          clear h6_43 h6_9 h6_12 T6
          refine RX.join 6 (fun (ss : Unit) T L' => T 49 = .bool (true) ∧ T 12 = T7 12 ∧ L' = some (b12, .cells ((tickG g).cells (.slice A1st (tickG g).st.length c1st) (.slice A1pg (tickG g).pg.length c1pg) (.slice A1mm (tickG g).mm.length c1mm)).toArray 29 (0, 0)) :: m1 :: m2 :: m3 :: some (b9, .cells ((stepG g f d).1.cells (.slice A0st (stepG g f d).1.st.length c0st) (.slice A0pg (stepG g f d).1.pg.length c0pg) (.slice A0mm (stepG g f d).1.mm.length c0mm)).toArray 29 (0, 0)) :: n1 :: n2 :: n3 :: some (b2, .cells d.cells.toArray 50 (0, 0)) :: some (b1, .cells (f.cells (.slice Af f.bs.length cf)).toArray 40 (0, 0)) :: some (b0, .cells (g.cells (.slice As g.st.length cs) (.slice Ap g.pg.length cp) (.slice Am g.mm.length cm)).toArray 29 (0, 0)) :: L ∧ (True)) (fun K16 hK16 => ?_) ?_
          · simp only [h7_12] at hK16
            simp (maxSteps:=1000000)(dsimp:=false)(disch:=omega) only [go_sem, Φa, hP, h7_9, h7_12, h7_43, hops]
            repeat' (first | refine iteB (fun hg => ?_) (fun hg => ?_) | refine iteI (fun hg => ?_) (fun hg => ?_) | ((first | refine And.intro (by omega) ?_ | refine ⟨_, Cell.at 0 rfl rfl, ?_⟩ | refine ⟨_, Cell.at 1 rfl rfl, ?_⟩ | refine ⟨_, Cell.at 2 rfl rfl, ?_⟩ | refine ⟨_, Cell.at 3 rfl rfl, ?_⟩ | refine ⟨_, Cell.at 4 rfl rfl, ?_⟩ | refine ⟨_, Cell.at 5 rfl rfl, ?_⟩ | refine ⟨_, Cell.at 6 rfl rfl, ?_⟩ | refine ⟨_, Cell.at 7 rfl rfl, ?_⟩ | refine ⟨_, Cell.at 8 rfl rfl, ?_⟩ | refine ⟨_, Cell.at 9 rfl rfl, ?_⟩ | refine ⟨_, Cell.at 10 rfl rfl, ?_⟩ | fail); try (with_reducible refine stI ?_); try simp (maxSteps:=1000000)(dsimp:=false)(disch:=omega) only [go_sem, Φa, hP, h7_9, h7_12, h7_43, hops]) | fail)
            all_goals
              refine hK16 () _ (some (b12, .cells ((tickG g).cells (.slice A1st (tickG g).st.length c1st) (.slice A1pg (tickG g).pg.length c1pg) (.slice A1mm (tickG g).mm.length c1mm)).toArray 29 (0, 0)) :: m1 :: m2 :: m3 :: some (b9, .cells ((stepG g f d).1.cells (.slice A0st (stepG g f d).1.st.length c0st) (.slice A0pg (stepG g f d).1.pg.length c0pg) (.slice A0mm (stepG g f d).1.mm.length c0mm)).toArray 29 (0, 0)) :: n1 :: n2 :: n3 :: some (b2, .cells d.cells.toArray 50 (0, 0)) :: some (b1, .cells (f.cells (.slice Af f.bs.length cf)).toArray 40 (0, 0)) :: some (b0, .cells (g.cells (.slice As g.st.length cs) (.slice Ap g.pg.length cp) (.slice Am g.mm.length cm)).toArray 29 (0, 0)) :: L) _ (by first | exact Less.refl _ | exact Less.drop _ _ | exact Less.drops (Less.drop _ _) | exact Less.drops (Less.drops (Less.drop _ _)) | exact Less.drops (Less.drops (Less.drops (Less.drop _ _))) | exact Less.drops (Less.drops (Less.drops (Less.drops (Less.drop _ _))))) ?_
              try dsimp only
              refine ⟨?_, ?_, ?_, ?_⟩
              · simp (maxSteps:=1000000)(dsimp:=false)(disch:=omega) only [go_sem, Φa, hP, h7_9, h7_12, h7_43]
                first | done | (refine congrArg Value.bool ?_; simp_all; done)
              · simp (maxSteps:=1000000)(dsimp:=false)(disch:=omega) only [go_sem, Φa, hP, h7_9, h7_12, h7_43]
              · rfl
              · trivial
          · intro ss T8 L8 hI
            simp only [h7_12] at hI 
            obtain ⟨h8_49, h8_12, hL8, hinv⟩ := hI
            replace hL8 := hL8.symm
            subst hL8
            clear h7_9 h7_12 h7_43 T7
            refine RX.live [12, 49] (fun T9 hT9 => ?_)
            simp only [forall_mem_cons', forall_mem_nil', go_sem, Φa, hP, h8_49, h8_12] at hT9
            obtain ⟨h9_12, h9_49⟩ := hT9
            clear h8_49 h8_12 T8
            refine RX.join 6 (fun (ss : Unit) T L' => T 55 = .bool (true) ∧ L' = some (b12, .cells ((tickG g).cells (.slice A1st (tickG g).st.length c1st) (.slice A1pg (tickG g).pg.length c1pg) (.slice A1mm (tickG g).mm.length c1mm)).toArray 29 (0, 0)) :: m1 :: m2 :: m3 :: some (b9, .cells ((stepG g f d).1.cells (.slice A0st (stepG g f d).1.st.length c0st) (.slice A0pg (stepG g f d).1.pg.length c0pg) (.slice A0mm (stepG g f d).1.mm.length c0mm)).toArray 29 (0, 0)) :: n1 :: n2 :: n3 :: some (b2, .cells d.cells.toArray 50 (0, 0)) :: some (b1, .cells (f.cells (.slice Af f.bs.length cf)).toArray 40 (0, 0)) :: some (b0, .cells (g.cells (.slice As g.st.length cs) (.slice Ap g.pg.length cp) (.slice Am g.mm.length cm)).toArray 29 (0, 0)) :: L ∧ (True)) (fun K17 hK17 => ?_) ?_
            · simp (maxSteps:=1000000)(dsimp:=false)(disch:=omega) only [go_sem, Φa, hP, h9_12, h9_49, hops]
              repeat' (first | refine iteB (fun hg => ?_) (fun hg => ?_) | refine iteI (fun hg => ?_) (fun hg => ?_) | ((first | refine And.intro (by omega) ?_ | refine ⟨_, Cell.at 0 rfl rfl, ?_⟩ | refine ⟨_, Cell.at 1 rfl rfl, ?_⟩ | refine ⟨_, Cell.at 2 rfl rfl, ?_⟩ | refine ⟨_, Cell.at 3 rfl rfl, ?_⟩ | refine ⟨_, Cell.at 4 rfl rfl, ?_⟩ | refine ⟨_, Cell.at 5 rfl rfl, ?_⟩ | refine ⟨_, Cell.at 6 rfl rfl, ?_⟩ | refine ⟨_, Cell.at 7 rfl rfl, ?_⟩ | refine ⟨_, Cell.at 8 rfl rfl, ?_⟩ | refine ⟨_, Cell.at 9 rfl rfl, ?_⟩ | refine ⟨_, Cell.at 10 rfl rfl, ?_⟩ | fail); try (with_reducible refine stI ?_); try simp (maxSteps:=1000000)(dsimp:=false)(disch:=omega) only [go_sem, Φa, hP, h9_12, h9_49, hops]) | fail)
              all_goals
                refine hK17 () _ (some (b12, .cells ((tickG g).cells (.slice A1st (tickG g).st.length c1st) (.slice A1pg (tickG g).pg.length c1pg) (.slice A1mm (tickG g).mm.length c1mm)).toArray 29 (0, 0)) :: m1 :: m2 :: m3 :: some (b9, .cells ((stepG g f d).1.cells (.slice A0st (stepG g f d).1.st.length c0st) (.slice A0pg (stepG g f d).1.pg.length c0pg) (.slice A0mm (stepG g f d).1.mm.length c0mm)).toArray 29 (0, 0)) :: n1 :: n2 :: n3 :: some (b2, .cells d.cells.toArray 50 (0, 0)) :: some (b1, .cells (f.cells (.slice Af f.bs.length cf)).toArray 40 (0, 0)) :: some (b0, .cells (g.cells (.slice As g.st.length cs) (.slice Ap g.pg.length cp) (.slice Am g.mm.length cm)).toArray 29 (0, 0)) :: L) _ (by first | exact Less.refl _ | exact Less.drop _ _ | exact Less.drops (Less.drop _ _) | exact Less.drops (Less.drops (Less.drop _ _)) | exact Less.drops (Less.drops (Less.drops (Less.drop _ _))) | exact Less.drops (Less.drops (Less.drops (Less.drops (Less.drop _ _))))) ?_
                try dsimp only
                refine ⟨?_, ?_, ?_⟩
                · simp (maxSteps:=1000000)(dsimp:=false)(disch:=omega) only [go_sem, Φa, hP, h9_12, h9_49]
                  first | done | (refine congrArg Value.bool ?_; simp_all; done)
                · rfl
                · trivial
            · intro ss T10 L10 hI
              obtain ⟨h10_55, hL10, hinv⟩ := hI
              replace hL10 := hL10.symm
              subst hL10
              clear h9_12 h9_49 T9
              refine RX.done ?_
              simp (maxSteps:=1000000)(dsimp:=false)(disch:=omega) only [go_sem, Φa, hP, h10_55, hops]
              refine hK13 _ _ ?_
              try clear hK13 K13
              refine SX.ret ?_
              simp only [andThen_normal, andThen_ret, andThen_exit, inBlk_normal, inBlk_ret, inBlk_exit, Nat.reduceEqDiff, if_true, if_false, ↓reduceIte, retQ_ret]
              try simp only [res0, res1, res2, res3, stK_e, go_sem, Φa, hP, h10_55]
              exact ⟨_, _, Less.tail [_, _, _, _, _, _, _, _, _, _, _] _, rfl, rfl, rfl⟩
    · clear hX12 hY12 X12 Y12
      refine SX.skip ?_
      try simp only [andThen_normal, andThen_ret, andThen_exit, inBlk_normal, inBlk_ret, inBlk_exit, Nat.reduceEqDiff, if_true, if_false, ↓reduceIte]
      refine hK10 _ _ ?_
      try clear hK10 K10
      refine SX.seq_k fun K18 hK18 => ?_
      have hc0 : checkE g = 0 := by simpa using hc33
      have hfine := (fine_of hg hc0).tick
      have q1 := hfine.st
      have q2 := hfine.pg
      have q3 := hfine.mm
      have q4 := hfine.check
      refine SX.region_d [some 56, some 57, some 13] rfl (fun ops hops => ?_)
      unfold Dsts at hops
      simp (maxSteps:=1000000)(dsimp:=false)(disch:=omega) only [go_sem, Φa, hP, h2_3, h2_7, h2_8, h2_9, h2_10, h2_11, hops]
      refine ⟨_, Cell.at 0 rfl rfl, ?_⟩
      try with_reducible refine stI ?_
      try simp (maxSteps:=1000000)(dsimp:=false)(disch:=omega) only [go_sem, Φa, hP, h2_3, h2_7, h2_8, h2_9, h2_10, h2_11, hops]
      refine ⟨_, Cell.at 0 rfl rfl, ?_⟩
      try with_reducible refine stI ?_
      try simp (maxSteps:=1000000)(dsimp:=false)(disch:=omega) only [go_sem, Φa, hP, h2_3, h2_7, h2_8, h2_9, h2_10, h2_11, hops]
      refine ⟨_, Cell.at 0 rfl rfl, ?_⟩
      try with_reducible refine stI ?_
      try simp (maxSteps:=1000000)(dsimp:=false)(disch:=omega) only [go_sem, Φa, hP, h2_3, h2_7, h2_8, h2_9, h2_10, h2_11, hops]
      refine ⟨_, Cell.at 0 rfl rfl, ?_⟩
      try with_reducible refine stI ?_
      try simp (maxSteps:=1000000)(dsimp:=false)(disch:=omega) only [go_sem, Φa, hP, h2_3, h2_7, h2_8, h2_9, h2_10, h2_11, hops]
      refine ⟨_, Cell.at 0 rfl rfl, ?_⟩
      try with_reducible refine stI ?_
      try simp (maxSteps:=1000000)(dsimp:=false)(disch:=omega) only [go_sem, Φa, hP, h2_3, h2_7, h2_8, h2_9, h2_10, h2_11, hops]
      refine ⟨_, Cell.at 0 rfl rfl, ?_⟩
      try with_reducible refine stI ?_
      try simp (maxSteps:=1000000)(dsimp:=false)(disch:=omega) only [go_sem, Φa, hP, h2_3, h2_7, h2_8, h2_9, h2_10, h2_11, hops]
      refine ⟨_, Cell.at 0 rfl rfl, ?_⟩
      try with_reducible refine stI ?_
      try simp (maxSteps:=1000000)(dsimp:=false)(disch:=omega) only [go_sem, Φa, hP, h2_3, h2_7, h2_8, h2_9, h2_10, h2_11, hops]
      refine ⟨_, Cell.at 0 rfl rfl, ?_⟩
      try with_reducible refine stI ?_
      try simp (maxSteps:=1000000)(dsimp:=false)(disch:=omega) only [go_sem, Φa, hP, h2_3, h2_7, h2_8, h2_9, h2_10, h2_11, hops]
      refine ⟨_, Cell.at 0 rfl rfl, ?_⟩
      try with_reducible refine stI ?_
      try simp (maxSteps:=1000000)(dsimp:=false)(disch:=omega) only [go_sem, Φa, hP, h2_3, h2_7, h2_8, h2_9, h2_10, h2_11, hops]
      refine ⟨_, Cell.at 0 rfl rfl, ?_⟩
      try with_reducible refine stI ?_
      try simp (maxSteps:=1000000)(dsimp:=false)(disch:=omega) only [go_sem, Φa, hP, h2_3, h2_7, h2_8, h2_9, h2_10, h2_11, hops]
      refine ⟨_, Cell.at 0 rfl rfl, ?_⟩
      try with_reducible refine stI ?_
      try simp (maxSteps:=1000000)(dsimp:=false)(disch:=omega) only [go_sem, Φa, hP, h2_3, h2_7, h2_8, h2_9, h2_10, h2_11, hops]
      refine ⟨_, Cell.at 0 rfl rfl, ?_⟩
      try with_reducible refine stI ?_
      try simp (maxSteps:=1000000)(dsimp:=false)(disch:=omega) only [go_sem, Φa, hP, h2_3, h2_7, h2_8, h2_9, h2_10, h2_11, hops]
      refine ⟨_, Cell.at 0 rfl rfl, ?_⟩
      try with_reducible refine stI ?_
      try simp (maxSteps:=1000000)(dsimp:=false)(disch:=omega) only [go_sem, Φa, hP, h2_3, h2_7, h2_8, h2_9, h2_10, h2_11, hops]
      refine ⟨_, Cell.at 0 rfl rfl, ?_⟩
      try with_reducible refine stI ?_
      try simp (maxSteps:=1000000)(dsimp:=false)(disch:=omega) only [go_sem, Φa, hP, h2_3, h2_7, h2_8, h2_9, h2_10, h2_11, hops]
      refine ⟨_, Cell.at 0 rfl rfl, ?_⟩
      try with_reducible refine stI ?_
      try simp (maxSteps:=1000000)(dsimp:=false)(disch:=omega) only [go_sem, Φa, hP, h2_3, h2_7, h2_8, h2_9, h2_10, h2_11, hops]
      refine ⟨_, Cell.at 0 rfl rfl, ?_⟩
      try with_reducible refine stI ?_
      try simp (maxSteps:=1000000)(dsimp:=false)(disch:=omega) only [go_sem, Φa, hP, h2_3, h2_7, h2_8, h2_9, h2_10, h2_11, hops]
      refine ⟨_, Cell.at 0 rfl rfl, ?_⟩
      try with_reducible refine stI ?_
      try simp (maxSteps:=1000000)(dsimp:=false)(disch:=omega) only [go_sem, Φa, hP, h2_3, h2_7, h2_8, h2_9, h2_10, h2_11, hops]
      refine ⟨_, Cell.at 0 rfl rfl, ?_⟩
      try with_reducible refine stI ?_
      try simp (maxSteps:=1000000)(dsimp:=false)(disch:=omega) only [go_sem, Φa, hP, h2_3, h2_7, h2_8, h2_9, h2_10, h2_11, hops]
      refine ⟨_, Cell.at 0 rfl rfl, ?_⟩
      try with_reducible refine stI ?_
      try simp (maxSteps:=1000000)(dsimp:=false)(disch:=omega) only [go_sem, Φa, hP, h2_3, h2_7, h2_8, h2_9, h2_10, h2_11, hops]
      refine ⟨_, Cell.at 0 rfl rfl, ?_⟩
      try with_reducible refine stI ?_
      try simp (maxSteps:=1000000)(dsimp:=false)(disch:=omega) only [go_sem, Φa, hP, h2_3, h2_7, h2_8, h2_9, h2_10, h2_11, hops]
      refine ⟨_, Cell.at 0 rfl rfl, ?_⟩
      try with_reducible refine stI ?_
      try simp (maxSteps:=1000000)(dsimp:=false)(disch:=omega) only [go_sem, Φa, hP, h2_3, h2_7, h2_8, h2_9, h2_10, h2_11, hops]
      refine ⟨_, Cell.at 0 rfl rfl, ?_⟩
      try with_reducible refine stI ?_
      try simp (maxSteps:=1000000)(dsimp:=false)(disch:=omega) only [go_sem, Φa, hP, h2_3, h2_7, h2_8, h2_9, h2_10, h2_11, hops]
      refine ⟨_, Cell.at 0 rfl rfl, ?_⟩
      try with_reducible refine stI ?_
      try simp (maxSteps:=1000000)(dsimp:=false)(disch:=omega) only [go_sem, Φa, hP, h2_3, h2_7, h2_8, h2_9, h2_10, h2_11, hops]
      first | (refine SCall.mono (Check_spec (g := tickG g) hP (RowI.sl hr1.st (i := 1) rfl) (RowI.sl hr1.pg (i := 2) rfl) (RowI.sl hr1.mm (i := 3) rfl) (by omega) (by omega) (by omega)) ?_; rintro v_ L_ ⟨hv_, hL_⟩; rw [hv_, hL_]; clear hv_ hL_ v_ L_) | refine ⟨_, Check_spec (g := tickG g) hP (RowI.sl hr1.st (i := 1) rfl) (RowI.sl hr1.pg (i := 2) rfl) (RowI.sl hr1.mm (i := 3) rfl) (by omega) (by omega) (by omega), ?_⟩ | refine ⟨_, fun L0 hl0 => Check_spec (g := tickG g) hP (RowI.sl hr1.st (i := 1) rfl) (RowI.sl hr1.pg (i := 2) rfl) (RowI.sl hr1.mm (i := 3) rfl) (by omega) (by omega) (by omega), ?_⟩
      try with_reducible refine stI ?_
      try simp (maxSteps:=1000000)(dsimp:=false)(disch:=omega) only [go_sem, Φa, hP, h2_3, h2_7, h2_8, h2_9, h2_10, h2_11, hops]
      refine hK18 _ _ ?_
      try clear hK18 K18
      refine SX.seq_k fun K19 hK19 => ?_
      refine SX.seq_k fun K20 hK20 => ?_
      refine SX.region_d [some 58, some 59] rfl (fun ops hops => ?_)
      unfold Dsts at hops
      simp (maxSteps:=1000000)(dsimp:=false)(disch:=omega) only [go_sem, Φa, hP, h2_3, h2_7, h2_8, h2_9, h2_10, h2_11, hops]
      repeat' ((first | refine And.intro (by omega) ?_ | fail); try (with_reducible refine stI ?_); try simp (maxSteps:=1000000)(dsimp:=false)(disch:=omega) only [go_sem, Φa, hP, h2_3, h2_7, h2_8, h2_9, h2_10, h2_11, hops])
      refine hK20 _ _ ?_
      try clear hK20 K20
      refine SX.live [3, 7, 9, 10, 11, 59] (fun T11 hT11 => ?_)
      simp only [forall_mem_cons', forall_mem_nil', go_sem, Φa, hP, h2_3, h2_7, h2_8, h2_9, h2_10, h2_11] at hT11
      obtain ⟨h11_3, h11_7, h11_9, h11_10, h11_11, h11_59⟩ := hT11
      clear h2_3 h2_7 h2_8 h2_9 h2_10 h2_11 T2
      refine SX.cond_k fun X21 Y21 hX21 hY21 => ?_
      simp (maxSteps:=1000000)(dsimp:=false)(disch:=omega) only [go_sem, Φa, hP, h11_3, h11_7, h11_9, h11_10, h11_11, h11_59, condVC]
      refine hY21 ?_
      clear hX21 hY21 X21 Y21
      refine SX.skip ?_
      try simp only [andThen_normal, andThen_ret, andThen_exit, inBlk_normal, inBlk_ret, inBlk_exit, Nat.reduceEqDiff, if_true, if_false, ↓reduceIte]
      refine hK19 _ _ ?_
      try clear hK19 K19
      refine SX.seq_k fun K22 hK22 => ?_
      refine SX.seq_k fun K23 hK23 => ?_
      refine SX.region_d [some 60, some 61] rfl (fun ops hops => ?_)
      unfold Dsts at hops
      simp (maxSteps:=1000000)(dsimp:=false)(disch:=omega) only [go_sem, Φa, hP, h11_3, h11_7, h11_9, h11_10, h11_11, h11_59, hops]
      repeat' ((first | refine And.intro (by omega) ?_ | fail); try (with_reducible refine stI ?_); try simp (maxSteps:=1000000)(dsimp:=false)(disch:=omega) only [go_sem, Φa, hP, h11_3, h11_7, h11_9, h11_10, h11_11, h11_59, hops])
      refine hK23 _ _ ?_
      try clear hK23 K23
      refine SX.cond_k fun X24 Y24 hX24 hY24 => ?_
      simp (maxSteps:=1000000)(dsimp:=false)(disch:=omega) only [go_sem, Φa, hP, h11_3, h11_7, h11_9, h11_10, h11_11, h11_59, condVC]
      refine ⟨fun hc61 => hX24 ?_, fun hc61 => hY24 ?_⟩
      · clear hX24 hY24 X24 Y24
        refine SX.seq_k fun K25 hK25 => ?_
        refine SX.region_xd [some 62, some 63, some 64, some 65, some 66, some 67, some 68, some 69, some 70, some 71, some 72, some 73, some 74, some 75, some 76, some 6] rfl (fun ops hops => ?_)
        unfold Dsts at hops
        refine RX.live [7, 9, 10, 11] (fun T12 hT12 => ?_)
        simp only [forall_mem_cons', forall_mem_nil', go_sem, Φa, hP, h11_3, h11_7, h11_9, h11_10, h11_11, h11_59] at hT12
        obtain ⟨h12_7, h12_9, h12_10, h12_11⟩ := hT12
        clear h11_3 h11_7 h11_9 h11_10 h11_11 h11_59 T11
        have hbad := stepG_err hc0 (f := f) (d := d) (by simpa using hc61)
        have e1 : (stepG g f d).2.2 = 1 := by rw [hbad]
        have e2 : (stepG g f d).2.1 = 0 := by rw [hbad]
        have e3 : (stepG g f d).1.pg.length = 0 := by rw [hbad]; rfl
        refine RX.join 5 (fun (ss : Unit) T L' => T 66 = .bool (true) ∧ T 9 = T12 9 ∧ T 10 = T12 10 ∧ L' = some (b12, .cells ((tickG g).cells (.slice A1st (tickG g).st.length c1st) (.slice A1pg (tickG g).pg.length c1pg) (.slice A1mm (tickG g).mm.length c1mm)).toArray 29 (0, 0)) :: m1 :: m2 :: m3 :: some (b9, .cells ((stepG g f d).1.cells (.slice A0st (stepG g f d).1.st.length c0st) (.slice A0pg (stepG g f d).1.pg.length c0pg) (.slice A0mm (stepG g f d).1.mm.length c0mm)).toArray 29 (0, 0)) :: n1 :: n2 :: n3 :: some (b2, .cells d.cells.toArray 50 (0, 0)) :: some (b1, .cells (f.cells (.slice Af f.bs.length cf)).toArray 40 (0, 0)) :: some (b0, .cells (g.cells (.slice As g.st.length cs) (.slice Ap g.pg.length cp) (.slice Am g.mm.length cm)).toArray 29 (0, 0)) :: L ∧ (True)) (fun K26 hK26 => ?_) ?_
        · simp only [h12_9, h12_10] at hK26
          simp (maxSteps:=1000000)(dsimp:=false)(disch:=omega) only [go_sem, Φa, hP, h12_7, h12_9, h12_10, h12_11, hops]
          repeat' (first | refine iteB (fun hg => ?_) (fun hg => ?_) | refine iteI (fun hg => ?_) (fun hg => ?_) | ((first | refine And.intro (by omega) ?_ | refine ⟨_, Cell.at 0 rfl rfl, ?_⟩ | refine ⟨_, Cell.at 1 rfl rfl, ?_⟩ | refine ⟨_, Cell.at 2 rfl rfl, ?_⟩ | refine ⟨_, Cell.at 3 rfl rfl, ?_⟩ | refine ⟨_, Cell.at 4 rfl rfl, ?_⟩ | refine ⟨_, Cell.at 5 rfl rfl, ?_⟩ | refine ⟨_, Cell.at 6 rfl rfl, ?_⟩ | refine ⟨_, Cell.at 7 rfl rfl, ?_⟩ | refine ⟨_, Cell.at 8 rfl rfl, ?_⟩ | refine ⟨_, Cell.at 9 rfl rfl, ?_⟩ | refine ⟨_, Cell.at 10 rfl rfl, ?_⟩ | fail); try (with_reducible refine stI ?_); try simp (maxSteps:=1000000)(dsimp:=false)(disch:=omega) only [go_sem, Φa, hP, h12_7, h12_9, h12_10, h12_11, hops]) | fail)
          all_goals
            refine hK26 () _ (some (b12, .cells ((tickG g).cells (.slice A1st (tickG g).st.length c1st) (.slice A1pg (tickG g).pg.length c1pg) (.slice A1mm (tickG g).mm.length c1mm)).toArray 29 (0, 0)) :: m1 :: m2 :: m3 :: some (b9, .cells ((stepG g f d).1.cells (.slice A0st (stepG g f d).1.st.length c0st) (.slice A0pg (stepG g f d).1.pg.length c0pg) (.slice A0mm (stepG g f d).1.mm.length c0mm)).toArray 29 (0, 0)) :: n1 :: n2 :: n3 :: some (b2, .cells d.cells.toArray 50 (0, 0)) :: some (b1, .cells (f.cells (.slice Af f.bs.length cf)).toArray 40 (0, 0)) :: some (b0, .cells (g.cells (.slice As g.st.length cs) (.slice Ap g.pg.length cp) (.slice Am g.mm.length cm)).toArray 29 (0, 0)) :: L) _ (by first | exact Less.refl _ | exact Less.drop _ _ | exact Less.drops (Less.drop _ _) | exact Less.drops (Less.drops (Less.drop _ _)) | exact Less.drops (Less.drops (Less.drops (Less.drop _ _))) | exact Less.drops (Less.drops (Less.drops (Less.drops (Less.drop _ _))))) ?_
            try dsimp only
            refine ⟨?_, ?_, ?_, ?_, ?_⟩
            · simp (maxSteps:=1000000)(dsimp:=false)(disch:=omega) only [go_sem, Φa, hP, h12_7, h12_9, h12_10, h12_11]
              first | done | (refine congrArg Value.bool ?_; simp_all; done)
            · simp (maxSteps:=1000000)(dsimp:=false)(disch:=omega) only [go_sem, Φa, hP, h12_7, h12_9, h12_10, h12_11]
            · simp (maxSteps:=1000000)(dsimp:=false)(disch:=omega) only [go_sem, Φa, hP, h12_7, h12_9, h12_10, h12_11]
            · rfl
            · trivial
        · intro ss T13 L13 hI
          simp only [h12_9, h12_10] at hI 
          obtain ⟨h13_66, h13_9, h13_10, hL13, hinv⟩ := hI
          replace hL13 := hL13.symm
          subst hL13
          clear h12_7 h12_9 h12_10 h12_11 T12
          refine RX.live [9, 10, 66] (fun T14 hT14 => ?_)
          simp only [forall_mem_cons', forall_mem_nil', go_sem, Φa, hP, h13_66, h13_9, h13_10] at hT14
          obtain ⟨h14_9, h14_10, h14_66⟩ := hT14
          clear h13_66 h13_9 h13_10 T13
          refine RX.join 4 (fun (ss : Unit) T L' => T 70 = .bool (true) ∧ T 9 = T14 9 ∧ L' = some (b12, .cells ((tickG g).cells (.slice A1st (tickG g).st.length c1st) (.slice A1pg (tickG g).pg.length c1pg) (.slice A1mm (tickG g).mm.length c1mm)).toArray 29 (0, 0)) :: m1 :: m2 :: m3 :: some (b9, .cells ((stepG g f d).1.cells (.slice A0st (stepG g f d).1.st.length c0st) (.slice A0pg (stepG g f d).1.pg.length c0pg) (.slice A0mm (stepG g f d).1.mm.length c0mm)).toArray 29 (0, 0)) :: n1 :: n2 :: n3 :: some (b2, .cells d.cells.toArray 50 (0, 0)) :: some (b1, .cells (f.cells (.slice Af f.bs.length cf)).toArray 40 (0, 0)) :: some (b0, .cells (g.cells (.slice As g.st.length cs) (.slice Ap g.pg.length cp) (.slice Am g.mm.length cm)).toArray 29 (0, 0)) :: L ∧ (True)) (fun K27 hK27 => ?_) ?_
          · simp only [h14_9] at hK27
            simp (maxSteps:=1000000)(dsimp:=false)(disch:=omega) only [go_sem, Φa, hP, h14_9, h14_10, h14_66, hops]
            repeat' (first | refine iteB (fun hg => ?_) (fun hg => ?_) | refine iteI (fun hg => ?_) (fun hg => ?_) | ((first | refine And.intro (by omega) ?_ | refine ⟨_, Cell.at 0 rfl rfl, ?_⟩ | refine ⟨_, Cell.at 1 rfl rfl, ?_⟩ | refine ⟨_, Cell.at 2 rfl rfl, ?_⟩ | refine ⟨_, Cell.at 3 rfl rfl, ?_⟩ | refine ⟨_, Cell.at 4 rfl rfl, ?_⟩ | refine ⟨_, Cell.at 5 rfl rfl, ?_⟩ | refine ⟨_, Cell.at 6 rfl rfl, ?_⟩ | refine ⟨_, Cell.at 7 rfl rfl, ?_⟩ | refine ⟨_, Cell.at 8 rfl rfl, ?_⟩ | refine ⟨_, Cell.at 9 rfl rfl, ?_⟩ | refine ⟨_, Cell.at 10 rfl rfl, ?_⟩ | fail); try (with_reducible refine stI ?_); try simp (maxSteps:=1000000)(dsimp:=false)(disch:=omega) only [go_sem, Φa, hP, h14_9, h14_10, h14_66, hops]) | fail)
            all_goals
              refine hK27 () _ (some (b12, .cells ((tickG g).cells (.slice A1st (tickG g).st.length c1st) (.slice A1pg (tickG g).pg.length c1pg) (.slice A1mm (tickG g).mm.length c1mm)).toArray 29 (0, 0)) :: m1 :: m2 :: m3 :: some (b9, .cells ((stepG g f d).1.cells (.slice A0st (stepG g f d).1.st.length c0st) (.slice A0pg (stepG g f d).1.pg.length c0pg) (.slice A0mm (stepG g f d).1.mm.length c0mm)).toArray 29 (0, 0)) :: n1 :: n2 :: n3 :: some (b2, .cells d.cells.toArray 50 (0, 0)) :: some (b1, .cells (f.cells (.slice Af f.bs.length cf)).toArray 40 (0, 0)) :: some (b0, .cells (g.cells (.slice As g.st.length cs) (.slice Ap g.pg.length cp) (.slice Am g.mm.length cm)).toArray 29 (0, 0)) :: L) _ (by first | exact Less.refl _ | exact Less.drop _ _ | exact Less.drops (Less.drop _ _) | exact Less.drops (Less.drops (Less.drop _ _)) | exact Less.drops (Less.drops (Less.drops (Less.drop _ _))) | exact Less.drops (Less.drops (Less.drops (Less.drops (Less.drop _ _))))) ?_
              try dsimp only
              refine ⟨?_, ?_, ?_, ?_⟩
              · simp (maxSteps:=1000000)(dsimp:=false)(disch:=omega) only [go_sem, Φa, hP, h14_9, h14_10, h14_66]
                first | done | (refine congrArg Value.bool ?_; simp_all; done)
              · simp (maxSteps:=1000000)(dsimp:=false)(disch:=omega) only [go_sem, Φa, hP, h14_9, h14_10, h14_66]
              · rfl
              · trivial
          · intro ss T15 L15 hI
            simp only [h14_9] at hI 
            obtain ⟨h15_70, h15_9, hL15, hinv⟩ := hI
            replace hL15 := hL15.symm
            subst hL15
            clear h14_9 h14_10 h14_66 T14
            refine RX.live [9, 70] (fun T16 hT16 => ?_)
            simp only [forall_mem_cons', forall_mem_nil', go_sem, Φa, hP, h15_70, h15_9] at hT16
            obtain ⟨h16_9, h16_70⟩ := hT16
            clear h15_70 h15_9 T15
            refine RX.join 6 (fun (ss : Unit) T L' => T 76 = .bool (true) ∧ L' = some (b12, .cells ((tickG g).cells (.slice A1st (tickG g).st.length c1st) (.slice A1pg (tickG g).pg.length c1pg) (.slice A1mm (tickG g).mm.length c1mm)).toArray 29 (0, 0)) :: m1 :: m2 :: m3 :: some (b9, .cells ((stepG g f d).1.cells (.slice A0st (stepG g f d).1.st.length c0st) (.slice A0pg (stepG g f d).1.pg.length c0pg) (.slice A0mm (stepG g f d).1.mm.length c0mm)).toArray 29 (0, 0)) :: n1 :: n2 :: n3 :: some (b2, .cells d.cells.toArray 50 (0, 0)) :: some (b1, .cells (f.cells (.slice Af f.bs.length cf)).toArray 40 (0, 0)) :: some (b0, .cells (g.cells (.slice As g.st.length cs) (.slice Ap g.pg.length cp) (.slice Am g.mm.length cm)).toArray 29 (0, 0)) :: L ∧ (True)) (fun K28 hK28 => ?_) ?_
            · simp (maxSteps:=1000000)(dsimp:=false)(disch:=omega) only [go_sem, Φa, hP, h16_9, h16_70, hops]
              repeat' (first | refine iteB (fun hg => ?_) (fun hg => ?_) | refine iteI (fun hg => ?_) (fun hg => ?_) | ((first | refine And.intro (by omega) ?_ | refine ⟨_, Cell.at 0 rfl rfl, ?_⟩ | refine ⟨_, Cell.at 1 rfl rfl, ?_⟩ | refine ⟨_, Cell.at 2 rfl rfl, ?_⟩ | refine ⟨_, Cell.at 3 rfl rfl, ?_⟩ | refine ⟨_, Cell.at 4 rfl rfl, ?_⟩ | refine ⟨_, Cell.at 5 rfl rfl, ?_⟩ | refine ⟨_, Cell.at 6 rfl rfl, ?_⟩ | refine ⟨_, Cell.at 7 rfl rfl, ?_⟩ | refine ⟨_, Cell.at 8 rfl rfl, ?_⟩ | refine ⟨_, Cell.at 9 rfl rfl, ?_⟩ | refine ⟨_, Cell.at 10 rfl rfl, ?_⟩ | fail); try (with_reducible refine stI ?_); try simp (maxSteps:=1000000)(dsimp:=false)(disch:=omega) only [go_sem, Φa, hP, h16_9, h16_70, hops]) | fail)
              all_goals
                refine hK28 () _ (some (b12, .cells ((tickG g).cells (.slice A1st (tickG g).st.length c1st) (.slice A1pg (tickG g).pg.length c1pg) (.slice A1mm (tickG g).mm.length c1mm)).toArray 29 (0, 0)) :: m1 :: m2 :: m3 :: some (b9, .cells ((stepG g f d).1.cells (.slice A0st (stepG g f d).1.st.length c0st) (.slice A0pg (stepG g f d).1.pg.length c0pg) (.slice A0mm (stepG g f d).1.mm.length c0mm)).toArray 29 (0, 0)) :: n1 :: n2 :: n3 :: some (b2, .cells d.cells.toArray 50 (0, 0)) :: some (b1, .cells (f.cells (.slice Af f.bs.length cf)).toArray 40 (0, 0)) :: some (b0, .cells (g.cells (.slice As g.st.length cs) (.slice Ap g.pg.length cp) (.slice Am g.mm.length cm)).toArray 29 (0, 0)) :: L) _ (by first | exact Less.refl _ | exact Less.drop _ _ | exact Less.drops (Less.drop _ _) | exact Less.drops (Less.drops (Less.drop _ _)) | exact Less.drops (Less.drops (Less.drops (Less.drop _ _))) | exact Less.drops (Less.drops (Less.drops (Less.drops (Less.drop _ _))))) ?_
                try dsimp only
                refine ⟨?_, ?_, ?_⟩
                · simp (maxSteps:=1000000)(dsimp:=false)(disch:=omega) only [go_sem, Φa, hP, h16_9, h16_70]
                  first | done | (refine congrArg Value.bool ?_; simp_all; done)
                · rfl
                · trivial
            · intro ss T17 L17 hI
              obtain ⟨h17_76, hL17, hinv⟩ := hI
              replace hL17 := hL17.symm
              subst hL17
              clear h16_9 h16_70 T16
              refine RX.done ?_
              simp (maxSteps:=1000000)(dsimp:=false)(disch:=omega) only [go_sem, Φa, hP, h17_76, hops]
              refine hK25 _ _ ?_
              try clear hK25 K25
              refine SX.ret ?_
              simp only [andThen_normal, andThen_ret, andThen_exit, inBlk_normal, inBlk_ret, inBlk_exit, Nat.reduceEqDiff, if_true, if_false, ↓reduceIte, retQ_ret]
              try simp only [res0, res1, res2, res3, stK_e, go_sem, Φa, hP, h17_76]
              exact ⟨_, _, Less.tail [_, _, _, _, _, _, _, _, _, _, _] _, rfl, rfl, rfl⟩
      · clear hX24 hY24 X24 Y24
        refine SX.skip ?_
        try simp only [andThen_normal, andThen_ret, andThen_exit, inBlk_normal, inBlk_ret, inBlk_exit, Nat.reduceEqDiff, if_true, if_false, ↓reduceIte]
        refine hK22 _ _ ?_
        try clear hK22 K22
        refine SX.seq_k fun K29 hK29 => ?_
        have he0 : (stepG g f d).2.2 = 0 := by simpa using hc61
        have hfn := (fine_of hg hc0).step hF hd he0
        have w1 := hfn.st
        have w2 := hfn.pg
        have w3 := hfn.mm
        have w4 := hfn.check
        refine SX.region_d [some 77, some 78, some 14] rfl (fun ops hops => ?_)
        unfold Dsts at hops
        simp (maxSteps:=1000000)(dsimp:=false)(disch:=omega) only [go_sem, Φa, hP, h11_3, h11_7, h11_9, h11_10, h11_11, h11_59, hops]
        refine ⟨_, Cell.at 4 rfl rfl, ?_⟩
        try with_reducible refine stI ?_
        try simp (maxSteps:=1000000)(dsimp:=false)(disch:=omega) only [go_sem, Φa, hP, h11_3, h11_7, h11_9, h11_10, h11_11, h11_59, hops]
        refine ⟨_, Cell.at 4 rfl rfl, ?_⟩
        try with_reducible refine stI ?_
        try simp (maxSteps:=1000000)(dsimp:=false)(disch:=omega) only [go_sem, Φa, hP, h11_3, h11_7, h11_9, h11_10, h11_11, h11_59, hops]
        refine ⟨_, Cell.at 4 rfl rfl, ?_⟩
        try with_reducible refine stI ?_
        try simp (maxSteps:=1000000)(dsimp:=false)(disch:=omega) only [go_sem, Φa, hP, h11_3, h11_7, h11_9, h11_10, h11_11, h11_59, hops]
        refine ⟨_, Cell.at 4 rfl rfl, ?_⟩
        try with_reducible refine stI ?_
        try simp (maxSteps:=1000000)(dsimp:=false)(disch:=omega) only [go_sem, Φa, hP, h11_3, h11_7, h11_9, h11_10, h11_11, h11_59, hops]
        refine ⟨_, Cell.at 4 rfl rfl, ?_⟩
        try with_reducible refine stI ?_
        try simp (maxSteps:=1000000)(dsimp:=false)(disch:=omega) only [go_sem, Φa, hP, h11_3, h11_7, h11_9, h11_10, h11_11, h11_59, hops]
        refine ⟨_, Cell.at 4 rfl rfl, ?_⟩
        try with_reducible refine stI ?_
        try simp (maxSteps:=1000000)(dsimp:=false)(disch:=omega) only [go_sem, Φa, hP, h11_3, h11_7, h11_9, h11_10, h11_11, h11_59, hops]
        refine ⟨_, Cell.at 4 rfl rfl, ?_⟩
        try with_reducible refine stI ?_
        try simp (maxSteps:=1000000)(dsimp:=false)(disch:=omega) only [go_sem, Φa, hP, h11_3, h11_7, h11_9, h11_10, h11_11, h11_59, hops]
        refine ⟨_, Cell.at 4 rfl rfl, ?_⟩
        try with_reducible refine stI ?_
        try simp (maxSteps:=1000000)(dsimp:=false)(disch:=omega) only [go_sem, Φa, hP, h11_3, h11_7, h11_9, h11_10, h11_11, h11_59, hops]
        refine ⟨_, Cell.at 4 rfl rfl, ?_⟩
        try with_reducible refine stI ?_
        try simp (maxSteps:=1000000)(dsimp:=false)(disch:=omega) only [go_sem, Φa, hP, h11_3, h11_7, h11_9, h11_10, h11_11, h11_59, hops]
        refine ⟨_, Cell.at 4 rfl rfl, ?_⟩
        try with_reducible refine stI ?_
        try simp (maxSteps:=1000000)(dsimp:=false)(disch:=omega) only [go_sem, Φa, hP, h11_3, h11_7, h11_9, h11_10, h11_11, h11_59, hops]
        refine ⟨_, Cell.at 4 rfl rfl, ?_⟩
        try with_reducible refine stI ?_
        try simp (maxSteps:=1000000)(dsimp:=false)(disch:=omega) only [go_sem, Φa, hP, h11_3, h11_7, h11_9, h11_10, h11_11, h11_59, hops]
        refine ⟨_, Cell.at 4 rfl rfl, ?_⟩
        try with_reducible refine stI ?_
        try simp (maxSteps:=1000000)(dsimp:=false)(disch:=omega) only [go_sem, Φa, hP, h11_3, h11_7, h11_9, h11_10, h11_11, h11_59, hops]
        refine ⟨_, Cell.at 4 rfl rfl, ?_⟩
        try with_reducible refine stI ?_
        try simp (maxSteps:=1000000)(dsimp:=false)(disch:=omega) only [go_sem, Φa, hP, h11_3, h11_7, h11_9, h11_10, h11_11, h11_59, hops]
        refine ⟨_, Cell.at 4 rfl rfl, ?_⟩
        try with_reducible refine stI ?_
        try simp (maxSteps:=1000000)(dsimp:=false)(disch:=omega) only [go_sem, Φa, hP, h11_3, h11_7, h11_9, h11_10, h11_11, h11_59, hops]
        refine ⟨_, Cell.at 4 rfl rfl, ?_⟩
        try with_reducible refine stI ?_
        try simp (maxSteps:=1000000)(dsimp:=false)(disch:=omega) only [go_sem, Φa, hP, h11_3, h11_7, h11_9, h11_10, h11_11, h11_59, hops]
        refine ⟨_, Cell.at 4 rfl rfl, ?_⟩
        try with_reducible refine stI ?_
        try simp (maxSteps:=1000000)(dsimp:=false)(disch:=omega) only [go_sem, Φa, hP, h11_3, h11_7, h11_9, h11_10, h11_11, h11_59, hops]
        refine ⟨_, Cell.at 4 rfl rfl, ?_⟩
        try with_reducible refine stI ?_
        try simp (maxSteps:=1000000)(dsimp:=false)(disch:=omega) only [go_sem, Φa, hP, h11_3, h11_7, h11_9, h11_10, h11_11, h11_59, hops]
        refine ⟨_, Cell.at 4 rfl rfl, ?_⟩
        try with_reducible refine stI ?_
        try simp (maxSteps:=1000000)(dsimp:=false)(disch:=omega) only [go_sem, Φa, hP, h11_3, h11_7, h11_9, h11_10, h11_11, h11_59, hops]
        refine ⟨_, Cell.at 4 rfl rfl, ?_⟩
        try with_reducible refine stI ?_
        try simp (maxSteps:=1000000)(dsimp:=false)(disch:=omega) only [go_sem, Φa, hP, h11_3, h11_7, h11_9, h11_10, h11_11, h11_59, hops]
        refine ⟨_, Cell.at 4 rfl rfl, ?_⟩
        try with_reducible refine stI ?_
        try simp (maxSteps:=1000000)(dsimp:=false)(disch:=omega) only [go_sem, Φa, hP, h11_3, h11_7, h11_9, h11_10, h11_11, h11_59, hops]
        refine ⟨_, Cell.at 4 rfl rfl, ?_⟩
        try with_reducible refine stI ?_
        try simp (maxSteps:=1000000)(dsimp:=false)(disch:=omega) only [go_sem, Φa, hP, h11_3, h11_7, h11_9, h11_10, h11_11, h11_59, hops]
        refine ⟨_, Cell.at 4 rfl rfl, ?_⟩
        try with_reducible refine stI ?_
        try simp (maxSteps:=1000000)(dsimp:=false)(disch:=omega) only [go_sem, Φa, hP, h11_3, h11_7, h11_9, h11_10, h11_11, h11_59, hops]
        refine ⟨_, Cell.at 4 rfl rfl, ?_⟩
        try with_reducible refine stI ?_
        try simp (maxSteps:=1000000)(dsimp:=false)(disch:=omega) only [go_sem, Φa, hP, h11_3, h11_7, h11_9, h11_10, h11_11, h11_59, hops]
        first | (refine SCall.mono (Check_spec (g := (stepG g f d).1) hP (RowI.sl hr.st (i := 5) rfl) (RowI.sl hr.pg (i := 6) rfl) (RowI.sl hr.mm (i := 7) rfl) (by omega) (by omega) (by omega)) ?_; rintro v_ L_ ⟨hv_, hL_⟩; rw [hv_, hL_]; clear hv_ hL_ v_ L_) | refine ⟨_, Check_spec (g := (stepG g f d).1) hP (RowI.sl hr.st (i := 5) rfl) (RowI.sl hr.pg (i := 6) rfl) (RowI.sl hr.mm (i := 7) rfl) (by omega) (by omega) (by omega), ?_⟩ | refine ⟨_, fun L0 hl0 => Check_spec (g := (stepG g f d).1) hP (RowI.sl hr.st (i := 5) rfl) (RowI.sl hr.pg (i := 6) rfl) (RowI.sl hr.mm (i := 7) rfl) (by omega) (by omega) (by omega), ?_⟩
        try with_reducible refine stI ?_
        try simp (maxSteps:=1000000)(dsimp:=false)(disch:=omega) only [go_sem, Φa, hP, h11_3, h11_7, h11_9, h11_10, h11_11, h11_59, hops]
        refine hK29 _ _ ?_
        try clear hK29 K29
        refine SX.seq_k fun K30 hK30 => ?_
        refine SX.region_d [some 79, some 80, some 81, some 15] rfl (fun ops hops => ?_)
        unfold Dsts at hops
        simp (maxSteps:=1000000)(dsimp:=false)(disch:=omega) only [go_sem, Φa, hP, h11_3, h11_7, h11_9, h11_10, h11_11, h11_59, hops]
        refine ⟨_, Cell.at 4 rfl rfl, ?_⟩
        try with_reducible refine stI ?_
        try simp (maxSteps:=1000000)(dsimp:=false)(disch:=omega) only [go_sem, Φa, hP, h11_3, h11_7, h11_9, h11_10, h11_11, h11_59, hops]
        refine ⟨_, Cell.at 4 rfl rfl, ?_⟩
        try with_reducible refine stI ?_
        try simp (maxSteps:=1000000)(dsimp:=false)(disch:=omega) only [go_sem, Φa, hP, h11_3, h11_7, h11_9, h11_10, h11_11, h11_59, hops]
        refine ⟨_, Cell.at 4 rfl rfl, ?_⟩
        try with_reducible refine stI ?_
        try simp (maxSteps:=1000000)(dsimp:=false)(disch:=omega) only [go_sem, Φa, hP, h11_3, h11_7, h11_9, h11_10, h11_11, h11_59, hops]
        refine ⟨_, Cell.at 4 rfl rfl, ?_⟩
        try with_reducible refine stI ?_
        try simp (maxSteps:=1000000)(dsimp:=false)(disch:=omega) only [go_sem, Φa, hP, h11_3, h11_7, h11_9, h11_10, h11_11, h11_59, hops]
        refine ⟨_, Cell.at 4 rfl rfl, ?_⟩
        try with_reducible refine stI ?_
        try simp (maxSteps:=1000000)(dsimp:=false)(disch:=omega) only [go_sem, Φa, hP, h11_3, h11_7, h11_9, h11_10, h11_11, h11_59, hops]
        refine ⟨_, Cell.at 4 rfl rfl, ?_⟩
        try with_reducible refine stI ?_
        try simp (maxSteps:=1000000)(dsimp:=false)(disch:=omega) only [go_sem, Φa, hP, h11_3, h11_7, h11_9, h11_10, h11_11, h11_59, hops]
        refine ⟨_, Cell.at 4 rfl rfl, ?_⟩
        try with_reducible refine stI ?_
        try simp (maxSteps:=1000000)(dsimp:=false)(disch:=omega) only [go_sem, Φa, hP, h11_3, h11_7, h11_9, h11_10, h11_11, h11_59, hops]
        refine ⟨_, Cell.at 4 rfl rfl, ?_⟩
        try with_reducible refine stI ?_
        try simp (maxSteps:=1000000)(dsimp:=false)(disch:=omega) only [go_sem, Φa, hP, h11_3, h11_7, h11_9, h11_10, h11_11, h11_59, hops]
        refine ⟨_, Cell.at 4 rfl rfl, ?_⟩
        try with_reducible refine stI ?_
        try simp (maxSteps:=1000000)(dsimp:=false)(disch:=omega) only [go_sem, Φa, hP, h11_3, h11_7, h11_9, h11_10, h11_11, h11_59, hops]
        refine ⟨_, Cell.at 4 rfl rfl, ?_⟩
        try with_reducible refine stI ?_
        try simp (maxSteps:=1000000)(dsimp:=false)(disch:=omega) only [go_sem, Φa, hP, h11_3, h11_7, h11_9, h11_10, h11_11, h11_59, hops]
        refine ⟨_, Cell.at 4 rfl rfl, ?_⟩
        try with_reducible refine stI ?_
        try simp (maxSteps:=1000000)(dsimp:=false)(disch:=omega) only [go_sem, Φa, hP, h11_3, h11_7, h11_9, h11_10, h11_11, h11_59, hops]
        refine ⟨_, Cell.at 4 rfl rfl, ?_⟩
        try with_reducible refine stI ?_
        try simp (maxSteps:=1000000)(dsimp:=false)(disch:=omega) only [go_sem, Φa, hP, h11_3, h11_7, h11_9, h11_10, h11_11, h11_59, hops]
        refine ⟨_, Cell.at 4 rfl rfl, ?_⟩
        try with_reducible refine stI ?_
        try simp (maxSteps:=1000000)(dsimp:=false)(disch:=omega) only [go_sem, Φa, hP, h11_3, h11_7, h11_9, h11_10, h11_11, h11_59, hops]
        refine ⟨_, Cell.at 4 rfl rfl, ?_⟩
        try with_reducible refine stI ?_
        try simp (maxSteps:=1000000)(dsimp:=false)(disch:=omega) only [go_sem, Φa, hP, h11_3, h11_7, h11_9, h11_10, h11_11, h11_59, hops]
        refine ⟨_, Cell.at 4 rfl rfl, ?_⟩
        try with_reducible refine stI ?_
        try simp (maxSteps:=1000000)(dsimp:=false)(disch:=omega) only [go_sem, Φa, hP, h11_3, h11_7, h11_9, h11_10, h11_11, h11_59, hops]
        refine ⟨_, Cell.at 4 rfl rfl, ?_⟩
        try with_reducible refine stI ?_
        try simp (maxSteps:=1000000)(dsimp:=false)(disch:=omega) only [go_sem, Φa, hP, h11_3, h11_7, h11_9, h11_10, h11_11, h11_59, hops]
        refine ⟨_, Cell.at 4 rfl rfl, ?_⟩
        try with_reducible refine stI ?_
        try simp (maxSteps:=1000000)(dsimp:=false)(disch:=omega) only [go_sem, Φa, hP, h11_3, h11_7, h11_9, h11_10, h11_11, h11_59, hops]
        refine ⟨_, Cell.at 4 rfl rfl, ?_⟩
        try with_reducible refine stI ?_
        try simp (maxSteps:=1000000)(dsimp:=false)(disch:=omega) only [go_sem, Φa, hP, h11_3, h11_7, h11_9, h11_10, h11_11, h11_59, hops]
        refine ⟨_, Cell.at 4 rfl rfl, ?_⟩
        try with_reducible refine stI ?_
        try simp (maxSteps:=1000000)(dsimp:=false)(disch:=omega) only [go_sem, Φa, hP, h11_3, h11_7, h11_9, h11_10, h11_11, h11_59, hops]
        refine ⟨_, Cell.at 4 rfl rfl, ?_⟩
        try with_reducible refine stI ?_
        try simp (maxSteps:=1000000)(dsimp:=false)(disch:=omega) only [go_sem, Φa, hP, h11_3, h11_7, h11_9, h11_10, h11_11, h11_59, hops]
        refine ⟨_, Cell.at 4 rfl rfl, ?_⟩
        try with_reducible refine stI ?_
        try simp (maxSteps:=1000000)(dsimp:=false)(disch:=omega) only [go_sem, Φa, hP, h11_3, h11_7, h11_9, h11_10, h11_11, h11_59, hops]
        refine ⟨_, Cell.at 4 rfl rfl, ?_⟩
        try with_reducible refine stI ?_
        try simp (maxSteps:=1000000)(dsimp:=false)(disch:=omega) only [go_sem, Φa, hP, h11_3, h11_7, h11_9, h11_10, h11_11, h11_59, hops]
        refine ⟨_, Cell.at 4 rfl rfl, ?_⟩
        try with_reducible refine stI ?_
        try simp (maxSteps:=1000000)(dsimp:=false)(disch:=omega) only [go_sem, Φa, hP, h11_3, h11_7, h11_9, h11_10, h11_11, h11_59, hops]
        refine ⟨_, Cell.at 10 rfl rfl, ?_⟩
        try with_reducible refine stI ?_
        try simp (maxSteps:=1000000)(dsimp:=false)(disch:=omega) only [go_sem, Φa, hP, h11_3, h11_7, h11_9, h11_10, h11_11, h11_59, hops]
        refine ⟨_, Cell.at 10 rfl rfl, ?_⟩
        try with_reducible refine stI ?_
        try simp (maxSteps:=1000000)(dsimp:=false)(disch:=omega) only [go_sem, Φa, hP, h11_3, h11_7, h11_9, h11_10, h11_11, h11_59, hops]
        refine ⟨_, Cell.at 10 rfl rfl, ?_⟩
        try with_reducible refine stI ?_
        try simp (maxSteps:=1000000)(dsimp:=false)(disch:=omega) only [go_sem, Φa, hP, h11_3, h11_7, h11_9, h11_10, h11_11, h11_59, hops]
        refine ⟨_, Cell.at 10 rfl rfl, ?_⟩
        try with_reducible refine stI ?_
        try simp (maxSteps:=1000000)(dsimp:=false)(disch:=omega) only [go_sem, Φa, hP, h11_3, h11_7, h11_9, h11_10, h11_11, h11_59, hops]
        refine ⟨_, Cell.at 10 rfl rfl, ?_⟩
        try with_reducible refine stI ?_
        try simp (maxSteps:=1000000)(dsimp:=false)(disch:=omega) only [go_sem, Φa, hP, h11_3, h11_7, h11_9, h11_10, h11_11, h11_59, hops]
        refine ⟨_, Cell.at 10 rfl rfl, ?_⟩
        try with_reducible refine stI ?_
        try simp (maxSteps:=1000000)(dsimp:=false)(disch:=omega) only [go_sem, Φa, hP, h11_3, h11_7, h11_9, h11_10, h11_11, h11_59, hops]
        refine ⟨_, Cell.at 10 rfl rfl, ?_⟩
        try with_reducible refine stI ?_
        try simp (maxSteps:=1000000)(dsimp:=false)(disch:=omega) only [go_sem, Φa, hP, h11_3, h11_7, h11_9, h11_10, h11_11, h11_59, hops]
        refine ⟨_, Cell.at 10 rfl rfl, ?_⟩
        try with_reducible refine stI ?_
        try simp (maxSteps:=1000000)(dsimp:=false)(disch:=omega) only [go_sem, Φa, hP, h11_3, h11_7, h11_9, h11_10, h11_11, h11_59, hops]
        refine ⟨_, Cell.at 10 rfl rfl, ?_⟩
        try with_reducible refine stI ?_
        try simp (maxSteps:=1000000)(dsimp:=false)(disch:=omega) only [go_sem, Φa, hP, h11_3, h11_7, h11_9, h11_10, h11_11, h11_59, hops]
        refine ⟨_, Cell.at 10 rfl rfl, ?_⟩
        try with_reducible refine stI ?_
        try simp (maxSteps:=1000000)(dsimp:=false)(disch:=omega) only [go_sem, Φa, hP, h11_3, h11_7, h11_9, h11_10, h11_11, h11_59, hops]
        refine ⟨_, Cell.at 10 rfl rfl, ?_⟩
        try with_reducible refine stI ?_
        try simp (maxSteps:=1000000)(dsimp:=false)(disch:=omega) only [go_sem, Φa, hP, h11_3, h11_7, h11_9, h11_10, h11_11, h11_59, hops]
        refine ⟨_, Cell.at 10 rfl rfl, ?_⟩
        try with_reducible refine stI ?_
        try simp (maxSteps:=1000000)(dsimp:=false)(disch:=omega) only [go_sem, Φa, hP, h11_3, h11_7, h11_9, h11_10, h11_11, h11_59, hops]
        refine ⟨_, Cell.at 10 rfl rfl, ?_⟩
        try with_reducible refine stI ?_
        try simp (maxSteps:=1000000)(dsimp:=false)(disch:=omega) only [go_sem, Φa, hP, h11_3, h11_7, h11_9, h11_10, h11_11, h11_59, hops]
        refine ⟨_, Cell.at 10 rfl rfl, ?_⟩
        try with_reducible refine stI ?_
        try simp (maxSteps:=1000000)(dsimp:=false)(disch:=omega) only [go_sem, Φa, hP, h11_3, h11_7, h11_9, h11_10, h11_11, h11_59, hops]
        refine ⟨_, Cell.at 10 rfl rfl, ?_⟩
        try with_reducible refine stI ?_
        try simp (maxSteps:=1000000)(dsimp:=false)(disch:=omega) only [go_sem, Φa, hP, h11_3, h11_7, h11_9, h11_10, h11_11, h11_59, hops]
        refine ⟨_, Cell.at 10 rfl rfl, ?_⟩
        try with_reducible refine stI ?_
        try simp (maxSteps:=1000000)(dsimp:=false)(disch:=omega) only [go_sem, Φa, hP, h11_3, h11_7, h11_9, h11_10, h11_11, h11_59, hops]
        refine ⟨_, Cell.at 10 rfl rfl, ?_⟩
        try with_reducible refine stI ?_
        try simp (maxSteps:=1000000)(dsimp:=false)(disch:=omega) only [go_sem, Φa, hP, h11_3, h11_7, h11_9, h11_10, h11_11, h11_59, hops]
        refine ⟨_, Cell.at 10 rfl rfl, ?_⟩
        try with_reducible refine stI ?_
        try simp (maxSteps:=1000000)(dsimp:=false)(disch:=omega) only [go_sem, Φa, hP, h11_3, h11_7, h11_9, h11_10, h11_11, h11_59, hops]
        refine ⟨_, Cell.at 10 rfl rfl, ?_⟩
        try with_reducible refine stI ?_
        try simp (maxSteps:=1000000)(dsimp:=false)(disch:=omega) only [go_sem, Φa, hP, h11_3, h11_7, h11_9, h11_10, h11_11, h11_59, hops]
        refine ⟨_, Cell.at 10 rfl rfl, ?_⟩
        try with_reducible refine stI ?_
        try simp (maxSteps:=1000000)(dsimp:=false)(disch:=omega) only [go_sem, Φa, hP, h11_3, h11_7, h11_9, h11_10, h11_11, h11_59, hops]
        refine ⟨_, Cell.at 10 rfl rfl, ?_⟩
        try with_reducible refine stI ?_
        try simp (maxSteps:=1000000)(dsimp:=false)(disch:=omega) only [go_sem, Φa, hP, h11_3, h11_7, h11_9, h11_10, h11_11, h11_59, hops]
        refine ⟨_, Cell.at 10 rfl rfl, ?_⟩
        try with_reducible refine stI ?_
        try simp (maxSteps:=1000000)(dsimp:=false)(disch:=omega) only [go_sem, Φa, hP, h11_3, h11_7, h11_9, h11_10, h11_11, h11_59, hops]
        refine ⟨_, Cell.at 10 rfl rfl, ?_⟩
        try with_reducible refine stI ?_
        try simp (maxSteps:=1000000)(dsimp:=false)(disch:=omega) only [go_sem, Φa, hP, h11_3, h11_7, h11_9, h11_10, h11_11, h11_59, hops]
        first | (refine SCall.mono (Same_spec (a := (stepG g f d).1) (b := g) hP hfn.ok hg (RowI.sl hr.st (i := 5) rfl) (RowI.sl hr.pg (i := 6) rfl) (RowI.sl hr.mm (i := 7) rfl) (SlI.any hs) (SlI.any hp) (SlI.any hm) (by omega) (by omega)) ?_; rintro v_ L_ ⟨hv_, hL_⟩; rw [hv_, hL_]; clear hv_ hL_ v_ L_) | refine ⟨_, Same_spec (a := (stepG g f d).1) (b := g) hP hfn.ok hg (RowI.sl hr.st (i := 5) rfl) (RowI.sl hr.pg (i := 6) rfl) (RowI.sl hr.mm (i := 7) rfl) (SlI.any hs) (SlI.any hp) (SlI.any hm) (by omega) (by omega), ?_⟩ | refine ⟨_, fun L0 hl0 => Same_spec (a := (stepG g f d).1) (b := g) hP hfn.ok hg (RowI.sl hr.st (i := 5) rfl) (RowI.sl hr.pg (i := 6) rfl) (RowI.sl hr.mm (i := 7) rfl) (SlI.any hs) (SlI.any hp) (SlI.any hm) (by omega) (by omega), ?_⟩
        try with_reducible refine stI ?_
        try simp (maxSteps:=1000000)(dsimp:=false)(disch:=omega) only [go_sem, Φa, hP, h11_3, h11_7, h11_9, h11_10, h11_11, h11_59, hops]
        refine hK30 _ _ ?_
        try clear hK30 K30
        refine SX.live [7, 10, 14, 15] (fun T18 hT18 => ?_)
        simp only [forall_mem_cons', forall_mem_nil', go_sem, Φa, hP, h11_3, h11_7, h11_9, h11_10, h11_11, h11_59] at hT18
        obtain ⟨h18_7, h18_10, h18_14, h18_15⟩ := hT18
        clear h11_3 h11_7 h11_9 h11_10 h11_11 h11_59 T11
        refine SX.seq_k fun K31 hK31 => ?_
        refine SX.region_xd [some 82, some 83, some 84, some 85, some 86, some 87, some 88, some 89, some 90, some 91, some 92, some 93, some 6] rfl (fun ops hops => ?_)
        unfold Dsts at hops
        refine RX.live [7, 10, 14, 15] (fun T19 hT19 => ?_)
        simp only [forall_mem_cons', forall_mem_nil', go_sem, Φa, hP, h18_7, h18_10, h18_14, h18_15] at hT19
        obtain ⟨h19_7, h19_10, h19_14, h19_15⟩ := hT19
        clear h18_7 h18_10 h18_14 h18_15 T18
        have hor : (stepG g f d).2.1 = 1 ∨ sameB (stepG g f d).1 g = true := (stepG_out hc0 he0).imp id fun h => by rw [h]; exact sameB_self g
        refine RX.join 5 (fun (ss : Unit) T L' => T 86 = .bool (true) ∧ T 10 = T19 10 ∧ T 15 = T19 15 ∧ L' = some (b12, .cells ((tickG g).cells (.slice A1st (tickG g).st.length c1st) (.slice A1pg (tickG g).pg.length c1pg) (.slice A1mm (tickG g).mm.length c1mm)).toArray 29 (0, 0)) :: m1 :: m2 :: m3 :: some (b9, .cells ((stepG g f d).1.cells (.slice A0st (stepG g f d).1.st.length c0st) (.slice A0pg (stepG g f d).1.pg.length c0pg) (.slice A0mm (stepG g f d).1.mm.length c0mm)).toArray 29 (0, 0)) :: n1 :: n2 :: n3 :: some (b2, .cells d.cells.toArray 50 (0, 0)) :: some (b1, .cells (f.cells (.slice Af f.bs.length cf)).toArray 40 (0, 0)) :: some (b0, .cells (g.cells (.slice As g.st.length cs) (.slice Ap g.pg.length cp) (.slice Am g.mm.length cm)).toArray 29 (0, 0)) :: L ∧ (True)) (fun K32 hK32 => ?_) ?_
        · simp only [h19_10, h19_15] at hK32
          simp (maxSteps:=1000000)(dsimp:=false)(disch:=omega) only [go_sem, Φa, hP, h19_7, h19_10, h19_14, h19_15, hops]
          repeat' (first | refine iteB (fun hg => ?_) (fun hg => ?_) | refine iteI (fun hg => ?_) (fun hg => ?_) | ((first | refine And.intro (by omega) ?_ | refine ⟨_, Cell.at 0 rfl rfl, ?_⟩ | refine ⟨_, Cell.at 1 rfl rfl, ?_⟩ | refine ⟨_, Cell.at 2 rfl rfl, ?_⟩ | refine ⟨_, Cell.at 3 rfl rfl, ?_⟩ | refine ⟨_, Cell.at 4 rfl rfl, ?_⟩ | refine ⟨_, Cell.at 5 rfl rfl, ?_⟩ | refine ⟨_, Cell.at 6 rfl rfl, ?_⟩ | refine ⟨_, Cell.at 7 rfl rfl, ?_⟩ | refine ⟨_, Cell.at 8 rfl rfl, ?_⟩ | refine ⟨_, Cell.at 9 rfl rfl, ?_⟩ | refine ⟨_, Cell.at 10 rfl rfl, ?_⟩ | fail); try (with_reducible refine stI ?_); try simp (maxSteps:=1000000)(dsimp:=false)(disch:=omega) only [go_sem, Φa, hP, h19_7, h19_10, h19_14, h19_15, hops]) | fail)
          all_goals
            refine hK32 () _ (some (b12, .cells ((tickG g).cells (.slice A1st (tickG g).st.length c1st) (.slice A1pg (tickG g).pg.length c1pg) (.slice A1mm (tickG g).mm.length c1mm)).toArray 29 (0, 0)) :: m1 :: m2 :: m3 :: some (b9, .cells ((stepG g f d).1.cells (.slice A0st (stepG g f d).1.st.length c0st) (.slice A0pg (stepG g f d).1.pg.length c0pg) (.slice A0mm (stepG g f d).1.mm.length c0mm)).toArray 29 (0, 0)) :: n1 :: n2 :: n3 :: some (b2, .cells d.cells.toArray 50 (0, 0)) :: some (b1, .cells (f.cells (.slice Af f.bs.length cf)).toArray 40 (0, 0)) :: some (b0, .cells (g.cells (.slice As g.st.length cs) (.slice Ap g.pg.length cp) (.slice Am g.mm.length cm)).toArray 29 (0, 0)) :: L) _ (by first | exact Less.refl _ | exact Less.drop _ _ | exact Less.drops (Less.drop _ _) | exact Less.drops (Less.drops (Less.drop _ _)) | exact Less.drops (Less.drops (Less.drops (Less.drop _ _))) | exact Less.drops (Less.drops (Less.drops (Less.drops (Less.drop _ _))))) ?_
            try dsimp only
            refine ⟨?_, ?_, ?_, ?_, ?_⟩
            · simp (maxSteps:=1000000)(dsimp:=false)(disch:=omega) only [go_sem, Φa, hP, h19_7, h19_10, h19_14, h19_15]
              first | done | (refine congrArg Value.bool ?_; simp_all; done) | (rcases hor with h | h <;> simp_all; done)
            · simp (maxSteps:=1000000)(dsimp:=false)(disch:=omega) only [go_sem, Φa, hP, h19_7, h19_10, h19_14, h19_15]
            · simp (maxSteps:=1000000)(dsimp:=false)(disch:=omega) only [go_sem, Φa, hP, h19_7, h19_10, h19_14, h19_15]
            · rfl
            · trivial
        · intro ss T20 L20 hI
          simp only [h19_10, h19_15] at hI 
          obtain ⟨h20_86, h20_10, h20_15, hL20, hinv⟩ := hI
          replace hL20 := hL20.symm
          subst hL20
          clear h19_7 h19_10 h19_14 h19_15 T19
          refine RX.live [10, 15, 86] (fun T21 hT21 => ?_)
          simp only [forall_mem_cons', forall_mem_nil', go_sem, Φa, hP, h20_86, h20_10, h20_15] at hT21
          obtain ⟨h21_10, h21_15, h21_86⟩ := hT21
          clear h20_86 h20_10 h20_15 T20
          refine RX.join 7 (fun (ss : Unit) T L' => T 93 = .bool (true) ∧ L' = some (b12, .cells ((tickG g).cells (.slice A1st (tickG g).st.length c1st) (.slice A1pg (tickG g).pg.length c1pg) (.slice A1mm (tickG g).mm.length c1mm)).toArray 29 (0, 0)) :: m1 :: m2 :: m3 :: some (b9, .cells ((stepG g f d).1.cells (.slice A0st (stepG g f d).1.st.length c0st) (.slice A0pg (stepG g f d).1.pg.length c0pg) (.slice A0mm (stepG g f d).1.mm.length c0mm)).toArray 29 (0, 0)) :: n1 :: n2 :: n3 :: some (b2, .cells d.cells.toArray 50 (0, 0)) :: some (b1, .cells (f.cells (.slice Af f.bs.length cf)).toArray 40 (0, 0)) :: some (b0, .cells (g.cells (.slice As g.st.length cs) (.slice Ap g.pg.length cp) (.slice Am g.mm.length cm)).toArray 29 (0, 0)) :: L ∧ (True)) (fun K33 hK33 => ?_) ?_
          · simp (maxSteps:=1000000)(dsimp:=false)(disch:=omega) only [go_sem, Φa, hP, h21_10, h21_15, h21_86, hops]
            repeat' (first | refine iteB (fun hg => ?_) (fun hg => ?_) | refine iteI (fun hg => ?_) (fun hg => ?_) | ((first | refine And.intro (by omega) ?_ | refine ⟨_, Cell.at 0 rfl rfl, ?_⟩ | refine ⟨_, Cell.at 1 rfl rfl, ?_⟩ | refine ⟨_, Cell.at 2 rfl rfl, ?_⟩ | refine ⟨_, Cell.at 3 rfl rfl, ?_⟩ | refine ⟨_, Cell.at 4 rfl rfl, ?_⟩ | refine ⟨_, Cell.at 5 rfl rfl, ?_⟩ | refine ⟨_, Cell.at 6 rfl rfl, ?_⟩ | refine ⟨_, Cell.at 7 rfl rfl, ?_⟩ | refine ⟨_, Cell.at 8 rfl rfl, ?_⟩ | refine ⟨_, Cell.at 9 rfl rfl, ?_⟩ | refine ⟨_, Cell.at 10 rfl rfl, ?_⟩ | fail); try (with_reducible refine stI ?_); try simp (maxSteps:=1000000)(dsimp:=false)(disch:=omega) only [go_sem, Φa, hP, h21_10, h21_15, h21_86, hops]) | fail)
            all_goals
              refine hK33 () _ (some (b12, .cells ((tickG g).cells (.slice A1st (tickG g).st.length c1st) (.slice A1pg (tickG g).pg.length c1pg) (.slice A1mm (tickG g).mm.length c1mm)).toArray 29 (0, 0)) :: m1 :: m2 :: m3 :: some (b9, .cells ((stepG g f d).1.cells (.slice A0st (stepG g f d).1.st.length c0st) (.slice A0pg (stepG g f d).1.pg.length c0pg) (.slice A0mm (stepG g f d).1.mm.length c0mm)).toArray 29 (0, 0)) :: n1 :: n2 :: n3 :: some (b2, .cells d.cells.toArray 50 (0, 0)) :: some (b1, .cells (f.cells (.slice Af f.bs.length cf)).toArray 40 (0, 0)) :: some (b0, .cells (g.cells (.slice As g.st.length cs) (.slice Ap g.pg.length cp) (.slice Am g.mm.length cm)).toArray 29 (0, 0)) :: L) _ (by first | exact Less.refl _ | exact Less.drop _ _ | exact Less.drops (Less.drop _ _) | exact Less.drops (Less.drops (Less.drop _ _)) | exact Less.drops (Less.drops (Less.drops (Less.drop _ _))) | exact Less.drops (Less.drops (Less.drops (Less.drops (Less.drop _ _))))) ?_
              try dsimp only
              refine ⟨?_, ?_, ?_⟩
              · simp (maxSteps:=1000000)(dsimp:=false)(disch:=omega) only [go_sem, Φa, hP, h21_10, h21_15, h21_86]
                first | done | (refine congrArg Value.bool ?_; simp_all; done) | (rcases hor with h | h <;> simp_all; done)
              · rfl
              · trivial
          · intro ss T22 L22 hI
            obtain ⟨h22_93, hL22, hinv⟩ := hI
            replace hL22 := hL22.symm
            subst hL22
            clear h21_10 h21_15 h21_86 T21
            refine RX.done ?_
            simp (maxSteps:=1000000)(dsimp:=false)(disch:=omega) only [go_sem, Φa, hP, h22_93, hops]
            refine hK31 _ _ ?_
            try clear hK31 K31
            refine SX.ret ?_
            simp only [andThen_normal, andThen_ret, andThen_exit, inBlk_normal, inBlk_ret, inBlk_exit, Nat.reduceEqDiff, if_true, if_false, ↓reduceIte, retQ_ret]
            try simp only [res0, res1, res2, res3, stK_e, go_sem, Φa, hP, h22_93]
            exact ⟨_, _, Less.tail [_, _, _, _, _, _, _, _, _, _, _] _, rfl, rfl, rfl⟩

end Go.Proofs.Ytgioegdjeodpiaa
set_option linter.unusedVariables false
set_option linter.unusedSimpArgs false
namespace Go.Proofs.Ytgioegdjeodpiaa
open Go.ChangeShapes Go.WideShapes Go.ChangeAt Go.RowKit Go.SX
/-! What is handed in: games, fonts, feeds. -/
theorem own : ownKnob Try.prog.godebug = none := by kernel_rfl
theorem laidOut : laidOutB Try.prog = true := by kernel_rfl
theorem cells5 : Try.prog.cellsOf 5 = 1 := by kernel_rfl
theorem cells26 : Try.prog.cellsOf 26 = 1 := by kernel_rfl
theorem cells29 : Try.prog.cellsOf 29 = 23 := by kernel_rfl
theorem cells40 : Try.prog.cellsOf 40 = 18 := by kernel_rfl
theorem flat25 : flatK Try.prog 9 25 = some (List.replicate 16 (.i .u8)) := by kernel_rfl
theorem flat38 : flatK Try.prog 9 38 = some (List.replicate 16 (.i .u16)) := by kernel_rfl
theorem flat50 : flatK Try.prog 9 50 = some [.i .u8, .i .u16, .i .i64] := by kernel_rfl
theorem vals_n {k : IntKind} : ∀ {n : Nat} {cs : List Value}, okVs (List.replicate n (.i k)) cs = true → ∃ l : List Int, l.length = n ∧ cs = ints k l ∧ ∀ x ∈ l, (Lit.int k x).wf = true
  | 0, cs, h => ⟨[], rfl, by rw [okVs_nil h]; rfl, fun x hx => by simp at hx⟩
  | n + 1, cs, h => by
    obtain ⟨x, vs, rfl, hw, h'⟩ := okVs_i (show okVs (.i k :: List.replicate n (.i k)) cs = true from h)
    obtain ⟨l, hl, rfl, hl2⟩ := vals_n h'
    exact ⟨x :: l, by rw [List.length_cons, hl], rfl, fun y hy => by
      rcases List.mem_cons.1 hy with rfl | hy
      · exact hw
      · exact hl2 y hy⟩
theorem bu8 {n : Int} (h : (Lit.int .u8 n).wf = true) : 0 ≤ n ∧ n ≤ 255 := bounds_u8 h
theorem bu16 {n : Int} (h : (Lit.int .u16 n).wf = true) : 0 ≤ n ∧ n ≤ 65535 := by simpa [wf_u16] using h
theorem bi64 {n : Int} (h : (Lit.int .i64 n).wf = true) : -9223372036854775808 ≤ n ∧ n ≤ 9223372036854775807 := by simpa [wf_i64] using h
theorem open_int1 {H : Type} {enc : TypeId × Value → H} {P : Program} {t : TypeId} {k : IntKind} {W : World} {v : Value} {n : Nat} {y : DataW H × List MemPlace} (hu : P.underlying t = some (.int k)) (hf : DataW.trod enc P W 0 (fun _ => true) true n t [v] = some y) : ∃ x : Int, v = .int k x ∧ (Lit.int k x).wf = true := by
  cases n with
  | zero => simp [DataW.trod] at hf
  | succ n =>
    unfold DataW.trod at hf
    rw [hu] at hf
    cases v with
    | int k' x =>
      simp only at hf
      split at hf
      · rename_i h; exact ⟨x, by rw [h.1], by rw [← h.1]; first | exact h.2 | (rw [h.1]; exact h.2)⟩
      · cases hf
    | _ => simp at hf
theorem cells_eq {g : GM} {sv pv mv : Value} (hV : g.V.length = 16) : g.cells sv pv mv = ints .u8 g.V ++ [.int .u16 g.I, .int .u16 g.PC, sv, .int .u8 g.dl, .int .u8 g.sd, pv, mv] := by
  unfold GM.cells
  conv => rhs; rw [list16 hV]
  rfl
theorem fcells_eq {f : Fnt} {fv : Value} (hV : f.at_.length = 16) : f.cells fv = ints .u16 f.at_ ++ [.int .u16 f.from_, fv] := by
  unfold Fnt.cells
  conv => rhs; rw [list16 hV]
  rfl
section
variable {H : Type} {enc : TypeId × Value → H} {W : World} {base : Nat} {v : Value} {d : DataW H} {p : List MemPlace}
def GameIn (W : World) (g : GM) (sv pv mv : Value) : Prop := OkG g ∧ SlI .u16 (Cell ⟨Try.prog, W, []⟩ []) sv g.st ∧ SlI .u8 (Cell ⟨Try.prog, W, []⟩ []) pv g.pg ∧ SlI .u8 (Cell ⟨Try.prog, W, []⟩ []) mv g.mm ∧ g.st.length ≤ 9223372036854775807 ∧ g.pg.length ≤ 9223372036854775807 ∧ g.mm.length ≤ 9223372036854775807
def FontIn (W : World) (f : Fnt) (fv : Value) : Prop := OkF f ∧ SlI .u8 (Cell ⟨Try.prog, W, []⟩ []) fv f.bs ∧ f.bs.length ≤ 9223372036854775807
def FeedIn (d : Feed) : Prop := OkD d ∧ -9223372036854775808 ≤ d.key ∧ d.key ≤ 9223372036854775807
set_option maxRecDepth 100000 in
theorem open_gameV {n : Nat} {cs : List Value} {y : DataW H × List MemPlace} (hy : DataW.trod enc Try.prog W 0 (fun _ => true) true n 29 cs = some y) :
    ∃ (g : GM) (sv pv mv : Value), cs = g.cells sv pv mv ∧ GameIn W g sv pv mv := by
  obtain ⟨xs, m, _, _, hcs, hxs, hf⟩ := DataW.trod_struct Try.underlying29 hy
  rw [cells29] at hcs
  match cs, hcs with
  | [c0, c1, c2, c3, c4, c5, c6, c7, c8, c9, c10, c11, c12, c13, c14, c15, c16, c17, c18, c19, c20, c21, c22], _ =>
    have h0 : DataW.trod enc Try.prog W 0 (fun _ => true) true m 25 [c0, c1, c2, c3, c4, c5, c6, c7, c8, c9, c10, c11, c12, c13, c14, c15] = xs[0]? := hf 0 _ rfl
    have h1 : DataW.trod enc Try.prog W 0 (fun _ => true) true m 26 [c16] = xs[1]? := hf 1 _ rfl
    have h2 : DataW.trod enc Try.prog W 0 (fun _ => true) true m 26 [c17] = xs[2]? := hf 2 _ rfl
    have h3 : DataW.trod enc Try.prog W 0 (fun _ => true) true m 27 [c18] = xs[3]? := hf 3 _ rfl
    have h4 : DataW.trod enc Try.prog W 0 (fun _ => true) true m 5 [c19] = xs[4]? := hf 4 _ rfl
    have h5 : DataW.trod enc Try.prog W 0 (fun _ => true) true m 5 [c20] = xs[5]? := hf 5 _ rfl
    have h6 : DataW.trod enc Try.prog W 0 (fun _ => true) true m 23 [c21] = xs[6]? := hf 6 _ rfl
    have h7 : DataW.trod enc Try.prog W 0 (fun _ => true) true m 23 [c22] = xs[7]? := hf 7 _ rfl
    rw [List.getElem?_eq_getElem (by rw [hxs]; decide)] at h0 h1 h2 h3 h4 h5 h6 h7
    obtain ⟨V, hV, eV, wV⟩ := vals_n (trod_flat 9 25 _ _ _ _ flat25 h0)
    obtain ⟨I, rfl, wI⟩ := open_int1 Try.underlying26 h1
    obtain ⟨PC, rfl, wPC⟩ := open_int1 Try.underlying26 h2
    obtain ⟨st, hst, wst, lst⟩ := open_slv (v := c18) Try.underlying27 Try.underlying26 cells26 h3
    obtain ⟨dl, rfl, wdl⟩ := open_int1 Try.underlying5 h4
    obtain ⟨sd, rfl, wsd⟩ := open_int1 Try.underlying5 h5
    obtain ⟨pg, hpg, wpg, lpg⟩ := open_slv (v := c21) Try.underlying23 Try.underlying5 cells5 h6
    obtain ⟨mm, hmm, wmm, lmm⟩ := open_slv (v := c22) Try.underlying23 Try.underlying5 cells5 h7
    refine ⟨⟨V, I, PC, st, dl, sd, pg, mm⟩, c18, c21, c22, ?_, ⟨hV, fun x hx => bu8 (wV x hx), bu16 wI, bu16 wPC, fun x hx => bu16 (wst x hx), bu8 wdl, bu8 wsd, fun x hx => bu8 (wpg x hx), fun x hx => bu8 (wmm x hx)⟩, hst, hpg, hmm, lst, lpg, lmm⟩
    rw [cells_eq hV, ← eV]
    rfl
set_option maxRecDepth 100000 in
theorem open_fontV {n : Nat} {cs : List Value} {y : DataW H × List MemPlace} (hy : DataW.trod enc Try.prog W 0 (fun _ => true) true n 40 cs = some y) :
    ∃ (f : Fnt) (fv : Value), cs = f.cells fv ∧ FontIn W f fv := by
  obtain ⟨xs, m, _, _, hcs, hxs, hf⟩ := DataW.trod_struct Try.underlying40 hy
  rw [cells40] at hcs
  match cs, hcs with
  | [c0, c1, c2, c3, c4, c5, c6, c7, c8, c9, c10, c11, c12, c13, c14, c15, c16, c17], _ =>
    have h0 : DataW.trod enc Try.prog W 0 (fun _ => true) true m 38 [c0, c1, c2, c3, c4, c5, c6, c7, c8, c9, c10, c11, c12, c13, c14, c15] = xs[0]? := hf 0 _ rfl
    have h1 : DataW.trod enc Try.prog W 0 (fun _ => true) true m 26 [c16] = xs[1]? := hf 1 _ rfl
    have h2 : DataW.trod enc Try.prog W 0 (fun _ => true) true m 23 [c17] = xs[2]? := hf 2 _ rfl
    rw [List.getElem?_eq_getElem (by rw [hxs]; decide)] at h0 h1 h2
    obtain ⟨V, hV, eV, wV⟩ := vals_n (trod_flat 9 38 _ _ _ _ flat38 h0)
    obtain ⟨fr, rfl, wfr⟩ := open_int1 Try.underlying26 h1
    obtain ⟨bs, hbs, wbs, lbs⟩ := open_slv (v := c17) Try.underlying23 Try.underlying5 cells5 h2
    refine ⟨⟨V, fr, bs⟩, c17, ?_, ⟨hV, fun x hx => bu16 (wV x hx), bu16 wfr, fun x hx => bu8 (wbs x hx)⟩, hbs, lbs⟩
    rw [fcells_eq hV, ← eV]
    rfl
theorem open_feedC {cs : List Value} (h : okVs [.i .u8, .i .u16, .i .i64] cs = true) : ∃ d : Feed, cs = d.cells ∧ FeedIn d := by
  obtain ⟨a, l0, rfl, wa, h⟩ := okVs_i h
  obtain ⟨b, l1, rfl, wb, h⟩ := okVs_i h
  obtain ⟨c, l2, rfl, wc, h⟩ := okVs_i h
  obtain rfl := okVs_nil h
  exact ⟨⟨a, b, c⟩, rfl, ⟨bu8 wa, bu16 wb⟩, bi64 wc⟩
set_option maxRecDepth 100000 in
theorem open_game (hv : Value.okWide Try.prog W .any base 29 v) (h : DataW.Trod enc Try.prog W 0 (fun _ => true) true 29 v d p) :
    ∃ (g : GM) (sv pv mv : Value), v = .agg (g.cells sv pv mv).toArray ∧ GameIn W g sv pv mv := by
  obtain ⟨cs, rfl, _⟩ := okWide_struct Try.underlying29 hv
  obtain ⟨fuel, hf⟩ := h
  obtain ⟨g, sv, pv, mv, e, hg⟩ := open_gameV hf
  exact ⟨g, sv, pv, mv, by rw [← e]; rfl, hg⟩
set_option maxRecDepth 100000 in
theorem open_font (hv : Value.okWide Try.prog W .any base 40 v) (h : DataW.Trod enc Try.prog W 0 (fun _ => true) true 40 v d p) :
    ∃ (f : Fnt) (fv : Value), v = .agg (f.cells fv).toArray ∧ FontIn W f fv := by
  obtain ⟨cs, rfl, _⟩ := okWide_struct Try.underlying40 hv
  obtain ⟨fuel, hf⟩ := h
  obtain ⟨f, fv, e, hg⟩ := open_fontV hf
  exact ⟨f, fv, by rw [← e]; rfl, hg⟩
set_option maxRecDepth 100000 in
theorem open_feed (hv : Value.okWide Try.prog W .any base 50 v) (h : DataW.Trod enc Try.prog W 0 (fun _ => true) true 50 v d p) :
    ∃ x : Feed, v = .agg x.cells.toArray ∧ FeedIn x := by
  obtain ⟨cs, rfl, _⟩ := okWide_struct Try.underlying50 hv
  obtain ⟨x, e, hx⟩ := open_feedC (open_flat flat50 h)
  exact ⟨x, by rw [← e]; rfl, hx⟩
end
end Go.Proofs.Ytgioegdjeodpiaa
