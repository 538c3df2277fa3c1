/- GameNew: a machine with any program is as the document says; what is handed in stays, what is told is nobody else's; no condition. -/
import Derived.Test.YtgioegdjeodpiaaCD
import Derived.Laws.BitsLemmas
import Derived.Laws.BitsAllLaws
import Derived.Laws.Closers25b
import Derived.Test.YtgioegdjeodpiaaRows
set_option linter.unusedVariables false
set_option linter.unusedSimpArgs false
namespace Go.Proofs.Ytgioegdjeodpiaa
open Go.RowKit Go.SX
open Go.SX renaming ia_someH → Φa

theorem set_end {α : Type} (l m : List α) (j : Nat) (x : α) : (l ++ m).set (l.length + j) x = l ++ m.set j x := by
  rw [List.set_append_right _ _ (by omega), Nat.add_sub_cancel_left]
theorem ints_end {k : IntKind} (l m : List Int) (j : Nat) (x : Int) (h : m[j]? = some x) : (ints k (l ++ m))[l.length + j]? = some (.int k x) := by
  rw [SX.ints_at, List.getElem?_append_right (by omega), Nat.add_sub_cancel_left, h]
  rfl
theorem ints_end_set {k : IntKind} (l m : List Int) (j : Nat) (x : Int) : (ints k (l ++ m)).set (l.length + j) (.int k x) = ints k (l ++ m.set j x) := by rw [ints_set, set_end]
theorem set_same {α : Type} {L : List α} {i : Nat} {s : α} (h : L[i]? = some s) : L.set i s = L := by
  obtain ⟨hi, h⟩ := List.getElem?_eq_some_iff.1 h
  rw [← h, List.set_getElem_self]
theorem get_set {α : Type} {L : List α} {i : Nat} {s t : α} (h : L[i]? = some s) : (L.set i t)[i]? = some t := by
  rw [List.getElem?_set, if_pos rfl, if_pos (List.getElem?_eq_some_iff.1 h).1]
theorem Less.unset (i : Nat) (s : Slot) (L : Hp) : Less (L.set i s) (L.set i none) := by
  have h := Less.hole i (L.set i s)
  rwa [List.set_set] at h
theorem cutA0 (b : Option Addr) (sz m : Nat) : cutA b sz m 0 = b := by
  unfold cutA
  split
  · rfl
  · cases b <;> simp [Addr.add_zero']
theorem getD_ints {k : IntKind} {l : List Int} {j : Nat} (h : j < l.length) : (ints k l)[j]? = some (.int k (l.getD j 0)) := by
  rw [SX.ints_at, getD_some h]
  rfl
theorem over_set (k : IntKind) (x : Int) (old : List Value) (j : Nat) (h : j < old.length) : (ints k (List.replicate j x) ++ old.drop j).set j (.int k x) = ints k (List.replicate (j + 1) x) ++ old.drop (j + 1) := by
  have e : (ints k (List.replicate j x)).length = j := by simp [ints_length]
  rw [List.set_append_right _ _ (by omega), e, Nat.sub_self, List.drop_eq_getElem_cons h, List.set_cons_zero, List.replicate_succ', ints_app, List.append_assoc]
  rfl
def lentR (k : IntKind) (e : Nat) (ms l : List Int) (L : Hp) (v : Value) (L' : Hp) : Prop := ∃ b, v = .slice (some ⟨b, 0, none⟩) l.length (l.length + ms.length) ∧ L' = some (b, .cells (ints k (l ++ ms)).toArray e (0, 0)) :: L
set_option maxHeartbeats 1000000 in
set_option maxRecDepth 100000 in
theorem lent_spec {Γ : Ctx} (hP : Γ.P = Try.prog) {L : Hp} {v : Value} {l : List Int} (hx : SlI .u8 (Cell Γ L) v l) (hl : l.length ≤ 2147483647) :
    SCall Γ 12 #[v] L (lentR .u8 5 [161, 162, 163] l L) := by
  obtain ⟨A, c, rfl, hc, hA⟩ := id hx
  have hn3 : ((l.length : Int) + 3).toNat = l.length + 3 := by omega
  have hj1 : ((l.length : Int) + 1).toNat = l.length + 1 := by omega
  have hj2 : ((l.length : Int) + 2).toNat = l.length + 2 := by omega
  refine SCall.enter (n := 29) (res1 2) (hP ▸ Try.func12) rfl rfl (by simp) (res1_ok rfl) ?_
  refine SX.seq_k fun K1 hK1 => ?_
  refine SX.region_d [some 2] rfl (fun ops hops => ?_)
  unfold Dsts at hops
  simp (maxSteps:=1000000)(dsimp:=false)(disch:=omega) only [go_sem, Φa, hP, hops]
  refine hK1 _ _ ?_
  try clear hK1 K1
  refine SX.seq_k fun K2 hK2 => ?_
  refine SX.region_d [some 4, some 5, some 6, some 7, some 3] rfl (fun ops hops => ?_)
  unfold Dsts at hops
  simp (maxSteps:=1000000)(dsimp:=false)(disch:=omega) only [go_sem, Φa, hP, hops, hn3]
  intro b0
  try with_reducible refine stI ?_
  try simp (maxSteps:=1000000)(dsimp:=false)(disch:=omega) only [go_sem, Φa, hP, hops, hn3]
  refine hK2 _ _ ?_
  try clear hK2 K2
  refine SX.seq_k fun K3 hK3 => ?_
  refine SX.region_d [some 8, some 9, some 10] rfl (fun ops hops => ?_)
  unfold Dsts at hops
  simp (maxSteps:=1000000)(dsimp:=false)(disch:=omega) only [go_sem, Φa, hP, hops]
  refine YCopy.ints (i := 0) (hP ▸ T.elS_23) (SlI.cons _ hx) rfl (by simp [zerosV]) (.inr (Nat.zero_le _)) ?_
  rw [copied (by omega), Nat.add_sub_cancel_left, show List.replicate 3 (0 : Int) = [0, 0, 0] from rfl]
  try with_reducible refine stI ?_
  try simp (maxSteps:=1000000)(dsimp:=false)(disch:=omega) only [go_sem, Φa, hP, hops]
  refine hK3 _ _ ?_
  try clear hK3 K3
  refine SX.live [0, 3] (fun T1 hT1 => ?_)
  simp only [forall_mem_cons', forall_mem_nil', go_sem, Φa, hP] at hT1
  obtain ⟨h1_0, h1_3⟩ := hT1
  refine SX.seq_k fun K4 hK4 => ?_
  refine SX.region_d [some 11, some 12, some 13, some 14, none] rfl (fun ops hops => ?_)
  unfold Dsts at hops
  simp (maxSteps:=1000000)(dsimp:=false)(disch:=omega) only [go_sem, Φa, hP, h1_0, h1_3, hops]
  refine ⟨0, _, _, _, rfl, (by simp [ints_length]), .inr (Nat.zero_le _), ?_⟩
  try with_reducible refine stI ?_
  try simp (maxSteps:=1000000)(dsimp:=false)(disch:=omega) only [go_sem, Φa, hP, h1_0, h1_3, hops]
  have e0 := ints_end_set (k := .u8) l [0, 0, 0] 0 161
  rw [Nat.add_zero] at e0
  rw [e0, show List.set ([0, 0, 0] : List Int) 0 161 = [161, 0, 0] from rfl]
  refine hK4 _ _ ?_
  try clear hK4 K4
  refine SX.seq_k fun K5 hK5 => ?_
  refine SX.region_d [some 15, some 16, some 17, some 18, some 19, none] rfl (fun ops hops => ?_)
  unfold Dsts at hops
  simp (maxSteps:=1000000)(dsimp:=false)(disch:=omega) only [go_sem, Φa, hP, h1_0, h1_3, hops, hj1]
  refine ⟨0, _, _, _, rfl, (by simp [ints_length]), .inr (Nat.zero_le _), ?_⟩
  try with_reducible refine stI ?_
  try simp (maxSteps:=1000000)(dsimp:=false)(disch:=omega) only [go_sem, Φa, hP, h1_0, h1_3, hops, hj1]
  rw [show ints .u8 (l ++ [161, 0, 0]) = ints .u8 (l ++ [161, 0, 0]) from rfl, ints_end_set l [161, 0, 0] 1 162, show List.set ([161, 0, 0] : List Int) 1 162 = [161, 162, 0] from rfl]
  refine hK5 _ _ ?_
  try clear hK5 K5
  refine SX.live [0, 3] (fun T2 hT2 => ?_)
  simp only [forall_mem_cons', forall_mem_nil', go_sem, Φa, hP, h1_0, h1_3] at hT2
  obtain ⟨h2_0, h2_3⟩ := hT2
  clear h1_0 h1_3 T1
  refine SX.seq_k fun K6 hK6 => ?_
  refine SX.region_d [some 20, some 21, some 22, some 23, some 24, none] rfl (fun ops hops => ?_)
  unfold Dsts at hops
  simp (maxSteps:=1000000)(dsimp:=false)(disch:=omega) only [go_sem, Φa, hP, h2_0, h2_3, hops, hj2]
  refine ⟨0, _, _, _, rfl, (by simp [ints_length]), .inr (Nat.zero_le _), ?_⟩
  try with_reducible refine stI ?_
  try simp (maxSteps:=1000000)(dsimp:=false)(disch:=omega) only [go_sem, Φa, hP, h2_0, h2_3, hops, hj2]
  rw [show ints .u8 (l ++ [161, 162, 0]) = ints .u8 (l ++ [161, 162, 0]) from rfl, ints_end_set l [161, 162, 0] 2 163, show List.set ([161, 162, 0] : List Int) 2 163 = [161, 162, 163] from rfl]
  refine hK6 _ _ ?_
  try clear hK6 K6
  refine SX.seq_k fun K7 hK7 => ?_
  refine SX.region_d [some 25, some 26, some 27, some 28, some 2] rfl (fun ops hops => ?_)
  unfold Dsts at hops
  simp (maxSteps:=1000000)(dsimp:=false)(disch:=omega) only [go_sem, Φa, hP, h2_0, h2_3, hops]
  repeat' ((first | refine And.intro (by omega) ?_ | fail); try (with_reducible refine stI ?_); try simp (maxSteps:=1000000)(dsimp:=false)(disch:=omega) only [go_sem, Φa, hP, h2_0, h2_3, hops])
  refine hK7 _ _ ?_
  try clear hK7 K7
  refine SX.ret ?_
  simp only [andThen_normal, andThen_ret, andThen_exit, inBlk_normal, inBlk_ret, inBlk_exit, Nat.reduceEqDiff, if_true, if_false, ↓reduceIte, retQ_ret]
  try simp only [res0, res1, res2, res3, stK_e, go_sem, Φa, hP, h2_0, h2_3]
  exact ⟨_, _, Less.refl _, rfl, b0, rfl, rfl⟩
set_option maxHeartbeats 1000000 in
set_option maxRecDepth 100000 in
theorem kept_spec {Γ : Ctx} (hP : Γ.P = Try.prog) {L : Hp} {b0 i : Nat} {vb : Value} {l : List Int} (hL : L[i]? = some (some (b0, .cells (ints .u8 (l ++ [161, 162, 163])).toArray 5 (0, 0)))) (hb : SlI .u8 (Cell Γ L) vb l) (hl : l.length ≤ 2147483647) :
    SCall Γ 14 #[(.slice (some ⟨b0, 0, none⟩) l.length (l.length + 3)), vb] L (fun v L' => v = .bool true ∧ L' = L.set i none) := by
  obtain ⟨A, c, rfl, hc, hA⟩ := id hb
  have hn3 : ((l.length : Int) + 3).toNat = l.length + 3 := by omega
  have hj1 : ((l.length : Int) + 1).toNat = l.length + 1 := by omega
  have hj2 : ((l.length : Int) + 2).toNat = l.length + 2 := by omega
  refine SCall.enter (n := 64) (res1 4) (hP ▸ Try.func14) rfl rfl (by simp) (res1_ok rfl) ?_
  refine SX.seq_k fun K1 hK1 => ?_
  refine SX.region_d [some 4] rfl (fun ops hops => ?_)
  unfold Dsts at hops
  simp (maxSteps:=1000000)(dsimp:=false)(disch:=omega) only [go_sem, Φa, hP, hops]
  refine hK1 _ _ ?_
  try clear hK1 K1
  refine SX.seq_k fun K2 hK2 => ?_
  refine SX.region_d [some 10, some 11, some 5] rfl (fun ops hops => ?_)
  unfold Dsts at hops
  simp (maxSteps:=1000000)(dsimp:=false)(disch:=omega) only [go_sem, Φa, hP, hops]
  repeat' ((first | refine And.intro (by omega) ?_ | fail); try (with_reducible refine stI ?_); try simp (maxSteps:=1000000)(dsimp:=false)(disch:=omega) only [go_sem, Φa, hP, hops])
  refine hK2 _ _ ?_
  try clear hK2 K2
  refine SX.seq_k fun K3 hK3 => ?_
  refine SX.region_d [some 12, some 13, some 14, some 15, some 6] rfl (fun ops hops => ?_)
  unfold Dsts at hops
  simp (maxSteps:=1000000)(dsimp:=false)(disch:=omega) only [go_sem, Φa, hP, hops, hn3, cutA0, Nat.sub_zero]
  repeat' ((first | refine And.intro (by omega) ?_ | fail); try (with_reducible refine stI ?_); try simp (maxSteps:=1000000)(dsimp:=false)(disch:=omega) only [go_sem, Φa, hP, hops, hn3, cutA0, Nat.sub_zero])
  refine hK3 _ _ ?_
  try clear hK3 K3
  refine SX.live [1, 5, 6] (fun T1 hT1 => ?_)
  simp only [forall_mem_cons', forall_mem_nil', go_sem, Φa, hP] at hT1
  obtain ⟨h1_1, h1_5, h1_6⟩ := hT1
  refine SX.seq_k fun K4 hK4 => ?_
  refine SX.region_xd [some 16, some 17, some 18, some 19, some 20, some 21, some 22, some 23, some 24, some 25, some 26, some 27, some 28, some 29, some 30, some 31, some 32, some 33, some 34, some 35, some 36, some 7] rfl (fun ops hops => ?_)
  unfold Dsts at hops
  refine RX.live [1, 5, 6] (fun T2 hT2 => ?_)
  simp only [forall_mem_cons', forall_mem_nil', go_sem, Φa, hP, h1_1, h1_5, h1_6] at hT2
  obtain ⟨h2_1, h2_5, h2_6⟩ := hT2
  clear h1_1 h1_5 h1_6 T1
  refine RX.join 13 (fun (ss : Unit) T L' => T 28 = .bool (true) ∧ T 1 = T2 1 ∧ T 5 = T2 5 ∧ T 6 = T2 6 ∧ L' = L ∧ (True)) (fun K5 hK5 => ?_) ?_
  · simp only [h2_1, h2_5, h2_6] at hK5
    simp (maxSteps:=1000000)(dsimp:=false)(disch:=omega) only [go_sem, Φa, hP, h2_1, h2_5, h2_6, hops, hj1, hj2]
    repeat' (first | refine iteB (fun hg => ?_) (fun hg => ?_) | refine iteI (fun hg => ?_) (fun hg => ?_) | ((first | refine ⟨_, Cell.at i hL (ints_end l [161, 162, 163] 0 161 rfl), ?_⟩ | refine ⟨_, Cell.at i hL (ints_end l [161, 162, 163] 1 162 rfl), ?_⟩ | refine ⟨_, Cell.at i hL (ints_end l [161, 162, 163] 2 163 rfl), ?_⟩ | refine ⟨_, Cell.at i hL (show (ints .u8 (l ++ [161, 162, 163]))[l.length]? = some (.int .u8 161) from ints_end l [161, 162, 163] 0 161 rfl), ?_⟩ | refine And.intro (by omega) ?_ | fail); try (with_reducible refine stI ?_); try simp (maxSteps:=1000000)(dsimp:=false)(disch:=omega) only [go_sem, Φa, hP, h2_1, h2_5, h2_6, hops, hj1, hj2]) | fail)
    all_goals
      refine hK5 () _ (L) _ (by first | exact Less.refl _ | exact Less.drop _ _ | exact Less.drops (Less.drop _ _) | exact Less.drops (Less.drops (Less.drop _ _)) | exact Less.drops (Less.drops (Less.drops (Less.drop _ _))) | exact Less.drops (Less.drops (Less.drops (Less.drops (Less.drop _ _))))) ?_
      try dsimp only
      refine ⟨?_, ?_, ?_, ?_, ?_, ?_⟩
      · simp (maxSteps:=1000000)(dsimp:=false)(disch:=omega) only [go_sem, Φa, hP, h2_1, h2_5, h2_6]
        first | done | exact congrArg _ (decide_eq_decide.2 (by omega)) | exact congrArg _ (decide_eq_true (by omega)).symm | exact congrArg _ (decide_eq_false (by omega)).symm
      · simp (maxSteps:=1000000)(dsimp:=false)(disch:=omega) only [go_sem, Φa, hP, h2_1, h2_5, h2_6]
      · simp (maxSteps:=1000000)(dsimp:=false)(disch:=omega) only [go_sem, Φa, hP, h2_1, h2_5, h2_6]
      · simp (maxSteps:=1000000)(dsimp:=false)(disch:=omega) only [go_sem, Φa, hP, h2_1, h2_5, h2_6]
      · rfl
      · trivial
  · intro ss T3 L3 hI
    simp only [h2_1, h2_5, h2_6] at hI 
    obtain ⟨h3_28, h3_1, h3_5, h3_6, hL3, hinv⟩ := hI
    replace hL3 := hL3.symm
    subst hL3
    clear h2_1 h2_5 h2_6 T2
    refine RX.live [1, 5, 6, 28] (fun T4 hT4 => ?_)
    simp only [forall_mem_cons', forall_mem_nil', go_sem, Φa, hP, h3_28, h3_1, h3_5, h3_6] at hT4
    obtain ⟨h4_1, h4_5, h4_6, h4_28⟩ := hT4
    clear h3_28 h3_1 h3_5 h3_6 T3
    refine RX.join 8 (fun (ss : Unit) T L' => T 36 = .bool (true) ∧ T 1 = T4 1 ∧ T 5 = T4 5 ∧ T 6 = T4 6 ∧ L' = L ∧ (True)) (fun K6 hK6 => ?_) ?_
    · simp only [h4_1, h4_5, h4_6] at hK6
      simp (maxSteps:=1000000)(dsimp:=false)(disch:=omega) only [go_sem, Φa, hP, h4_1, h4_5, h4_6, h4_28, hops, hj1, hj2]
      repeat' (first | refine iteB (fun hg => ?_) (fun hg => ?_) | refine iteI (fun hg => ?_) (fun hg => ?_) | ((first | refine ⟨_, Cell.at i hL (ints_end l [161, 162, 163] 0 161 rfl), ?_⟩ | refine ⟨_, Cell.at i hL (ints_end l [161, 162, 163] 1 162 rfl), ?_⟩ | refine ⟨_, Cell.at i hL (ints_end l [161, 162, 163] 2 163 rfl), ?_⟩ | refine ⟨_, Cell.at i hL (show (ints .u8 (l ++ [161, 162, 163]))[l.length]? = some (.int .u8 161) from ints_end l [161, 162, 163] 0 161 rfl), ?_⟩ | refine And.intro (by omega) ?_ | fail); try (with_reducible refine stI ?_); try simp (maxSteps:=1000000)(dsimp:=false)(disch:=omega) only [go_sem, Φa, hP, h4_1, h4_5, h4_6, h4_28, hops, hj1, hj2]) | fail)
      all_goals
        refine hK6 () _ (L) _ (by first | exact Less.refl _ | exact Less.drop _ _ | exact Less.drops (Less.drop _ _) | exact Less.drops (Less.drops (Less.drop _ _)) | exact Less.drops (Less.drops (Less.drops (Less.drop _ _))) | exact Less.drops (Less.drops (Less.drops (Less.drops (Less.drop _ _))))) ?_
        try dsimp only
        refine ⟨?_, ?_, ?_, ?_, ?_, ?_⟩
        · simp (maxSteps:=1000000)(dsimp:=false)(disch:=omega) only [go_sem, Φa, hP, h4_1, h4_5, h4_6, h4_28]
          first | done | exact congrArg _ (decide_eq_decide.2 (by omega)) | exact congrArg _ (decide_eq_true (by omega)).symm | exact congrArg _ (decide_eq_false (by omega)).symm
        · simp (maxSteps:=1000000)(dsimp:=false)(disch:=omega) only [go_sem, Φa, hP, h4_1, h4_5, h4_6, h4_28]
        · simp (maxSteps:=1000000)(dsimp:=false)(disch:=omega) only [go_sem, Φa, hP, h4_1, h4_5, h4_6, h4_28]
        · simp (maxSteps:=1000000)(dsimp:=false)(disch:=omega) only [go_sem, Φa, hP, h4_1, h4_5, h4_6, h4_28]
        · rfl
        · trivial
    · intro ss T5 L5 hI
      simp only [h4_1, h4_5, h4_6] at hI 
      obtain ⟨h5_36, h5_1, h5_5, h5_6, hL5, hinv⟩ := hI
      replace hL5 := hL5.symm
      subst hL5
      clear h4_1 h4_5 h4_6 h4_28 T4
      refine RX.done ?_
      simp (maxSteps:=1000000)(dsimp:=false)(disch:=omega) only [go_sem, Φa, hP, h5_36, h5_1, h5_5, h5_6, hops]
      refine hK4 _ _ ?_
      try clear hK4 K4
      refine SX.seq_k fun K7 hK7 => ?_
      refine SX.seq_k fun K8 hK8 => ?_
      refine SX.region_d [some 8] rfl (fun ops hops => ?_)
      unfold Dsts at hops
      simp (maxSteps:=1000000)(dsimp:=false)(disch:=omega) only [go_sem, Φa, hP, h5_36, h5_1, h5_5, h5_6, hops]
      refine hK8 _ _ ?_
      try clear hK8 K8
      refine SX.block ?_
      refine SX.live [1, 5, 6, 7, 8] (fun T6 hT6 => ?_)
      simp only [forall_mem_cons', forall_mem_nil', go_sem, Φa, hP, h5_36, h5_1, h5_5, h5_6] at hT6
      obtain ⟨h6_1, h6_5, h6_6, h6_7, h6_8⟩ := hT6
      clear h5_36 h5_1 h5_5 h5_6 T5
      refine SX.loop_k (fun (ss : (Nat)) T L' => (fun (k : Nat) => T 7 = .bool true ∧ T 8 = .int .i64 (k : Int) ∧ T 1 = T6 1 ∧ T 5 = T6 5 ∧ T 6 = T6 6 ∧ L' = L ∧ (k ≤ l.length)) (ss)) (fun (ss : (Nat)) => (fun (k : Nat) => l.length - k) (ss)) 0 ?_ ?_
      · try dsimp only
        refine ⟨?_, ?_, ?_, ?_, ?_, ?_, ?_⟩
        · first | exact h6_7 | (rw [h6_7]; rfl) | (rw [h6_7]; simp; done)
        · first | exact h6_8 | (rw [h6_8]; rfl) | (rw [h6_8]; simp; done)
        · rfl
        · rfl
        · rfl
        · rfl
        · exact Nat.zero_le _
      · intro k T7 L7 hI K9 hK9
        try dsimp only at hI hK9
        simp only [h6_1, h6_5, h6_6] at hI hK9
        obtain ⟨h7_7, h7_8, h7_1, h7_5, h7_6, hL7, hk⟩ := hI
        replace hL7 := hL7.symm
        subst hL7
        clear h6_1 h6_5 h6_6 h6_7 h6_8 T6
        refine SX.seq_k fun K10 hK10 => ?_
        refine SX.seq_k fun K11 hK11 => ?_
        refine SX.region_d [some 37, some 38, some 39] rfl (fun ops hops => ?_)
        unfold Dsts at hops
        simp (maxSteps:=1000000)(dsimp:=false)(disch:=omega) only [go_sem, Φa, hP, h7_7, h7_8, h7_1, h7_5, h7_6, hops]
        repeat' ((first | refine And.intro (by omega) ?_ | fail); try (with_reducible refine stI ?_); try simp (maxSteps:=1000000)(dsimp:=false)(disch:=omega) only [go_sem, Φa, hP, h7_7, h7_8, h7_1, h7_5, h7_6, hops])
        refine hK11 _ _ ?_
        try clear hK11 K11
        refine SX.cond_k fun X12 Y12 hX12 hY12 => ?_
        simp (maxSteps:=1000000)(dsimp:=false)(disch:=omega) only [go_sem, Φa, hP, h7_7, h7_8, h7_1, h7_5, h7_6, condVC]
        refine ⟨fun hc39 => hX12 ?_, fun hc39 => hY12 ?_⟩
        · clear hX12 hY12 X12 Y12
          refine SX.skip ?_
          try simp only [andThen_normal, andThen_ret, andThen_exit, inBlk_normal, inBlk_ret, inBlk_exit, Nat.reduceEqDiff, if_true, if_false, ↓reduceIte]
          refine hK10 _ _ ?_
          try clear hK10 K10
          refine SX.seq_k fun K13 hK13 => ?_
          refine SX.block ?_
          have hkl : k < l.length := by omega
          obtain ⟨a1, e1, hm1⟩ := hA k _ (getD_some hkl)
          cases e1
          rw [Nat.mul_one] at hm1
          change Cell Γ _ _ (.int .u8 _) at hm1
          have hm0 : (ints .u8 (l ++ [161, 162, 163]))[k]? = some (.int .u8 (l.getD k 0)) := by rw [SX.ints_at, List.getElem?_append_left hkl, getD_some hkl]; rfl
          refine SX.quiet_d (hP ▸ T.mixed) (by kernel_rfl) [some 42, some 43, some 44, some 45, some 46, some 47, some 48, some 49, some 50, some 51, some 52, some 53, some 7] rfl (fun ops hops => ?_)
          unfold Dsts at hops
          simp (maxSteps:=1000000)(dsimp:=false)(disch:=omega) only [go_sem, Φa, hP, h7_7, h7_8, h7_1, h7_5, h7_6, hops]
          refine ⟨_, Cell.at i hL hm0, ?_⟩
          try with_reducible refine stI ?_
          try simp (maxSteps:=1000000)(dsimp:=false)(disch:=omega) only [go_sem, Φa, hP, h7_7, h7_8, h7_1, h7_5, h7_6, hops]
          refine ⟨_, hm1, ?_⟩
          try with_reducible refine stI ?_
          try simp (maxSteps:=1000000)(dsimp:=false)(disch:=omega) only [go_sem, Φa, hP, h7_7, h7_8, h7_1, h7_5, h7_6, hops]
          refine hK13 _ _ ?_
          try clear hK13 K13
          refine SX.live [1, 5, 6, 7, 8] (fun T8 hT8 => ?_)
          simp only [forall_mem_cons', forall_mem_nil', go_sem, Φa, hP, h7_7, h7_8, h7_1, h7_5, h7_6] at hT8
          obtain ⟨h8_1, h8_5, h8_6, h8_7, h8_8⟩ := hT8
          clear h7_7 h7_8 h7_1 h7_5 h7_6 T7
          refine SX.region_d [some 40, some 41, some 8] rfl (fun ops hops => ?_)
          unfold Dsts at hops
          simp (maxSteps:=1000000)(dsimp:=false)(disch:=omega) only [go_sem, Φa, hP, h8_1, h8_5, h8_6, h8_7, h8_8, hops]
          repeat' ((first | refine And.intro (by omega) ?_ | fail); try (with_reducible refine stI ?_); try simp (maxSteps:=1000000)(dsimp:=false)(disch:=omega) only [go_sem, Φa, hP, h8_1, h8_5, h8_6, h8_7, h8_8, hops])
          refine hK9 (k + 1) _ (L) _ (by first | exact Less.refl _ | exact Less.drop _ _ | exact Less.drops (Less.drop _ _) | exact Less.drops (Less.drops (Less.drop _ _)) | exact Less.drops (Less.drops (Less.drops (Less.drop _ _))) | exact Less.drops (Less.drops (Less.drops (Less.drops (Less.drop _ _))))) ?_ ?_
          · try dsimp only
            refine ⟨?_, ?_, ?_, ?_, ?_, ?_, ?_⟩
            · simp (maxSteps:=1000000)(dsimp:=false)(disch:=omega) only [go_sem, Φa, hP, h8_1, h8_5, h8_6, h8_7, h8_8]
              first | done | rfl | skip
            · simp (maxSteps:=1000000)(dsimp:=false)(disch:=omega) only [go_sem, Φa, hP, h8_1, h8_5, h8_6, h8_7, h8_8]
              first | done | rfl | skip
            · simp (maxSteps:=1000000)(dsimp:=false)(disch:=omega) only [go_sem, Φa, hP, h8_1, h8_5, h8_6, h8_7, h8_8]
            · simp (maxSteps:=1000000)(dsimp:=false)(disch:=omega) only [go_sem, Φa, hP, h8_1, h8_5, h8_6, h8_7, h8_8]
            · simp (maxSteps:=1000000)(dsimp:=false)(disch:=omega) only [go_sem, Φa, hP, h8_1, h8_5, h8_6, h8_7, h8_8]
            · rfl
            · omega
          · (try dsimp only); omega
        · clear hX12 hY12 X12 Y12
          refine SX.exit ?_
          try simp only [andThen_normal, andThen_ret, andThen_exit, inBlk_normal, inBlk_ret, inBlk_exit, Nat.reduceEqDiff, if_true, if_false, ↓reduceIte]
          refine hK7 _ _ ?_
          try clear hK7 K7
          refine SX.seq_k fun K14 hK14 => ?_
          refine SX.seq_k fun K15 hK15 => ?_
          refine SX.region_d [some 9] rfl (fun ops hops => ?_)
          unfold Dsts at hops
          simp (maxSteps:=1000000)(dsimp:=false)(disch:=omega) only [go_sem, Φa, hP, h7_7, h7_8, h7_1, h7_5, h7_6, hops]
          refine hK15 _ _ ?_
          try clear hK15 K15
          refine SX.block ?_
          refine SX.live [6, 7, 9] (fun T9 hT9 => ?_)
          simp only [forall_mem_cons', forall_mem_nil', go_sem, Φa, hP, h7_7, h7_8, h7_1, h7_5, h7_6] at hT9
          obtain ⟨h9_6, h9_7, h9_9⟩ := hT9
          clear h7_7 h7_8 h7_1 h7_5 h7_6 T7
          refine SX.loop_k (fun (ss : (Nat)) T L' => (fun (k : Nat) => T 9 = .int .i64 (k : Int) ∧ T 6 = T9 6 ∧ T 7 = T9 7 ∧ L' = L.set i (some (b0, .cells (ints .u8 (List.replicate k 90) ++ (ints .u8 (l ++ [161, 162, 163])).drop k).toArray 5 (0, 0))) ∧ (k ≤ l.length + 3)) (ss)) (fun (ss : (Nat)) => (fun (k : Nat) => l.length + 3 - k) (ss)) 0 ?_ ?_
          · try dsimp only
            refine ⟨?_, ?_, ?_, ?_, ?_⟩
            · first | exact h9_9 | (rw [h9_9]; rfl) | (rw [h9_9]; simp; done)
            · rfl
            · rfl
            · exact (set_same hL).symm
            · exact Nat.zero_le _
          · intro k T10 L10 hI K16 hK16
            try dsimp only at hI hK16
            simp only [h9_6, h9_7] at hI hK16
            obtain ⟨h10_9, h10_6, h10_7, hL10, hk⟩ := hI
            replace hL10 := hL10.symm
            subst hL10
            clear h9_6 h9_7 h9_9 T9
            refine SX.seq_k fun K17 hK17 => ?_
            refine SX.seq_k fun K18 hK18 => ?_
            refine SX.region_d [some 54, some 55, some 56, some 57] rfl (fun ops hops => ?_)
            unfold Dsts at hops
            simp (maxSteps:=1000000)(dsimp:=false)(disch:=omega) only [go_sem, Φa, hP, h10_9, h10_6, h10_7, hops]
            repeat' ((first | refine And.intro (by omega) ?_ | fail); try (with_reducible refine stI ?_); try simp (maxSteps:=1000000)(dsimp:=false)(disch:=omega) only [go_sem, Φa, hP, h10_9, h10_6, h10_7, hops])
            refine hK18 _ _ ?_
            try clear hK18 K18
            refine SX.cond_k fun X19 Y19 hX19 hY19 => ?_
            simp (maxSteps:=1000000)(dsimp:=false)(disch:=omega) only [go_sem, Φa, hP, h10_9, h10_6, h10_7, condVC]
            refine ⟨fun hc57 => hX19 ?_, fun hc57 => hY19 ?_⟩
            · clear hX19 hY19 X19 Y19
              refine SX.skip ?_
              try simp only [andThen_normal, andThen_ret, andThen_exit, inBlk_normal, inBlk_ret, inBlk_exit, Nat.reduceEqDiff, if_true, if_false, ↓reduceIte]
              refine hK17 _ _ ?_
              try clear hK17 K17
              refine SX.seq_k fun K20 hK20 => ?_
              refine SX.block ?_
              have hkl : k < (ints .u8 (l ++ [161, 162, 163])).length := by simp [ints_length]; omega
              refine SX.region_d [some 60, some 61, some 62, none] rfl (fun ops hops => ?_)
              unfold Dsts at hops
              simp (maxSteps:=1000000)(dsimp:=false)(disch:=omega) only [go_sem, Φa, hP, h10_9, h10_6, h10_7, hops]
              refine ⟨i, _, _, _, get_set hL, (by simp [ints_length]; omega), .inr (Nat.zero_le _), ?_⟩
              try with_reducible refine stI ?_
              try simp (maxSteps:=1000000)(dsimp:=false)(disch:=omega) only [go_sem, Φa, hP, h10_9, h10_6, h10_7, hops]
              rw [List.set_set, over_set .u8 90 _ _ hkl]
              refine hK20 _ _ ?_
              try clear hK20 K20
              refine SX.region_d [some 58, some 59, some 9] rfl (fun ops hops => ?_)
              unfold Dsts at hops
              simp (maxSteps:=1000000)(dsimp:=false)(disch:=omega) only [go_sem, Φa, hP, h10_9, h10_6, h10_7, hops]
              repeat' ((first | refine And.intro (by omega) ?_ | fail); try (with_reducible refine stI ?_); try simp (maxSteps:=1000000)(dsimp:=false)(disch:=omega) only [go_sem, Φa, hP, h10_9, h10_6, h10_7, hops])
              refine hK16 (k + 1) _ (L.set i (some (b0, .cells (ints .u8 (List.replicate ((k + 1)) 90) ++ (ints .u8 (l ++ [161, 162, 163])).drop ((k + 1))).toArray 5 (0, 0)))) _ (by first | exact Less.refl _ | exact Less.drop _ _ | exact Less.drops (Less.drop _ _) | exact Less.drops (Less.drops (Less.drop _ _)) | exact Less.drops (Less.drops (Less.drops (Less.drop _ _))) | exact Less.drops (Less.drops (Less.drops (Less.drops (Less.drop _ _))))) ?_ ?_
              · try dsimp only
                refine ⟨?_, ?_, ?_, ?_, ?_⟩
                · simp (maxSteps:=1000000)(dsimp:=false)(disch:=omega) only [go_sem, Φa, hP, h10_9, h10_6, h10_7]
                  first | done | rfl | skip
                · simp (maxSteps:=1000000)(dsimp:=false)(disch:=omega) only [go_sem, Φa, hP, h10_9, h10_6, h10_7]
                · simp (maxSteps:=1000000)(dsimp:=false)(disch:=omega) only [go_sem, Φa, hP, h10_9, h10_6, h10_7]
                · rfl
                · omega
              · (try dsimp only); omega
            · clear hX19 hY19 X19 Y19
              refine SX.exit ?_
              try simp only [andThen_normal, andThen_ret, andThen_exit, inBlk_normal, inBlk_ret, inBlk_exit, Nat.reduceEqDiff, if_true, if_false, ↓reduceIte]
              refine hK14 _ _ ?_
              try clear hK14 K14
              refine SX.seq_k fun K21 hK21 => ?_
              refine SX.region_d [some 63, some 4] rfl (fun ops hops => ?_)
              unfold Dsts at hops
              simp (maxSteps:=1000000)(dsimp:=false)(disch:=omega) only [go_sem, Φa, hP, h10_9, h10_6, h10_7, hops]
              refine hK21 _ _ ?_
              try clear hK21 K21
              refine SX.ret ?_
              simp only [andThen_normal, andThen_ret, andThen_exit, inBlk_normal, inBlk_ret, inBlk_exit, Nat.reduceEqDiff, if_true, if_false, ↓reduceIte, retQ_ret]
              try simp only [res0, res1, res2, res3, stK_e, go_sem, Φa, hP, h10_9, h10_6, h10_7]
              exact ⟨_, _, Less.unset _ _ _, rfl, rfl, rfl⟩
set_option maxHeartbeats 1000000 in
set_option maxRecDepth 100000 in
theorem lentWords_spec {Γ : Ctx} (hP : Γ.P = Try.prog) {L : Hp} {v : Value} {l : List Int} (hx : SlI .u16 (Cell Γ L) v l) (hl : l.length ≤ 2147483647) :
    SCall Γ 32 #[v] L (lentR .u16 26 [41377, 41634] l L) := by
  obtain ⟨A, c, rfl, hc, hA⟩ := id hx
  have hn3 : ((l.length : Int) + 2).toNat = l.length + 2 := by omega
  have hj1 : ((l.length : Int) + 1).toNat = l.length + 1 := by omega
  refine SCall.enter (n := 24) (res1 2) (hP ▸ Try.func32) rfl rfl (by simp) (res1_ok rfl) ?_
  refine SX.seq_k fun K1 hK1 => ?_
  refine SX.region_d [some 2] rfl (fun ops hops => ?_)
  unfold Dsts at hops
  simp (maxSteps:=1000000)(dsimp:=false)(disch:=omega) only [go_sem, Φa, hP, hops]
  refine hK1 _ _ ?_
  try clear hK1 K1
  refine SX.seq_k fun K2 hK2 => ?_
  refine SX.region_d [some 4, some 5, some 6, some 7, some 3] rfl (fun ops hops => ?_)
  unfold Dsts at hops
  simp (maxSteps:=1000000)(dsimp:=false)(disch:=omega) only [go_sem, Φa, hP, hops, hn3]
  intro b0
  try with_reducible refine stI ?_
  try simp (maxSteps:=1000000)(dsimp:=false)(disch:=omega) only [go_sem, Φa, hP, hops, hn3]
  refine hK2 _ _ ?_
  try clear hK2 K2
  refine SX.seq_k fun K3 hK3 => ?_
  refine SX.region_d [some 8, some 9, some 10] rfl (fun ops hops => ?_)
  unfold Dsts at hops
  simp (maxSteps:=1000000)(dsimp:=false)(disch:=omega) only [go_sem, Φa, hP, hops]
  refine YCopy.ints (i := 0) (hP ▸ T.elS_27) (SlI.cons _ hx) rfl (by simp [zerosV]) (.inr (Nat.zero_le _)) ?_
  rw [copied (by omega), Nat.add_sub_cancel_left, show List.replicate 2 (0 : Int) = [0, 0] from rfl]
  try with_reducible refine stI ?_
  try simp (maxSteps:=1000000)(dsimp:=false)(disch:=omega) only [go_sem, Φa, hP, hops]
  refine hK3 _ _ ?_
  try clear hK3 K3
  refine SX.live [0, 3] (fun T1 hT1 => ?_)
  simp only [forall_mem_cons', forall_mem_nil', go_sem, Φa, hP] at hT1
  obtain ⟨h1_0, h1_3⟩ := hT1
  refine SX.seq_k fun K4 hK4 => ?_
  refine SX.region_d [some 11, some 12, some 13, some 14, none] rfl (fun ops hops => ?_)
  unfold Dsts at hops
  simp (maxSteps:=1000000)(dsimp:=false)(disch:=omega) only [go_sem, Φa, hP, h1_0, h1_3, hops]
  refine ⟨0, _, _, _, rfl, (by simp [ints_length]), .inr (Nat.zero_le _), ?_⟩
  try with_reducible refine stI ?_
  try simp (maxSteps:=1000000)(dsimp:=false)(disch:=omega) only [go_sem, Φa, hP, h1_0, h1_3, hops]
  have e0 := ints_end_set (k := .u16) l [0, 0] 0 41377
  rw [Nat.add_zero] at e0
  rw [e0, show List.set ([0, 0] : List Int) 0 41377 = [41377, 0] from rfl]
  refine hK4 _ _ ?_
  try clear hK4 K4
  refine SX.seq_k fun K5 hK5 => ?_
  refine SX.region_d [some 15, some 16, some 17, some 18, some 19, none] rfl (fun ops hops => ?_)
  unfold Dsts at hops
  simp (maxSteps:=1000000)(dsimp:=false)(disch:=omega) only [go_sem, Φa, hP, h1_0, h1_3, hops, hj1]
  refine ⟨0, _, _, _, rfl, (by simp [ints_length]), .inr (Nat.zero_le _), ?_⟩
  try with_reducible refine stI ?_
  try simp (maxSteps:=1000000)(dsimp:=false)(disch:=omega) only [go_sem, Φa, hP, h1_0, h1_3, hops, hj1]
  rw [show ints .u16 (l ++ [41377, 0]) = ints .u16 (l ++ [41377, 0]) from rfl, ints_end_set l [41377, 0] 1 41634, show List.set ([41377, 0] : List Int) 1 41634 = [41377, 41634] from rfl]
  refine hK5 _ _ ?_
  try clear hK5 K5
  refine SX.live [0, 3] (fun T2 hT2 => ?_)
  simp only [forall_mem_cons', forall_mem_nil', go_sem, Φa, hP, h1_0, h1_3] at hT2
  obtain ⟨h2_0, h2_3⟩ := hT2
  clear h1_0 h1_3 T1
  refine SX.seq_k fun K6 hK6 => ?_
  refine SX.region_d [some 20, some 21, some 22, some 23, some 2] rfl (fun ops hops => ?_)
  unfold Dsts at hops
  simp (maxSteps:=1000000)(dsimp:=false)(disch:=omega) only [go_sem, Φa, hP, h2_0, h2_3, hops]
  repeat' ((first | refine And.intro (by omega) ?_ | fail); try (with_reducible refine stI ?_); try simp (maxSteps:=1000000)(dsimp:=false)(disch:=omega) only [go_sem, Φa, hP, h2_0, h2_3, hops])
  refine hK6 _ _ ?_
  try clear hK6 K6
  refine SX.ret ?_
  simp only [andThen_normal, andThen_ret, andThen_exit, inBlk_normal, inBlk_ret, inBlk_exit, Nat.reduceEqDiff, if_true, if_false, ↓reduceIte, retQ_ret]
  try simp only [res0, res1, res2, res3, stK_e, go_sem, Φa, hP, h2_0, h2_3]
  exact ⟨_, _, Less.refl _, rfl, b0, rfl, rfl⟩
set_option maxHeartbeats 1000000 in
set_option maxRecDepth 100000 in
theorem keptWords_spec {Γ : Ctx} (hP : Γ.P = Try.prog) {L : Hp} {b0 i : Nat} {vb : Value} {l : List Int} (hL : L[i]? = some (some (b0, .cells (ints .u16 (l ++ [41377, 41634])).toArray 26 (0, 0)))) (hb : SlI .u16 (Cell Γ L) vb l) (hl : l.length ≤ 2147483647) :
    SCall Γ 35 #[(.slice (some ⟨b0, 0, none⟩) l.length (l.length + 2)), vb] L (fun v L' => v = .bool true ∧ L' = L.set i none) := by
  obtain ⟨A, c, rfl, hc, hA⟩ := id hb
  have hn3 : ((l.length : Int) + 2).toNat = l.length + 2 := by omega
  have hj1 : ((l.length : Int) + 1).toNat = l.length + 1 := by omega
  refine SCall.enter (n := 56) (res1 4) (hP ▸ Try.func35) rfl rfl (by simp) (res1_ok rfl) ?_
  refine SX.seq_k fun K1 hK1 => ?_
  refine SX.region_d [some 4] rfl (fun ops hops => ?_)
  unfold Dsts at hops
  simp (maxSteps:=1000000)(dsimp:=false)(disch:=omega) only [go_sem, Φa, hP, hops]
  refine hK1 _ _ ?_
  try clear hK1 K1
  refine SX.seq_k fun K2 hK2 => ?_
  refine SX.region_d [some 10, some 11, some 5] rfl (fun ops hops => ?_)
  unfold Dsts at hops
  simp (maxSteps:=1000000)(dsimp:=false)(disch:=omega) only [go_sem, Φa, hP, hops]
  repeat' ((first | refine And.intro (by omega) ?_ | fail); try (with_reducible refine stI ?_); try simp (maxSteps:=1000000)(dsimp:=false)(disch:=omega) only [go_sem, Φa, hP, hops])
  refine hK2 _ _ ?_
  try clear hK2 K2
  refine SX.seq_k fun K3 hK3 => ?_
  refine SX.region_d [some 12, some 13, some 14, some 15, some 6] rfl (fun ops hops => ?_)
  unfold Dsts at hops
  simp (maxSteps:=1000000)(dsimp:=false)(disch:=omega) only [go_sem, Φa, hP, hops, hn3, cutA0, Nat.sub_zero]
  repeat' ((first | refine And.intro (by omega) ?_ | fail); try (with_reducible refine stI ?_); try simp (maxSteps:=1000000)(dsimp:=false)(disch:=omega) only [go_sem, Φa, hP, hops, hn3, cutA0, Nat.sub_zero])
  refine hK3 _ _ ?_
  try clear hK3 K3
  refine SX.live [1, 5, 6] (fun T1 hT1 => ?_)
  simp only [forall_mem_cons', forall_mem_nil', go_sem, Φa, hP] at hT1
  obtain ⟨h1_1, h1_5, h1_6⟩ := hT1
  refine SX.seq_k fun K4 hK4 => ?_
  refine SX.region_xd [some 16, some 17, some 18, some 19, some 20, some 21, some 22, some 23, some 24, some 25, some 26, some 27, some 28, some 7] rfl (fun ops hops => ?_)
  unfold Dsts at hops
  refine RX.live [1, 5, 6] (fun T2 hT2 => ?_)
  simp only [forall_mem_cons', forall_mem_nil', go_sem, Φa, hP, h1_1, h1_5, h1_6] at hT2
  obtain ⟨h2_1, h2_5, h2_6⟩ := hT2
  clear h1_1 h1_5 h1_6 T1
  refine RX.join 13 (fun (ss : Unit) T L' => T 28 = .bool (true) ∧ T 1 = T2 1 ∧ T 5 = T2 5 ∧ T 6 = T2 6 ∧ L' = L ∧ (True)) (fun K5 hK5 => ?_) ?_
  · simp only [h2_1, h2_5, h2_6] at hK5
    simp (maxSteps:=1000000)(dsimp:=false)(disch:=omega) only [go_sem, Φa, hP, h2_1, h2_5, h2_6, hops, hj1]
    repeat' (first | refine iteB (fun hg => ?_) (fun hg => ?_) | refine iteI (fun hg => ?_) (fun hg => ?_) | ((first | refine ⟨_, Cell.at i hL (ints_end l [41377, 41634] 0 41377 rfl), ?_⟩ | refine ⟨_, Cell.at i hL (ints_end l [41377, 41634] 1 41634 rfl), ?_⟩ | refine ⟨_, Cell.at i hL (show (ints .u16 (l ++ [41377, 41634]))[l.length]? = some (.int .u16 41377) from ints_end l [41377, 41634] 0 41377 rfl), ?_⟩ | refine And.intro (by omega) ?_ | fail); try (with_reducible refine stI ?_); try simp (maxSteps:=1000000)(dsimp:=false)(disch:=omega) only [go_sem, Φa, hP, h2_1, h2_5, h2_6, hops, hj1]) | fail)
    all_goals
      refine hK5 () _ (L) _ (by first | exact Less.refl _ | exact Less.drop _ _ | exact Less.drops (Less.drop _ _) | exact Less.drops (Less.drops (Less.drop _ _)) | exact Less.drops (Less.drops (Less.drops (Less.drop _ _))) | exact Less.drops (Less.drops (Less.drops (Less.drops (Less.drop _ _))))) ?_
      try dsimp only
      refine ⟨?_, ?_, ?_, ?_, ?_, ?_⟩
      · simp (maxSteps:=1000000)(dsimp:=false)(disch:=omega) only [go_sem, Φa, hP, h2_1, h2_5, h2_6]
        first | done | exact congrArg _ (decide_eq_decide.2 (by omega)) | exact congrArg _ (decide_eq_true (by omega)).symm | exact congrArg _ (decide_eq_false (by omega)).symm
      · simp (maxSteps:=1000000)(dsimp:=false)(disch:=omega) only [go_sem, Φa, hP, h2_1, h2_5, h2_6]
      · simp (maxSteps:=1000000)(dsimp:=false)(disch:=omega) only [go_sem, Φa, hP, h2_1, h2_5, h2_6]
      · simp (maxSteps:=1000000)(dsimp:=false)(disch:=omega) only [go_sem, Φa, hP, h2_1, h2_5, h2_6]
      · rfl
      · trivial
  · intro ss T3 L3 hI
    simp only [h2_1, h2_5, h2_6] at hI 
    obtain ⟨h3_28, h3_1, h3_5, h3_6, hL3, hinv⟩ := hI
    replace hL3 := hL3.symm
    subst hL3
    clear h2_1 h2_5 h2_6 T2
    refine RX.done ?_
    simp (maxSteps:=1000000)(dsimp:=false)(disch:=omega) only [go_sem, Φa, hP, h3_28, h3_1, h3_5, h3_6, hops]
    refine hK4 _ _ ?_
    try clear hK4 K4
    refine SX.seq_k fun K6 hK6 => ?_
    refine SX.seq_k fun K7 hK7 => ?_
    refine SX.region_d [some 8] rfl (fun ops hops => ?_)
    unfold Dsts at hops
    simp (maxSteps:=1000000)(dsimp:=false)(disch:=omega) only [go_sem, Φa, hP, h3_28, h3_1, h3_5, h3_6, hops]
    refine hK7 _ _ ?_
    try clear hK7 K7
    refine SX.block ?_
    refine SX.live [1, 5, 6, 7, 8] (fun T4 hT4 => ?_)
    simp only [forall_mem_cons', forall_mem_nil', go_sem, Φa, hP, h3_28, h3_1, h3_5, h3_6] at hT4
    obtain ⟨h4_1, h4_5, h4_6, h4_7, h4_8⟩ := hT4
    clear h3_28 h3_1 h3_5 h3_6 T3
    refine SX.loop_k (fun (ss : (Nat)) T L' => (fun (k : Nat) => T 7 = .bool true ∧ T 8 = .int .i64 (k : Int) ∧ T 1 = T4 1 ∧ T 5 = T4 5 ∧ T 6 = T4 6 ∧ L' = L ∧ (k ≤ l.length)) (ss)) (fun (ss : (Nat)) => (fun (k : Nat) => l.length - k) (ss)) 0 ?_ ?_
    · try dsimp only
      refine ⟨?_, ?_, ?_, ?_, ?_, ?_, ?_⟩
      · first | exact h4_7 | (rw [h4_7]; rfl) | (rw [h4_7]; simp; done)
      · first | exact h4_8 | (rw [h4_8]; rfl) | (rw [h4_8]; simp; done)
      · rfl
      · rfl
      · rfl
      · rfl
      · exact Nat.zero_le _
    · intro k T5 L5 hI K8 hK8
      try dsimp only at hI hK8
      simp only [h4_1, h4_5, h4_6] at hI hK8
      obtain ⟨h5_7, h5_8, h5_1, h5_5, h5_6, hL5, hk⟩ := hI
      replace hL5 := hL5.symm
      subst hL5
      clear h4_1 h4_5 h4_6 h4_7 h4_8 T4
      refine SX.seq_k fun K9 hK9 => ?_
      refine SX.seq_k fun K10 hK10 => ?_
      refine SX.region_d [some 29, some 30, some 31] rfl (fun ops hops => ?_)
      unfold Dsts at hops
      simp (maxSteps:=1000000)(dsimp:=false)(disch:=omega) only [go_sem, Φa, hP, h5_7, h5_8, h5_1, h5_5, h5_6, hops]
      repeat' ((first | refine And.intro (by omega) ?_ | fail); try (with_reducible refine stI ?_); try simp (maxSteps:=1000000)(dsimp:=false)(disch:=omega) only [go_sem, Φa, hP, h5_7, h5_8, h5_1, h5_5, h5_6, hops])
      refine hK10 _ _ ?_
      try clear hK10 K10
      refine SX.cond_k fun X11 Y11 hX11 hY11 => ?_
      simp (maxSteps:=1000000)(dsimp:=false)(disch:=omega) only [go_sem, Φa, hP, h5_7, h5_8, h5_1, h5_5, h5_6, condVC]
      refine ⟨fun hc31 => hX11 ?_, fun hc31 => hY11 ?_⟩
      · clear hX11 hY11 X11 Y11
        refine SX.skip ?_
        try simp only [andThen_normal, andThen_ret, andThen_exit, inBlk_normal, inBlk_ret, inBlk_exit, Nat.reduceEqDiff, if_true, if_false, ↓reduceIte]
        refine hK9 _ _ ?_
        try clear hK9 K9
        refine SX.seq_k fun K12 hK12 => ?_
        refine SX.block ?_
        have hkl : k < l.length := by omega
        obtain ⟨a1, e1, hm1⟩ := hA k _ (getD_some hkl)
        cases e1
        rw [Nat.mul_one] at hm1
        change Cell Γ _ _ (.int .u16 _) at hm1
        have hm0 : (ints .u16 (l ++ [41377, 41634]))[k]? = some (.int .u16 (l.getD k 0)) := by rw [SX.ints_at, List.getElem?_append_left hkl, getD_some hkl]; rfl
        refine SX.quiet_d (hP ▸ T.mixed) (by kernel_rfl) [some 34, some 35, some 36, some 37, some 38, some 39, some 40, some 41, some 42, some 43, some 44, some 45, some 7] rfl (fun ops hops => ?_)
        unfold Dsts at hops
        simp (maxSteps:=1000000)(dsimp:=false)(disch:=omega) only [go_sem, Φa, hP, h5_7, h5_8, h5_1, h5_5, h5_6, hops]
        refine ⟨_, Cell.at i hL hm0, ?_⟩
        try with_reducible refine stI ?_
        try simp (maxSteps:=1000000)(dsimp:=false)(disch:=omega) only [go_sem, Φa, hP, h5_7, h5_8, h5_1, h5_5, h5_6, hops]
        refine ⟨_, hm1, ?_⟩
        try with_reducible refine stI ?_
        try simp (maxSteps:=1000000)(dsimp:=false)(disch:=omega) only [go_sem, Φa, hP, h5_7, h5_8, h5_1, h5_5, h5_6, hops]
        refine hK12 _ _ ?_
        try clear hK12 K12
        refine SX.live [1, 5, 6, 7, 8] (fun T6 hT6 => ?_)
        simp only [forall_mem_cons', forall_mem_nil', go_sem, Φa, hP, h5_7, h5_8, h5_1, h5_5, h5_6] at hT6
        obtain ⟨h6_1, h6_5, h6_6, h6_7, h6_8⟩ := hT6
        clear h5_7 h5_8 h5_1 h5_5 h5_6 T5
        refine SX.region_d [some 32, some 33, some 8] rfl (fun ops hops => ?_)
        unfold Dsts at hops
        simp (maxSteps:=1000000)(dsimp:=false)(disch:=omega) only [go_sem, Φa, hP, h6_1, h6_5, h6_6, h6_7, h6_8, hops]
        repeat' ((first | refine And.intro (by omega) ?_ | fail); try (with_reducible refine stI ?_); try simp (maxSteps:=1000000)(dsimp:=false)(disch:=omega) only [go_sem, Φa, hP, h6_1, h6_5, h6_6, h6_7, h6_8, hops])
        refine hK8 (k + 1) _ (L) _ (by first | exact Less.refl _ | exact Less.drop _ _ | exact Less.drops (Less.drop _ _) | exact Less.drops (Less.drops (Less.drop _ _)) | exact Less.drops (Less.drops (Less.drops (Less.drop _ _))) | exact Less.drops (Less.drops (Less.drops (Less.drops (Less.drop _ _))))) ?_ ?_
        · try dsimp only
          refine ⟨?_, ?_, ?_, ?_, ?_, ?_, ?_⟩
          · simp (maxSteps:=1000000)(dsimp:=false)(disch:=omega) only [go_sem, Φa, hP, h6_1, h6_5, h6_6, h6_7, h6_8]
            first | done | rfl | skip
          · simp (maxSteps:=1000000)(dsimp:=false)(disch:=omega) only [go_sem, Φa, hP, h6_1, h6_5, h6_6, h6_7, h6_8]
            first | done | rfl | skip
          · simp (maxSteps:=1000000)(dsimp:=false)(disch:=omega) only [go_sem, Φa, hP, h6_1, h6_5, h6_6, h6_7, h6_8]
          · simp (maxSteps:=1000000)(dsimp:=false)(disch:=omega) only [go_sem, Φa, hP, h6_1, h6_5, h6_6, h6_7, h6_8]
          · simp (maxSteps:=1000000)(dsimp:=false)(disch:=omega) only [go_sem, Φa, hP, h6_1, h6_5, h6_6, h6_7, h6_8]
          · rfl
          · omega
        · (try dsimp only); omega
      · clear hX11 hY11 X11 Y11
        refine SX.exit ?_
        try simp only [andThen_normal, andThen_ret, andThen_exit, inBlk_normal, inBlk_ret, inBlk_exit, Nat.reduceEqDiff, if_true, if_false, ↓reduceIte]
        refine hK6 _ _ ?_
        try clear hK6 K6
        refine SX.seq_k fun K13 hK13 => ?_
        refine SX.seq_k fun K14 hK14 => ?_
        refine SX.region_d [some 9] rfl (fun ops hops => ?_)
        unfold Dsts at hops
        simp (maxSteps:=1000000)(dsimp:=false)(disch:=omega) only [go_sem, Φa, hP, h5_7, h5_8, h5_1, h5_5, h5_6, hops]
        refine hK14 _ _ ?_
        try clear hK14 K14
        refine SX.block ?_
        refine SX.live [6, 7, 9] (fun T7 hT7 => ?_)
        simp only [forall_mem_cons', forall_mem_nil', go_sem, Φa, hP, h5_7, h5_8, h5_1, h5_5, h5_6] at hT7
        obtain ⟨h7_6, h7_7, h7_9⟩ := hT7
        clear h5_7 h5_8 h5_1 h5_5 h5_6 T5
        refine SX.loop_k (fun (ss : (Nat)) T L' => (fun (k : Nat) => T 9 = .int .i64 (k : Int) ∧ T 6 = T7 6 ∧ T 7 = T7 7 ∧ L' = L.set i (some (b0, .cells (ints .u16 (List.replicate k 23130) ++ (ints .u16 (l ++ [41377, 41634])).drop k).toArray 26 (0, 0))) ∧ (k ≤ l.length + 2)) (ss)) (fun (ss : (Nat)) => (fun (k : Nat) => l.length + 2 - k) (ss)) 0 ?_ ?_
        · try dsimp only
          refine ⟨?_, ?_, ?_, ?_, ?_⟩
          · first | exact h7_9 | (rw [h7_9]; rfl) | (rw [h7_9]; simp; done)
          · rfl
          · rfl
          · exact (set_same hL).symm
          · exact Nat.zero_le _
        · intro k T8 L8 hI K15 hK15
          try dsimp only at hI hK15
          simp only [h7_6, h7_7] at hI hK15
          obtain ⟨h8_9, h8_6, h8_7, hL8, hk⟩ := hI
          replace hL8 := hL8.symm
          subst hL8
          clear h7_6 h7_7 h7_9 T7
          refine SX.seq_k fun K16 hK16 => ?_
          refine SX.seq_k fun K17 hK17 => ?_
          refine SX.region_d [some 46, some 47, some 48, some 49] rfl (fun ops hops => ?_)
          unfold Dsts at hops
          simp (maxSteps:=1000000)(dsimp:=false)(disch:=omega) only [go_sem, Φa, hP, h8_9, h8_6, h8_7, hops]
          repeat' ((first | refine And.intro (by omega) ?_ | fail); try (with_reducible refine stI ?_); try simp (maxSteps:=1000000)(dsimp:=false)(disch:=omega) only [go_sem, Φa, hP, h8_9, h8_6, h8_7, hops])
          refine hK17 _ _ ?_
          try clear hK17 K17
          refine SX.cond_k fun X18 Y18 hX18 hY18 => ?_
          simp (maxSteps:=1000000)(dsimp:=false)(disch:=omega) only [go_sem, Φa, hP, h8_9, h8_6, h8_7, condVC]
          refine ⟨fun hc49 => hX18 ?_, fun hc49 => hY18 ?_⟩
          · clear hX18 hY18 X18 Y18
            refine SX.skip ?_
            try simp only [andThen_normal, andThen_ret, andThen_exit, inBlk_normal, inBlk_ret, inBlk_exit, Nat.reduceEqDiff, if_true, if_false, ↓reduceIte]
            refine hK16 _ _ ?_
            try clear hK16 K16
            refine SX.seq_k fun K19 hK19 => ?_
            refine SX.block ?_
            have hkl : k < (ints .u16 (l ++ [41377, 41634])).length := by simp [ints_length]; omega
            refine SX.region_d [some 52, some 53, some 54, none] rfl (fun ops hops => ?_)
            unfold Dsts at hops
            simp (maxSteps:=1000000)(dsimp:=false)(disch:=omega) only [go_sem, Φa, hP, h8_9, h8_6, h8_7, hops]
            refine ⟨i, _, _, _, get_set hL, (by simp [ints_length]; omega), .inr (Nat.zero_le _), ?_⟩
            try with_reducible refine stI ?_
            try simp (maxSteps:=1000000)(dsimp:=false)(disch:=omega) only [go_sem, Φa, hP, h8_9, h8_6, h8_7, hops]
            rw [List.set_set, over_set .u16 23130 _ _ hkl]
            refine hK19 _ _ ?_
            try clear hK19 K19
            refine SX.region_d [some 50, some 51, some 9] rfl (fun ops hops => ?_)
            unfold Dsts at hops
            simp (maxSteps:=1000000)(dsimp:=false)(disch:=omega) only [go_sem, Φa, hP, h8_9, h8_6, h8_7, hops]
            repeat' ((first | refine And.intro (by omega) ?_ | fail); try (with_reducible refine stI ?_); try simp (maxSteps:=1000000)(dsimp:=false)(disch:=omega) only [go_sem, Φa, hP, h8_9, h8_6, h8_7, hops])
            refine hK15 (k + 1) _ (L.set i (some (b0, .cells (ints .u16 (List.replicate ((k + 1)) 23130) ++ (ints .u16 (l ++ [41377, 41634])).drop ((k + 1))).toArray 26 (0, 0)))) _ (by first | exact Less.refl _ | exact Less.drop _ _ | exact Less.drops (Less.drop _ _) | exact Less.drops (Less.drops (Less.drop _ _)) | exact Less.drops (Less.drops (Less.drops (Less.drop _ _))) | exact Less.drops (Less.drops (Less.drops (Less.drops (Less.drop _ _))))) ?_ ?_
            · try dsimp only
              refine ⟨?_, ?_, ?_, ?_, ?_⟩
              · simp (maxSteps:=1000000)(dsimp:=false)(disch:=omega) only [go_sem, Φa, hP, h8_9, h8_6, h8_7]
                first | done | rfl | skip
              · simp (maxSteps:=1000000)(dsimp:=false)(disch:=omega) only [go_sem, Φa, hP, h8_9, h8_6, h8_7]
              · simp (maxSteps:=1000000)(dsimp:=false)(disch:=omega) only [go_sem, Φa, hP, h8_9, h8_6, h8_7]
              · rfl
              · omega
            · (try dsimp only); omega
          · clear hX18 hY18 X18 Y18
            refine SX.exit ?_
            try simp only [andThen_normal, andThen_ret, andThen_exit, inBlk_normal, inBlk_ret, inBlk_exit, Nat.reduceEqDiff, if_true, if_false, ↓reduceIte]
            refine hK13 _ _ ?_
            try clear hK13 K13
            refine SX.seq_k fun K20 hK20 => ?_
            refine SX.region_d [some 55, some 4] rfl (fun ops hops => ?_)
            unfold Dsts at hops
            simp (maxSteps:=1000000)(dsimp:=false)(disch:=omega) only [go_sem, Φa, hP, h8_9, h8_6, h8_7, hops]
            refine hK20 _ _ ?_
            try clear hK20 K20
            refine SX.ret ?_
            simp only [andThen_normal, andThen_ret, andThen_exit, inBlk_normal, inBlk_ret, inBlk_exit, Nat.reduceEqDiff, if_true, if_false, ↓reduceIte, retQ_ret]
            try simp only [res0, res1, res2, res3, stK_e, go_sem, Φa, hP, h8_9, h8_6, h8_7]
            exact ⟨_, _, Less.unset _ _ _, rfl, rfl, rfl⟩

end Go.Proofs.Ytgioegdjeodpiaa
set_option linter.unusedVariables false
set_option linter.unusedSimpArgs false
namespace Go.Proofs.Ytgioegdjeodpiaa
open Go.RowKit Go.SX
open Go.SX renaming ia_someH → Φa

abbrev lentW (b : Nat) (l : List Int) : Slot := some (b, .cells (ints .u16 (l ++ [41377, 41634])).toArray 26 (0, 0))
abbrev lentB (b : Nat) (l : List Int) : Slot := some (b, .cells (ints .u8 (l ++ [161, 162, 163])).toArray 5 (0, 0))
/-- A game that is lent: its owner's bytes stand behind. -/
abbrev lentC (g : GM) (b1 b2 b3 : Nat) : List Value := g.cells (.slice (some ⟨b1, 0, none⟩) g.st.length (g.st.length + 2)) (.slice (some ⟨b2, 0, none⟩) g.pg.length (g.pg.length + 3)) (.slice (some ⟨b3, 0, none⟩) g.mm.length (g.mm.length + 3))
def lentGR (g : GM) (L : Hp) (v : Value) (L' : Hp) : Prop := ∃ b1 b2 b3, v = .agg (lentC g b1 b2 b3).toArray ∧ L' = lentW b1 g.st :: lentB b2 g.pg :: lentB b3 g.mm :: L
theorem get_ne {α : Type} {L : List α} {i j : Nat} {t : α} (h : i ≠ j) : (L.set i t)[j]? = L[j]? := by rw [List.getElem?_set, if_neg h]
theorem SlI.unset {Γ : Ctx} {L : Hp} {k : IntKind} {i : Nat} {s : Slot} {v : Value} {l : List Int} (hL : L[i]? = some s) (h : SlI k (Cell Γ (L.set i none)) v l) : SlI k (Cell Γ L) v l := by
  have := SlI.hole (s := s) h
  rwa [set_same hL] at this
set_option maxHeartbeats 1000000 in
set_option maxRecDepth 100000 in
theorem lentGame_spec {Γ : Ctx} (hP : Γ.P = Try.prog) {L : Hp} {g : GM} {sv pv mv : Value} (hs : SlI .u16 (Cell Γ L) sv g.st) (hp : SlI .u8 (Cell Γ L) pv g.pg) (hm : SlI .u8 (Cell Γ L) mv g.mm) (hsl : g.st.length ≤ 2147483647) (hpl : g.pg.length ≤ 2147483647) (hml : g.mm.length ≤ 2147483647) :
    SCall Γ 19 #[(.agg (g.cells sv pv mv).toArray)] L (lentGR g L) := by
  obtain ⟨As, cs, rfl, hcs⟩ := slShape hs
  obtain ⟨Ap, cp, rfl, hcp⟩ := slShape hp
  obtain ⟨Am, cm, rfl, hcm⟩ := slShape hm
  refine SCall.enter (n := 16) (resX Γ [.cell 2 29]) (hP ▸ Try.func19) rfl rfl (by simp) (resX_ok rfl) ?_
  refine SX.seq_k fun K1 hK1 => ?_
  refine SX.region_d [some 1, some 2] rfl (fun ops hops => ?_)
  unfold Dsts at hops
  simp (maxSteps:=1000000)(dsimp:=false)(disch:=omega) only [go_sem, Φa, hP, hops]
  intro b0
  try with_reducible refine stI ?_
  try simp (maxSteps:=1000000)(dsimp:=false)(disch:=omega) only [go_sem, Φa, hP, hops]
  intro b1
  try with_reducible refine stI ?_
  try simp (maxSteps:=1000000)(dsimp:=false)(disch:=omega) only [go_sem, Φa, hP, hops]
  refine hK1 _ _ ?_
  try clear hK1 K1
  refine SX.seq_k fun K2 hK2 => ?_
  refine SX.region_d [some 3, some 4, some 5, some 6, none] rfl (fun ops hops => ?_)
  unfold Dsts at hops
  simp (maxSteps:=1000000)(dsimp:=false)(disch:=omega) only [go_sem, Φa, hP, hops]
  refine ⟨_, Cell.at 1 rfl (show (g.cells _ _ _)[18]? = _ from rfl), ?_⟩
  try with_reducible refine stI ?_
  try simp (maxSteps:=1000000)(dsimp:=false)(disch:=omega) only [go_sem, Φa, hP, hops]
  refine SCall.mono (lentWords_spec hP (SlI.cons _ (SlI.cons _ hs)) hsl) ?_
  rintro v_ L_ ⟨c1, rfl, rfl⟩
  try with_reducible refine stI ?_
  try simp (maxSteps:=1000000)(dsimp:=false)(disch:=omega) only [go_sem, Φa, hP, hops]
  refine ⟨2, _, _, _, rfl, (by simp [GM.cells]), .inr (by decide), ?_⟩
  try with_reducible refine stI ?_
  try simp (maxSteps:=1000000)(dsimp:=false)(disch:=omega) only [go_sem, Φa, hP, hops]
  refine hK2 _ _ ?_
  try clear hK2 K2
  refine SX.seq_k fun K3 hK3 => ?_
  refine SX.region_d [some 7, some 8, some 9, some 10, none] rfl (fun ops hops => ?_)
  unfold Dsts at hops
  simp (maxSteps:=1000000)(dsimp:=false)(disch:=omega) only [go_sem, Φa, hP, hops]
  refine ⟨_, Cell.at 2 rfl rfl, ?_⟩
  try with_reducible refine stI ?_
  try simp (maxSteps:=1000000)(dsimp:=false)(disch:=omega) only [go_sem, Φa, hP, hops]
  refine SCall.mono (lent_spec hP (SlI.cons _ (SlI.cons _ (SlI.cons _ hp))) hpl) ?_
  rintro v_ L_ ⟨c2, rfl, rfl⟩
  try with_reducible refine stI ?_
  try simp (maxSteps:=1000000)(dsimp:=false)(disch:=omega) only [go_sem, Φa, hP, hops]
  refine ⟨3, _, _, _, rfl, (by simp [GM.cells]), .inr (by decide), ?_⟩
  try with_reducible refine stI ?_
  try simp (maxSteps:=1000000)(dsimp:=false)(disch:=omega) only [go_sem, Φa, hP, hops]
  refine hK3 _ _ ?_
  try clear hK3 K3
  refine SX.live [1, 2] (fun T1 hT1 => ?_)
  simp only [forall_mem_cons', forall_mem_nil', go_sem, Φa, hP] at hT1
  obtain ⟨h1_1, h1_2⟩ := hT1
  refine SX.seq_k fun K4 hK4 => ?_
  refine SX.region_d [some 11, some 12, some 13, some 14, none] rfl (fun ops hops => ?_)
  unfold Dsts at hops
  simp (maxSteps:=1000000)(dsimp:=false)(disch:=omega) only [go_sem, Φa, hP, h1_1, h1_2, hops]
  refine ⟨_, Cell.at 3 rfl rfl, ?_⟩
  try with_reducible refine stI ?_
  try simp (maxSteps:=1000000)(dsimp:=false)(disch:=omega) only [go_sem, Φa, hP, h1_1, h1_2, hops]
  refine SCall.mono (lent_spec hP (SlI.cons _ (SlI.cons _ (SlI.cons _ (SlI.cons _ hm)))) hml) ?_
  rintro v_ L_ ⟨c3, rfl, rfl⟩
  try with_reducible refine stI ?_
  try simp (maxSteps:=1000000)(dsimp:=false)(disch:=omega) only [go_sem, Φa, hP, h1_1, h1_2, hops]
  refine ⟨4, _, _, _, rfl, (by simp [GM.cells]), .inr (by decide), ?_⟩
  try with_reducible refine stI ?_
  try simp (maxSteps:=1000000)(dsimp:=false)(disch:=omega) only [go_sem, Φa, hP, h1_1, h1_2, hops]
  refine hK4 _ _ ?_
  try clear hK4 K4
  refine SX.seq_k fun K5 hK5 => ?_
  refine SX.region_d [some 15, none] rfl (fun ops hops => ?_)
  unfold Dsts at hops
  simp (maxSteps:=1000000)(dsimp:=false)(disch:=omega) only [go_sem, Φa, hP, h1_1, h1_2, hops]
  refine ⟨_, Cell.at 4 rfl rfl, ?_⟩
  try with_reducible refine stI ?_
  try simp (maxSteps:=1000000)(dsimp:=false)(disch:=omega) only [go_sem, Φa, hP, h1_1, h1_2, hops]
  refine ⟨_, Cell.at 4 rfl rfl, ?_⟩
  try with_reducible refine stI ?_
  try simp (maxSteps:=1000000)(dsimp:=false)(disch:=omega) only [go_sem, Φa, hP, h1_1, h1_2, hops]
  refine ⟨_, Cell.at 4 rfl rfl, ?_⟩
  try with_reducible refine stI ?_
  try simp (maxSteps:=1000000)(dsimp:=false)(disch:=omega) only [go_sem, Φa, hP, h1_1, h1_2, hops]
  refine ⟨_, Cell.at 4 rfl rfl, ?_⟩
  try with_reducible refine stI ?_
  try simp (maxSteps:=1000000)(dsimp:=false)(disch:=omega) only [go_sem, Φa, hP, h1_1, h1_2, hops]
  refine ⟨_, Cell.at 4 rfl rfl, ?_⟩
  try with_reducible refine stI ?_
  try simp (maxSteps:=1000000)(dsimp:=false)(disch:=omega) only [go_sem, Φa, hP, h1_1, h1_2, hops]
  refine ⟨_, Cell.at 4 rfl rfl, ?_⟩
  try with_reducible refine stI ?_
  try simp (maxSteps:=1000000)(dsimp:=false)(disch:=omega) only [go_sem, Φa, hP, h1_1, h1_2, hops]
  refine ⟨_, Cell.at 4 rfl rfl, ?_⟩
  try with_reducible refine stI ?_
  try simp (maxSteps:=1000000)(dsimp:=false)(disch:=omega) only [go_sem, Φa, hP, h1_1, h1_2, hops]
  refine ⟨_, Cell.at 4 rfl rfl, ?_⟩
  try with_reducible refine stI ?_
  try simp (maxSteps:=1000000)(dsimp:=false)(disch:=omega) only [go_sem, Φa, hP, h1_1, h1_2, hops]
  refine ⟨_, Cell.at 4 rfl rfl, ?_⟩
  try with_reducible refine stI ?_
  try simp (maxSteps:=1000000)(dsimp:=false)(disch:=omega) only [go_sem, Φa, hP, h1_1, h1_2, hops]
  refine ⟨_, Cell.at 4 rfl rfl, ?_⟩
  try with_reducible refine stI ?_
  try simp (maxSteps:=1000000)(dsimp:=false)(disch:=omega) only [go_sem, Φa, hP, h1_1, h1_2, hops]
  refine ⟨_, Cell.at 4 rfl rfl, ?_⟩
  try with_reducible refine stI ?_
  try simp (maxSteps:=1000000)(dsimp:=false)(disch:=omega) only [go_sem, Φa, hP, h1_1, h1_2, hops]
  refine ⟨_, Cell.at 4 rfl rfl, ?_⟩
  try with_reducible refine stI ?_
  try simp (maxSteps:=1000000)(dsimp:=false)(disch:=omega) only [go_sem, Φa, hP, h1_1, h1_2, hops]
  refine ⟨_, Cell.at 4 rfl rfl, ?_⟩
  try with_reducible refine stI ?_
  try simp (maxSteps:=1000000)(dsimp:=false)(disch:=omega) only [go_sem, Φa, hP, h1_1, h1_2, hops]
  refine ⟨_, Cell.at 4 rfl rfl, ?_⟩
  try with_reducible refine stI ?_
  try simp (maxSteps:=1000000)(dsimp:=false)(disch:=omega) only [go_sem, Φa, hP, h1_1, h1_2, hops]
  refine ⟨_, Cell.at 4 rfl rfl, ?_⟩
  try with_reducible refine stI ?_
  try simp (maxSteps:=1000000)(dsimp:=false)(disch:=omega) only [go_sem, Φa, hP, h1_1, h1_2, hops]
  refine ⟨_, Cell.at 4 rfl rfl, ?_⟩
  try with_reducible refine stI ?_
  try simp (maxSteps:=1000000)(dsimp:=false)(disch:=omega) only [go_sem, Φa, hP, h1_1, h1_2, hops]
  refine ⟨_, Cell.at 4 rfl rfl, ?_⟩
  try with_reducible refine stI ?_
  try simp (maxSteps:=1000000)(dsimp:=false)(disch:=omega) only [go_sem, Φa, hP, h1_1, h1_2, hops]
  refine ⟨_, Cell.at 4 rfl rfl, ?_⟩
  try with_reducible refine stI ?_
  try simp (maxSteps:=1000000)(dsimp:=false)(disch:=omega) only [go_sem, Φa, hP, h1_1, h1_2, hops]
  refine ⟨_, Cell.at 4 rfl rfl, ?_⟩
  try with_reducible refine stI ?_
  try simp (maxSteps:=1000000)(dsimp:=false)(disch:=omega) only [go_sem, Φa, hP, h1_1, h1_2, hops]
  refine ⟨_, Cell.at 4 rfl rfl, ?_⟩
  try with_reducible refine stI ?_
  try simp (maxSteps:=1000000)(dsimp:=false)(disch:=omega) only [go_sem, Φa, hP, h1_1, h1_2, hops]
  refine ⟨_, Cell.at 4 rfl rfl, ?_⟩
  try with_reducible refine stI ?_
  try simp (maxSteps:=1000000)(dsimp:=false)(disch:=omega) only [go_sem, Φa, hP, h1_1, h1_2, hops]
  refine ⟨_, Cell.at 4 rfl rfl, ?_⟩
  try with_reducible refine stI ?_
  try simp (maxSteps:=1000000)(dsimp:=false)(disch:=omega) only [go_sem, Φa, hP, h1_1, h1_2, hops]
  refine ⟨_, Cell.at 4 rfl rfl, ?_⟩
  try with_reducible refine stI ?_
  try simp (maxSteps:=1000000)(dsimp:=false)(disch:=omega) only [go_sem, Φa, hP, h1_1, h1_2, hops]
  refine ⟨3, _, _, _, rfl, (by simp [GM.cells]), .inr (by decide), ?_⟩
  try with_reducible refine stI ?_
  try simp (maxSteps:=1000000)(dsimp:=false)(disch:=omega) only [go_sem, Φa, hP, h1_1, h1_2, hops]
  refine hK5 _ _ ?_
  try clear hK5 K5
  refine SX.ret ?_
  simp only [andThen_normal, andThen_ret, andThen_exit, inBlk_normal, inBlk_ret, inBlk_exit, Nat.reduceEqDiff, if_true, if_false, ↓reduceIte, retQ_ret]
  try simp only [res0,res1,res2,res3,stK_e,resX,resK,oneOr,ld_ptr,loadVC,loadN,List.nil_append,List.cons_append,Nat.reduceAdd,Nat.add_zero,Nat.zero_add,Addr.add_lit,Addr.add_zero',add_addS,T.elA_29,T.lay_29,T.szA_29,T.zr_29,Try.underlying29,go_sem,Φa,hP,h1_1,h1_2]
  exact ⟨_, _, lessThree _ _ _ _ _ _, ⟨_, Cell.at 3 rfl rfl, _, Cell.at 3 rfl rfl, _, Cell.at 3 rfl rfl, _, Cell.at 3 rfl rfl, _, Cell.at 3 rfl rfl, _, Cell.at 3 rfl rfl, _, Cell.at 3 rfl rfl, _, Cell.at 3 rfl rfl, _, Cell.at 3 rfl rfl, _, Cell.at 3 rfl rfl, _, Cell.at 3 rfl rfl, _, Cell.at 3 rfl rfl, _, Cell.at 3 rfl rfl, _, Cell.at 3 rfl rfl, _, Cell.at 3 rfl rfl, _, Cell.at 3 rfl rfl, _, Cell.at 3 rfl rfl, _, Cell.at 3 rfl rfl, _, Cell.at 3 rfl rfl, _, Cell.at 3 rfl rfl, _, Cell.at 3 rfl rfl, _, Cell.at 3 rfl rfl, _, Cell.at 3 rfl rfl, rfl⟩, _, _, _, rfl, rfl⟩
set_option maxHeartbeats 1000000 in
set_option maxRecDepth 100000 in
theorem keptGame_spec {Γ : Ctx} (hP : Γ.P = Try.prog) {L : Hp} {g : GM} {sv pv mv : Value} {b1 b2 b3 i1 i2 i3 : Nat} (h1 : L[i1]? = some (lentW b1 g.st)) (h2 : L[i2]? = some (lentB b2 g.pg)) (h3 : L[i3]? = some (lentB b3 g.mm)) (h12 : i1 ≠ i2) (h13 : i1 ≠ i3) (h23 : i2 ≠ i3) (hs : SlI .u16 (Cell Γ (((L.set i1 none).set i2 none).set i3 none)) sv g.st) (hp : SlI .u8 (Cell Γ (((L.set i1 none).set i2 none).set i3 none)) pv g.pg) (hm : SlI .u8 (Cell Γ (((L.set i1 none).set i2 none).set i3 none)) mv g.mm) (hsl : g.st.length ≤ 2147483647) (hpl : g.pg.length ≤ 2147483647) (hml : g.mm.length ≤ 2147483647) :
    SCall Γ 22 #[(.agg (lentC g b1 b2 b3).toArray), (.agg (g.cells sv pv mv).toArray)] L (fun v L' => v = .bool true ∧ L' = (((L.set i1 none).set i2 none).set i3 none)) := by
  obtain ⟨As, cs, rfl, hcs⟩ := slShape hs
  obtain ⟨Ap, cp, rfl, hcp⟩ := slShape hp
  obtain ⟨Am, cm, rfl, hcm⟩ := slShape hm
  have k3 : ((L.set i1 none).set i2 none)[i3]? = some (lentB b3 g.mm) := by rw [get_ne h23, get_ne h13, h3]
  have k2 : (L.set i1 none)[i2]? = some (lentB b2 g.pg) := by rw [get_ne h12, h2]
  have hm1 := SlI.unset k3 hm
  have hp1 := SlI.unset k2 (SlI.unset k3 hp)
  have hs1 := SlI.unset h1 (SlI.unset k2 (SlI.unset k3 hs))
  refine SCall.enter (n := 30) (res1 4) (hP ▸ Try.func22) rfl rfl (by simp) (res1_ok rfl) ?_
  refine SX.seq_k fun K1 hK1 => ?_
  refine SX.region_d [some 2, some 3, some 4] rfl (fun ops hops => ?_)
  unfold Dsts at hops
  simp (maxSteps:=1000000)(dsimp:=false)(disch:=omega) only [go_sem, Φa, hP, hops]
  intro a0
  try with_reducible refine stI ?_
  try simp (maxSteps:=1000000)(dsimp:=false)(disch:=omega) only [go_sem, Φa, hP, hops]
  intro a1
  try with_reducible refine stI ?_
  try simp (maxSteps:=1000000)(dsimp:=false)(disch:=omega) only [go_sem, Φa, hP, hops]
  refine hK1 _ _ ?_
  try clear hK1 K1
  refine SX.seq_k fun K2 hK2 => ?_
  refine SX.region_d [some 8, some 9, some 10, some 11, some 12, some 5] rfl (fun ops hops => ?_)
  unfold Dsts at hops
  simp (maxSteps:=1000000)(dsimp:=false)(disch:=omega) only [go_sem, Φa, hP, hops]
  refine ⟨_, Cell.at 1 rfl (show (lentC g b1 b2 b3)[18]? = _ from rfl), ?_⟩
  try with_reducible refine stI ?_
  try simp (maxSteps:=1000000)(dsimp:=false)(disch:=omega) only [go_sem, Φa, hP, hops]
  refine ⟨_, Cell.at 0 rfl (show (g.cells _ _ _)[18]? = _ from rfl), ?_⟩
  try with_reducible refine stI ?_
  try simp (maxSteps:=1000000)(dsimp:=false)(disch:=omega) only [go_sem, Φa, hP, hops]
  first | (refine SCall.mono (keptWords_spec (i := i1 + 2) hP (by simpa using h1) (SlI.cons _ (SlI.cons _ hs1)) hsl) ?_; rintro v_ L_ ⟨hv_, hL_⟩; rw [hv_, hL_]; clear hv_ hL_ v_ L_) | refine ⟨_, keptWords_spec (i := i1 + 2) hP (by simpa using h1) (SlI.cons _ (SlI.cons _ hs1)) hsl, ?_⟩ | refine ⟨_, fun L0 hl0 => keptWords_spec (i := i1 + 2) hP (by simpa using h1) (SlI.cons _ (SlI.cons _ hs1)) hsl, ?_⟩
  try with_reducible refine stI ?_
  try simp (maxSteps:=1000000)(dsimp:=false)(disch:=omega) only [go_sem, Φa, hP, hops]
  refine hK2 _ _ ?_
  try clear hK2 K2
  refine SX.live [2, 3, 5] (fun T1 hT1 => ?_)
  simp only [forall_mem_cons', forall_mem_nil', go_sem, Φa, hP] at hT1
  obtain ⟨h1_2, h1_3, h1_5⟩ := hT1
  refine SX.seq_k fun K3 hK3 => ?_
  refine SX.region_d [some 13, some 14, some 15, some 16, some 17, some 6] rfl (fun ops hops => ?_)
  unfold Dsts at hops
  simp (maxSteps:=1000000)(dsimp:=false)(disch:=omega) only [go_sem, Φa, hP, h1_2, h1_3, h1_5, hops]
  refine ⟨_, Cell.at 1 rfl (show (lentC g b1 b2 b3)[21]? = _ from rfl), ?_⟩
  try with_reducible refine stI ?_
  try simp (maxSteps:=1000000)(dsimp:=false)(disch:=omega) only [go_sem, Φa, hP, h1_2, h1_3, h1_5, hops]
  refine ⟨_, Cell.at 0 rfl (show (g.cells _ _ _)[21]? = _ from rfl), ?_⟩
  try with_reducible refine stI ?_
  try simp (maxSteps:=1000000)(dsimp:=false)(disch:=omega) only [go_sem, Φa, hP, h1_2, h1_3, h1_5, hops]
  first | (refine SCall.mono (kept_spec (i := i2 + 2) hP (by simpa [get_ne h12] using h2) (SlI.cons _ (SlI.cons _ hp1)) hpl) ?_; rintro v_ L_ ⟨hv_, hL_⟩; rw [hv_, hL_]; clear hv_ hL_ v_ L_) | refine ⟨_, kept_spec (i := i2 + 2) hP (by simpa [get_ne h12] using h2) (SlI.cons _ (SlI.cons _ hp1)) hpl, ?_⟩ | refine ⟨_, fun L0 hl0 => kept_spec (i := i2 + 2) hP (by simpa [get_ne h12] using h2) (SlI.cons _ (SlI.cons _ hp1)) hpl, ?_⟩
  try with_reducible refine stI ?_
  try simp (maxSteps:=1000000)(dsimp:=false)(disch:=omega) only [go_sem, Φa, hP, h1_2, h1_3, h1_5, hops]
  refine hK3 _ _ ?_
  try clear hK3 K3
  refine SX.seq_k fun K4 hK4 => ?_
  refine SX.region_d [some 18, some 19, some 20, some 21, some 22, some 7] rfl (fun ops hops => ?_)
  unfold Dsts at hops
  simp (maxSteps:=1000000)(dsimp:=false)(disch:=omega) only [go_sem, Φa, hP, h1_2, h1_3, h1_5, hops]
  refine ⟨_, Cell.at 1 rfl (show (lentC g b1 b2 b3)[22]? = _ from rfl), ?_⟩
  try with_reducible refine stI ?_
  try simp (maxSteps:=1000000)(dsimp:=false)(disch:=omega) only [go_sem, Φa, hP, h1_2, h1_3, h1_5, hops]
  refine ⟨_, Cell.at 0 rfl (show (g.cells _ _ _)[22]? = _ from rfl), ?_⟩
  try with_reducible refine stI ?_
  try simp (maxSteps:=1000000)(dsimp:=false)(disch:=omega) only [go_sem, Φa, hP, h1_2, h1_3, h1_5, hops]
  first | (refine SCall.mono (kept_spec (i := i3 + 2) hP (by simpa [get_ne h13, get_ne h23] using h3) (SlI.cons _ (SlI.cons _ hm1)) hml) ?_; rintro v_ L_ ⟨hv_, hL_⟩; rw [hv_, hL_]; clear hv_ hL_ v_ L_) | refine ⟨_, kept_spec (i := i3 + 2) hP (by simpa [get_ne h13, get_ne h23] using h3) (SlI.cons _ (SlI.cons _ hm1)) hml, ?_⟩ | refine ⟨_, fun L0 hl0 => kept_spec (i := i3 + 2) hP (by simpa [get_ne h13, get_ne h23] using h3) (SlI.cons _ (SlI.cons _ hm1)) hml, ?_⟩
  try with_reducible refine stI ?_
  try simp (maxSteps:=1000000)(dsimp:=false)(disch:=omega) only [go_sem, Φa, hP, h1_2, h1_3, h1_5, hops]
  refine hK4 _ _ ?_
  try clear hK4 K4
  refine SX.live [5, 6, 7] (fun T2 hT2 => ?_)
  simp only [forall_mem_cons', forall_mem_nil', go_sem, Φa, hP, h1_2, h1_3, h1_5] at hT2
  obtain ⟨h2_5, h2_6, h2_7⟩ := hT2
  clear h1_2 h1_3 h1_5 T1
  refine SX.seq_k fun K5 hK5 => ?_
  refine SX.region_d [some 23, some 24, some 25, some 26, some 27, some 28, some 29, some 4] rfl (fun ops hops => ?_)
  unfold Dsts at hops
  simp (maxSteps:=1000000)(dsimp:=false)(disch:=omega) only [go_sem, Φa, hP, h2_5, h2_6, h2_7, hops]
  refine hK5 _ _ ?_
  try clear hK5 K5
  refine SX.ret ?_
  simp only [andThen_normal, andThen_ret, andThen_exit, inBlk_normal, inBlk_ret, inBlk_exit, Nat.reduceEqDiff, if_true, if_false, ↓reduceIte, retQ_ret]
  try simp only [res0, res1, res2, res3, stK_e, go_sem, Φa, hP, h2_5, h2_6, h2_7]
  exact ⟨_, _, Less.drops (Less.drop _ _), rfl, rfl, rfl⟩

def pickI (c : Int) (n : Int) : Int := (if c < 0 then -(c + 1) else c).tmod n
theorem pickI_lt {c n : Int} (hn : 0 < n) : 0 ≤ pickI c n ∧ pickI c n < n := by
  have h : 0 ≤ (if c < 0 then -(c + 1) else c) := by split <;> omega
  unfold pickI
  rw [Int.tmod_eq_emod_of_nonneg h]
  exact ⟨Int.emod_nonneg _ (by omega), Int.emod_lt_of_pos _ hn⟩
def vastB (g : GM) (f : Fnt) : Bool := decide (2147483647 < g.st.length ∨ 2147483647 < g.pg.length ∨ 2147483647 < g.mm.length ∨ 2147483647 < f.bs.length ∨ 2147483647 < g.st.length + g.pg.length + g.mm.length + f.bs.length)
set_option maxHeartbeats 1000000 in
set_option maxRecDepth 100000 in
theorem pick_spec {Γ : Ctx} (hP : Γ.P = Try.prog) {L : Hp} {c n : Int} (hc : -9223372036854775808 ≤ c ∧ c ≤ 9223372036854775807) (hn : 0 < n) :
    SCall Γ 26 #[(.int .i64 c), (.int .i64 n)] L (fun v L' => v = .int .i64 (pickI c n) ∧ L' = L) := by
  refine SCall.enter (n := 13) (res1 4) (hP ▸ Try.func26) rfl rfl (by simp) (res1_ok rfl) ?_
  refine SX.seq_k fun K1 hK1 => ?_
  refine SX.region_d [some 4] rfl (fun ops hops => ?_)
  unfold Dsts at hops
  simp (maxSteps:=1000000)(dsimp:=false)(disch:=omega) only [go_sem, Φa, hP, hops]
  refine hK1 _ _ ?_
  try clear hK1 K1
  refine SX.live [0, 1] (fun T1 hT1 => ?_)
  simp only [forall_mem_cons', forall_mem_nil', go_sem, Φa, hP] at hT1
  obtain ⟨h1_0, h1_1⟩ := hT1
  refine SX.join (fun (ss : Unit) T L' => T 0 = .int .i64 (if c < 0 then -(c + 1) else c) ∧ T 1 = T1 1 ∧ L' = L ∧ (True)) (fun K2 hK2 => ?_) ?_
  · simp only [h1_1] at hK2
    refine SX.seq_k fun K3 hK3 => ?_
    refine SX.region_d [some 5, some 6] rfl (fun ops hops => ?_)
    unfold Dsts at hops
    simp (maxSteps:=1000000)(dsimp:=false)(disch:=omega) only [go_sem, Φa, hP, h1_0, h1_1, hops]
    repeat' ((first | refine And.intro (by omega) ?_ | fail); try (with_reducible refine stI ?_); try simp (maxSteps:=1000000)(dsimp:=false)(disch:=omega) only [go_sem, Φa, hP, h1_0, h1_1, hops])
    refine hK3 _ _ ?_
    try clear hK3 K3
    refine SX.cond_k fun X4 Y4 hX4 hY4 => ?_
    simp (maxSteps:=1000000)(dsimp:=false)(disch:=omega) only [go_sem, Φa, hP, h1_0, h1_1, condVC]
    refine ⟨fun hc6 => hX4 ?_, fun hc6 => hY4 ?_⟩
    · clear hX4 hY4 X4 Y4
      refine SX.region_d [some 7, some 8, some 9, some 0] rfl (fun ops hops => ?_)
      unfold Dsts at hops
      simp (maxSteps:=1000000)(dsimp:=false)(disch:=omega) only [go_sem, Φa, hP, h1_0, h1_1, hops]
      repeat' ((first | refine And.intro (by omega) ?_ | fail); try (with_reducible refine stI ?_); try simp (maxSteps:=1000000)(dsimp:=false)(disch:=omega) only [go_sem, Φa, hP, h1_0, h1_1, hops])
      refine hK2 () _ (L) _ (by first | exact Less.refl _ | exact Less.drop _ _ | exact Less.drops (Less.drop _ _) | exact Less.drops (Less.drops (Less.drop _ _)) | exact Less.drops (Less.drops (Less.drops (Less.drop _ _))) | exact Less.drops (Less.drops (Less.drops (Less.drops (Less.drop _ _))))) ?_
      try dsimp only
      refine ⟨?_, ?_, ?_, ?_⟩
      · simp (maxSteps:=1000000)(dsimp:=false)(disch:=omega) only [go_sem, Φa, hP, h1_0, h1_1]
        first | done | (refine congrArg (Value.int .i64) ?_; omega)
      · simp (maxSteps:=1000000)(dsimp:=false)(disch:=omega) only [go_sem, Φa, hP, h1_0, h1_1]
      · rfl
      · trivial
    · clear hX4 hY4 X4 Y4
      refine SX.skip ?_
      try simp only [andThen_normal, andThen_ret, andThen_exit, inBlk_normal, inBlk_ret, inBlk_exit, Nat.reduceEqDiff, if_true, if_false, ↓reduceIte]
      refine hK2 () _ (L) _ (by first | exact Less.refl _ | exact Less.drop _ _ | exact Less.drops (Less.drop _ _) | exact Less.drops (Less.drops (Less.drop _ _)) | exact Less.drops (Less.drops (Less.drops (Less.drop _ _))) | exact Less.drops (Less.drops (Less.drops (Less.drops (Less.drop _ _))))) ?_
      try dsimp only
      refine ⟨?_, ?_, ?_, ?_⟩
      · simp (maxSteps:=1000000)(dsimp:=false)(disch:=omega) only [go_sem, Φa, hP, h1_0, h1_1]
        first | done | (refine congrArg (Value.int .i64) ?_; omega)
      · simp (maxSteps:=1000000)(dsimp:=false)(disch:=omega) only [go_sem, Φa, hP, h1_0, h1_1]
      · rfl
      · trivial
  · intro ss T2 L2 hI
    simp only [h1_1] at hI 
    obtain ⟨h2_0, h2_1, hL2, hinv⟩ := hI
    replace hL2 := hL2.symm
    subst hL2
    clear h1_0 h1_1 T1
    refine SX.seq_k fun K5 hK5 => ?_
    refine SX.region_d [some 10, some 11, some 12, some 4] rfl (fun ops hops => ?_)
    unfold Dsts at hops
    simp (maxSteps:=1000000)(dsimp:=false)(disch:=omega) only [go_sem, Φa, hP, h2_0, h2_1, hops]
    repeat' ((first | refine And.intro (by omega) ?_ | fail); try (with_reducible refine stI ?_); try simp (maxSteps:=1000000)(dsimp:=false)(disch:=omega) only [go_sem, Φa, hP, h2_0, h2_1, hops])
    refine hK5 _ _ ?_
    try clear hK5 K5
    refine SX.ret ?_
    simp only [andThen_normal, andThen_ret, andThen_exit, inBlk_normal, inBlk_ret, inBlk_exit, Nat.reduceEqDiff, if_true, if_false, ↓reduceIte, retQ_ret]
    try simp only [res0, res1, res2, res3, stK_e, go_sem, Φa, hP, h2_0, h2_1]
    exact ⟨_, _, Less.refl _, rfl, rfl, rfl⟩

def fillS (k : IntKind) (x : Int) (s : Slot) (i : Nat) : Slot := s.map fun p => (p.1, match p.2 with | .cells cs t fr => .cells (ints k (List.replicate i x) ++ cs.toList.drop i).toArray t fr | o => o)
theorem fillS_some {k : IntKind} {x : Int} {r : Nat} {xs : List Value} {t : TypeId} {fr : Nat × Nat} {i : Nat} : fillS k x (some (r, .cells xs.toArray t fr)) i = some (r, .cells (ints k (List.replicate i x) ++ xs.drop i).toArray t fr) := rfl
theorem fillS_zero {k : IntKind} {x : Int} {s : Slot} : fillS k x s 0 = s := by
  unfold fillS
  rcases s with _ | ⟨r, o⟩
  · rfl
  · cases o <;> rfl
theorem rowCap {k : IntKind} {e : TypeId} {v : Value} {l : List Int} {s : Slot} (h : RowI k e v l s) : ∃ A c, v = .slice A l.length c ∧ (l.length ≤ c ∧ c ≤ 9223372036854775807) ∧ (0 < c → ∃ (r : Nat) (xs : List Value), A = some ⟨r, 0, none⟩ ∧ s = some (r, .cells xs.toArray e (0, 0)) ∧ xs.length = c) := by
  obtain ⟨_, ⟨rfl, hn, _⟩ | ⟨r, cap, junk, rfl, rfl, h3, h4⟩⟩ := h
  · exact ⟨none, 0, by rw [hn], ⟨by omega, by decide⟩, fun h => absurd h (by omega)⟩
  · exact ⟨_, cap, rfl, h3, fun _ => ⟨r, _, rfl, rfl, by rw [h4, Nat.mul_one]⟩⟩
set_option maxHeartbeats 1000000 in
set_option maxRecDepth 100000 in
theorem spread_spec {Γ : Ctx} (hP : Γ.P = Try.prog) {L : Hp} {g : GM} {sv pv mv : Value} {s1 s2 s3 : Slot} (hr : Rows g sv pv mv s1 s2 s3) (hb : g.st.length ≤ 4611686018427387903) :
    SCall Γ 17 #[(.agg (g.cells sv pv mv).toArray)] (s1 :: s2 :: s3 :: L) (fun v L' => v = .bool true ∧ L' = L) := by
  obtain ⟨A1, c1, rfl, hc1, hcp1⟩ := rowCap hr.st
  obtain ⟨A2, c2, rfl, hc2, hcp2⟩ := rowCap hr.pg
  obtain ⟨A3, c3, rfl, hc3, hcp3⟩ := rowCap hr.mm
  refine SCall.enter (n := 66) (res1 2) (hP ▸ Try.func17) rfl rfl (by simp) (res1_ok rfl) ?_
  refine SX.seq_k fun K1 hK1 => ?_
  refine SX.region_d [some 1, some 2] rfl (fun ops hops => ?_)
  unfold Dsts at hops
  simp (maxSteps:=1000000)(dsimp:=false)(disch:=omega) only [go_sem, Φa, hP, hops]
  intro b0
  try with_reducible refine stI ?_
  try simp (maxSteps:=1000000)(dsimp:=false)(disch:=omega) only [go_sem, Φa, hP, hops]
  refine hK1 _ _ ?_
  try clear hK1 K1
  refine SX.seq_k fun K2 hK2 => ?_
  refine SX.region_d [some 10, some 11, some 12, some 13, some 14, some 15, some 3] rfl (fun ops hops => ?_)
  unfold Dsts at hops
  simp (maxSteps:=1000000)(dsimp:=false)(disch:=omega) only [go_sem, Φa, hP, hops, cutA0, Nat.sub_zero]
  refine ⟨_, Cell.at 0 rfl rfl, ?_⟩
  try with_reducible refine stI ?_
  try simp (maxSteps:=1000000)(dsimp:=false)(disch:=omega) only [go_sem, Φa, hP, hops, cutA0, Nat.sub_zero]
  refine ⟨_, Cell.at 0 rfl rfl, ?_⟩
  try with_reducible refine stI ?_
  try simp (maxSteps:=1000000)(dsimp:=false)(disch:=omega) only [go_sem, Φa, hP, hops, cutA0, Nat.sub_zero]
  refine hK2 _ _ ?_
  try clear hK2 K2
  refine SX.live [1, 3] (fun T1 hT1 => ?_)
  simp only [forall_mem_cons', forall_mem_nil', go_sem, Φa, hP] at hT1
  obtain ⟨h1_1, h1_3⟩ := hT1
  refine SX.seq_k fun K3 hK3 => ?_
  refine SX.region_d [some 16, some 17, some 18, some 19, some 20, some 21, some 4] rfl (fun ops hops => ?_)
  unfold Dsts at hops
  simp (maxSteps:=1000000)(dsimp:=false)(disch:=omega) only [go_sem, Φa, hP, h1_1, h1_3, hops, cutA0, Nat.sub_zero]
  refine ⟨_, Cell.at 0 rfl rfl, ?_⟩
  try with_reducible refine stI ?_
  try simp (maxSteps:=1000000)(dsimp:=false)(disch:=omega) only [go_sem, Φa, hP, h1_1, h1_3, hops, cutA0, Nat.sub_zero]
  refine ⟨_, Cell.at 0 rfl rfl, ?_⟩
  try with_reducible refine stI ?_
  try simp (maxSteps:=1000000)(dsimp:=false)(disch:=omega) only [go_sem, Φa, hP, h1_1, h1_3, hops, cutA0, Nat.sub_zero]
  refine hK3 _ _ ?_
  try clear hK3 K3
  refine SX.seq_k fun K4 hK4 => ?_
  refine SX.seq_k fun K5 hK5 => ?_
  refine SX.region_d [some 5] rfl (fun ops hops => ?_)
  unfold Dsts at hops
  simp (maxSteps:=1000000)(dsimp:=false)(disch:=omega) only [go_sem, Φa, hP, h1_1, h1_3, hops]
  refine hK5 _ _ ?_
  try clear hK5 K5
  refine SX.block ?_
  refine SX.live [1, 3, 4, 5] (fun T2 hT2 => ?_)
  simp only [forall_mem_cons', forall_mem_nil', go_sem, Φa, hP, h1_1, h1_3] at hT2
  obtain ⟨h2_1, h2_3, h2_4, h2_5⟩ := hT2
  clear h1_1 h1_3 T1
  refine SX.loop_k (fun (ss : (Nat)) T L' => (fun (k : Nat) => T 5 = .int .i64 (k : Int) ∧ T 1 = T2 1 ∧ T 3 = T2 3 ∧ T 4 = T2 4 ∧ L' = some (b0, .cells (g.cells (.slice A1 g.st.length c1) (.slice A2 g.pg.length c2) (.slice A3 g.mm.length c3)).toArray 29 (0, 0)) :: s1 :: fillS .u8 119 s2 k :: s3 :: L ∧ (k ≤ c2)) (ss)) (fun (ss : (Nat)) => (fun (k : Nat) => c2 - k) (ss)) 0 ?_ ?_
  · try dsimp only
    refine ⟨?_, ?_, ?_, ?_, ?_, ?_⟩
    · first | exact h2_5 | (rw [h2_5]; rfl) | (rw [h2_5]; simp; done)
    · rfl
    · rfl
    · rfl
    · simp only [fillS_zero]
    · exact Nat.zero_le _
  · intro k T3 L3 hI K6 hK6
    try dsimp only at hI hK6
    simp only [h2_1, h2_3, h2_4] at hI hK6
    obtain ⟨h3_5, h3_1, h3_3, h3_4, hL3, hk⟩ := hI
    replace hL3 := hL3.symm
    subst hL3
    clear h2_1 h2_3 h2_4 h2_5 T2
    refine SX.seq_k fun K7 hK7 => ?_
    refine SX.seq_k fun K8 hK8 => ?_
    refine SX.region_d [some 22, some 23, some 24, some 25] rfl (fun ops hops => ?_)
    unfold Dsts at hops
    simp (maxSteps:=1000000)(dsimp:=false)(disch:=omega) only [go_sem, Φa, hP, h3_5, h3_1, h3_3, h3_4, hops]
    repeat' ((first | refine And.intro (by omega) ?_ | fail); try (with_reducible refine stI ?_); try simp (maxSteps:=1000000)(dsimp:=false)(disch:=omega) only [go_sem, Φa, hP, h3_5, h3_1, h3_3, h3_4, hops])
    refine hK8 _ _ ?_
    try clear hK8 K8
    refine SX.cond_k fun X9 Y9 hX9 hY9 => ?_
    simp (maxSteps:=1000000)(dsimp:=false)(disch:=omega) only [go_sem, Φa, hP, h3_5, h3_1, h3_3, h3_4, condVC]
    refine ⟨fun hc25 => hX9 ?_, fun hc25 => hY9 ?_⟩
    · clear hX9 hY9 X9 Y9
      refine SX.skip ?_
      try simp only [andThen_normal, andThen_ret, andThen_exit, inBlk_normal, inBlk_ret, inBlk_exit, Nat.reduceEqDiff, if_true, if_false, ↓reduceIte]
      refine hK7 _ _ ?_
      try clear hK7 K7
      refine SX.seq_k fun K10 hK10 => ?_
      refine SX.block ?_
      obtain ⟨r2, xs2, hA2, hs2, hxl2⟩ := hcp2 (by omega)
      rw [hs2, fillS_some]
      refine SX.region_d [some 28, some 29, some 30, none] rfl (fun ops hops => ?_)
      unfold Dsts at hops
      simp (maxSteps:=1000000)(dsimp:=false)(disch:=omega) only [go_sem, Φa, hP, h3_5, h3_1, h3_3, h3_4, hops, hA2]
      refine ⟨2, _, _, _, rfl, (by simp [ints_length]; omega), .inr (Nat.zero_le _), ?_⟩
      try with_reducible refine stI ?_
      try simp (maxSteps:=1000000)(dsimp:=false)(disch:=omega) only [go_sem, Φa, hP, h3_5, h3_1, h3_3, h3_4, hops, hA2]
      rw [over_set .u8 119 _ _ (by omega)]
      refine hK10 _ _ ?_
      try clear hK10 K10
      refine SX.region_d [some 26, some 27, some 5] rfl (fun ops hops => ?_)
      unfold Dsts at hops
      simp (maxSteps:=1000000)(dsimp:=false)(disch:=omega) only [go_sem, Φa, hP, h3_5, h3_1, h3_3, h3_4, hops]
      repeat' ((first | refine And.intro (by omega) ?_ | fail); try (with_reducible refine stI ?_); try simp (maxSteps:=1000000)(dsimp:=false)(disch:=omega) only [go_sem, Φa, hP, h3_5, h3_1, h3_3, h3_4, hops])
      refine hK6 (k + 1) _ (some (b0, .cells (g.cells (.slice A1 g.st.length c1) (.slice A2 g.pg.length c2) (.slice A3 g.mm.length c3)).toArray 29 (0, 0)) :: s1 :: fillS .u8 119 s2 ((k + 1)) :: s3 :: L) _ (by simp only [hs2, hA2, fillS_some]; exact Less.refl _) ?_ ?_
      · try dsimp only
        refine ⟨?_, ?_, ?_, ?_, ?_, ?_⟩
        · simp (maxSteps:=1000000)(dsimp:=false)(disch:=omega) only [go_sem, Φa, hP, h3_5, h3_1, h3_3, h3_4]
          first | done | rfl | skip
        · simp (maxSteps:=1000000)(dsimp:=false)(disch:=omega) only [go_sem, Φa, hP, h3_5, h3_1, h3_3, h3_4]
        · simp (maxSteps:=1000000)(dsimp:=false)(disch:=omega) only [go_sem, Φa, hP, h3_5, h3_1, h3_3, h3_4]
        · simp (maxSteps:=1000000)(dsimp:=false)(disch:=omega) only [go_sem, Φa, hP, h3_5, h3_1, h3_3, h3_4]
        · rfl
        · omega
      · (try dsimp only); omega
    · clear hX9 hY9 X9 Y9
      refine SX.exit ?_
      try simp only [andThen_normal, andThen_ret, andThen_exit, inBlk_normal, inBlk_ret, inBlk_exit, Nat.reduceEqDiff, if_true, if_false, ↓reduceIte]
      refine hK4 _ _ ?_
      try clear hK4 K4
      refine SX.seq_k fun K11 hK11 => ?_
      refine SX.seq_k fun K12 hK12 => ?_
      refine SX.region_d [some 6] rfl (fun ops hops => ?_)
      unfold Dsts at hops
      simp (maxSteps:=1000000)(dsimp:=false)(disch:=omega) only [go_sem, Φa, hP, h3_5, h3_1, h3_3, h3_4, hops]
      refine hK12 _ _ ?_
      try clear hK12 K12
      refine SX.block ?_
      refine SX.live [1, 3, 4, 6] (fun T4 hT4 => ?_)
      simp only [forall_mem_cons', forall_mem_nil', go_sem, Φa, hP, h3_5, h3_1, h3_3, h3_4] at hT4
      obtain ⟨h4_1, h4_3, h4_4, h4_6⟩ := hT4
      clear h3_5 h3_1 h3_3 h3_4 T3
      refine SX.loop_k (fun (ss : (Nat)) T L' => (fun (k : Nat) => T 6 = .int .i64 (k : Int) ∧ T 1 = T4 1 ∧ T 3 = T4 3 ∧ T 4 = T4 4 ∧ L' = some (b0, .cells (g.cells (.slice A1 g.st.length c1) (.slice A2 g.pg.length c2) (.slice A3 g.mm.length c3)).toArray 29 (0, 0)) :: s1 :: fillS .u8 119 s2 c2 :: fillS .u8 136 s3 k :: L ∧ (k ≤ c3)) (ss)) (fun (ss : (Nat)) => (fun (k : Nat) => c3 - k) (ss)) 0 ?_ ?_
      · try dsimp only
        refine ⟨?_, ?_, ?_, ?_, ?_, ?_⟩
        · first | exact h4_6 | (rw [h4_6]; rfl) | (rw [h4_6]; simp; done)
        · rfl
        · rfl
        · rfl
        · obtain rfl : k = c2 := (by omega); simp only [fillS_zero]
        · exact Nat.zero_le _
      · intro k T5 L5 hI K13 hK13
        try dsimp only at hI hK13
        simp only [h4_1, h4_3, h4_4] at hI hK13
        obtain ⟨h5_6, h5_1, h5_3, h5_4, hL5, hk⟩ := hI
        replace hL5 := hL5.symm
        subst hL5
        clear h4_1 h4_3 h4_4 h4_6 T4
        refine SX.seq_k fun K14 hK14 => ?_
        refine SX.seq_k fun K15 hK15 => ?_
        refine SX.region_d [some 31, some 32, some 33, some 34] rfl (fun ops hops => ?_)
        unfold Dsts at hops
        simp (maxSteps:=1000000)(dsimp:=false)(disch:=omega) only [go_sem, Φa, hP, h5_6, h5_1, h5_3, h5_4, hops]
        repeat' ((first | refine And.intro (by omega) ?_ | fail); try (with_reducible refine stI ?_); try simp (maxSteps:=1000000)(dsimp:=false)(disch:=omega) only [go_sem, Φa, hP, h5_6, h5_1, h5_3, h5_4, hops])
        refine hK15 _ _ ?_
        try clear hK15 K15
        refine SX.cond_k fun X16 Y16 hX16 hY16 => ?_
        simp (maxSteps:=1000000)(dsimp:=false)(disch:=omega) only [go_sem, Φa, hP, h5_6, h5_1, h5_3, h5_4, condVC]
        refine ⟨fun hc34 => hX16 ?_, fun hc34 => hY16 ?_⟩
        · clear hX16 hY16 X16 Y16
          refine SX.skip ?_
          try simp only [andThen_normal, andThen_ret, andThen_exit, inBlk_normal, inBlk_ret, inBlk_exit, Nat.reduceEqDiff, if_true, if_false, ↓reduceIte]
          refine hK14 _ _ ?_
          try clear hK14 K14
          refine SX.seq_k fun K17 hK17 => ?_
          refine SX.block ?_
          obtain ⟨r3, xs3, hA3, hs3, hxl3⟩ := hcp3 (by omega)
          rw [hs3, fillS_some]
          refine SX.region_d [some 37, some 38, some 39, none] rfl (fun ops hops => ?_)
          unfold Dsts at hops
          simp (maxSteps:=1000000)(dsimp:=false)(disch:=omega) only [go_sem, Φa, hP, h5_6, h5_1, h5_3, h5_4, hops, hA3]
          refine ⟨3, _, _, _, rfl, (by simp [ints_length]; omega), .inr (Nat.zero_le _), ?_⟩
          try with_reducible refine stI ?_
          try simp (maxSteps:=1000000)(dsimp:=false)(disch:=omega) only [go_sem, Φa, hP, h5_6, h5_1, h5_3, h5_4, hops, hA3]
          rw [over_set .u8 136 _ _ (by omega)]
          refine hK17 _ _ ?_
          try clear hK17 K17
          refine SX.region_d [some 35, some 36, some 6] rfl (fun ops hops => ?_)
          unfold Dsts at hops
          simp (maxSteps:=1000000)(dsimp:=false)(disch:=omega) only [go_sem, Φa, hP, h5_6, h5_1, h5_3, h5_4, hops]
          repeat' ((first | refine And.intro (by omega) ?_ | fail); try (with_reducible refine stI ?_); try simp (maxSteps:=1000000)(dsimp:=false)(disch:=omega) only [go_sem, Φa, hP, h5_6, h5_1, h5_3, h5_4, hops])
          refine hK13 (k + 1) _ (some (b0, .cells (g.cells (.slice A1 g.st.length c1) (.slice A2 g.pg.length c2) (.slice A3 g.mm.length c3)).toArray 29 (0, 0)) :: s1 :: fillS .u8 119 s2 c2 :: fillS .u8 136 s3 ((k + 1)) :: L) _ (by simp only [hs3, hA3, fillS_some]; exact Less.refl _) ?_ ?_
          · try dsimp only
            refine ⟨?_, ?_, ?_, ?_, ?_, ?_⟩
            · simp (maxSteps:=1000000)(dsimp:=false)(disch:=omega) only [go_sem, Φa, hP, h5_6, h5_1, h5_3, h5_4]
              first | done | rfl | skip
            · simp (maxSteps:=1000000)(dsimp:=false)(disch:=omega) only [go_sem, Φa, hP, h5_6, h5_1, h5_3, h5_4]
            · simp (maxSteps:=1000000)(dsimp:=false)(disch:=omega) only [go_sem, Φa, hP, h5_6, h5_1, h5_3, h5_4]
            · simp (maxSteps:=1000000)(dsimp:=false)(disch:=omega) only [go_sem, Φa, hP, h5_6, h5_1, h5_3, h5_4]
            · rfl
            · omega
          · (try dsimp only); omega
        · clear hX16 hY16 X16 Y16
          refine SX.exit ?_
          try simp only [andThen_normal, andThen_ret, andThen_exit, inBlk_normal, inBlk_ret, inBlk_exit, Nat.reduceEqDiff, if_true, if_false, ↓reduceIte]
          refine hK11 _ _ ?_
          try clear hK11 K11
          refine SX.seq_k fun K18 hK18 => ?_
          refine SX.seq_k fun K19 hK19 => ?_
          refine SX.region_d [some 7] rfl (fun ops hops => ?_)
          unfold Dsts at hops
          simp (maxSteps:=1000000)(dsimp:=false)(disch:=omega) only [go_sem, Φa, hP, h5_6, h5_1, h5_3, h5_4, hops]
          refine hK19 _ _ ?_
          try clear hK19 K19
          refine SX.block ?_
          refine SX.live [1, 3, 7] (fun T6 hT6 => ?_)
          simp only [forall_mem_cons', forall_mem_nil', go_sem, Φa, hP, h5_6, h5_1, h5_3, h5_4] at hT6
          obtain ⟨h6_1, h6_3, h6_7⟩ := hT6
          clear h5_6 h5_1 h5_3 h5_4 T5
          refine SX.loop_k (fun (ss : (Nat)) T L' => (fun (k : Nat) => T 7 = .int .i64 (k : Int) ∧ T 1 = T6 1 ∧ T 3 = T6 3 ∧ L' = some (b0, .cells (g.cells (.slice A1 g.st.length c1) (.slice A2 g.pg.length c2) (.slice A3 g.mm.length c3)).toArray 29 (0, 0)) :: s1 :: fillS .u8 119 s2 c2 :: fillS .u8 136 s3 c3 :: L ∧ (k ≤ c2)) (ss)) (fun (ss : (Nat)) => (fun (k : Nat) => c2 - k) (ss)) 0 ?_ ?_
          · try dsimp only
            refine ⟨?_, ?_, ?_, ?_, ?_⟩
            · first | exact h6_7 | (rw [h6_7]; rfl) | (rw [h6_7]; simp; done)
            · rfl
            · rfl
            · obtain rfl : k = c3 := (by omega); rfl
            · exact Nat.zero_le _
          · intro k T7 L7 hI K20 hK20
            try dsimp only at hI hK20
            simp only [h6_1, h6_3] at hI hK20
            obtain ⟨h7_7, h7_1, h7_3, hL7, hk⟩ := hI
            replace hL7 := hL7.symm
            subst hL7
            clear h6_1 h6_3 h6_7 T6
            refine SX.seq_k fun K21 hK21 => ?_
            refine SX.seq_k fun K22 hK22 => ?_
            refine SX.region_d [some 40, some 41, some 42, some 43] rfl (fun ops hops => ?_)
            unfold Dsts at hops
            simp (maxSteps:=1000000)(dsimp:=false)(disch:=omega) only [go_sem, Φa, hP, h7_7, h7_1, h7_3, hops]
            repeat' ((first | refine And.intro (by omega) ?_ | fail); try (with_reducible refine stI ?_); try simp (maxSteps:=1000000)(dsimp:=false)(disch:=omega) only [go_sem, Φa, hP, h7_7, h7_1, h7_3, hops])
            refine hK22 _ _ ?_
            try clear hK22 K22
            refine SX.cond_k fun X23 Y23 hX23 hY23 => ?_
            simp (maxSteps:=1000000)(dsimp:=false)(disch:=omega) only [go_sem, Φa, hP, h7_7, h7_1, h7_3, condVC]
            refine ⟨fun hc43 => hX23 ?_, fun hc43 => hY23 ?_⟩
            · clear hX23 hY23 X23 Y23
              refine SX.skip ?_
              try simp only [andThen_normal, andThen_ret, andThen_exit, inBlk_normal, inBlk_ret, inBlk_exit, Nat.reduceEqDiff, if_true, if_false, ↓reduceIte]
              refine hK21 _ _ ?_
              try clear hK21 K21
              refine SX.seq_k fun K24 hK24 => ?_
              refine SX.block ?_
              refine SX.seq_k fun K25 hK25 => ?_
              obtain ⟨r2, xs2, hA2, hs2, hxl2⟩ := hcp2 (by omega)
              rw [hs2, fillS_some]
              have hat : (ints .u8 (List.replicate c2 119) ++ xs2.drop c2)[k]? = some (.int .u8 119) := by rw [List.getElem?_append_left (by simp [ints_length]; omega), SX.ints_at, List.getElem?_replicate, if_pos (by omega)]; rfl
              refine SX.region_d [some 46, some 47, some 48, some 49, some 50] rfl (fun ops hops => ?_)
              unfold Dsts at hops
              simp (maxSteps:=1000000)(dsimp:=false)(disch:=omega) only [go_sem, Φa, hP, h7_7, h7_1, h7_3, hops, hA2]
              refine ⟨_, Cell.at 2 rfl hat, ?_⟩
              try with_reducible refine stI ?_
              try simp (maxSteps:=1000000)(dsimp:=false)(disch:=omega) only [go_sem, Φa, hP, h7_7, h7_1, h7_3, hops, hA2]
              refine hK25 _ _ ?_
              try clear hK25 K25
              refine SX.live [1, 3, 7, 50] (fun T8 hT8 => ?_)
              simp only [forall_mem_cons', forall_mem_nil', go_sem, Φa, hP, h7_7, h7_1, h7_3] at hT8
              obtain ⟨h8_1, h8_3, h8_7, h8_50⟩ := hT8
              clear h7_7 h7_1 h7_3 T7
              refine SX.cond_k fun X26 Y26 hX26 hY26 => ?_
              simp (maxSteps:=1000000)(dsimp:=false)(disch:=omega) only [go_sem, Φa, hP, h8_1, h8_3, h8_7, h8_50, condVC]
              refine hY26 ?_
              clear hX26 hY26 X26 Y26
              refine SX.skip ?_
              try simp only [andThen_normal, andThen_ret, andThen_exit, inBlk_normal, inBlk_ret, inBlk_exit, Nat.reduceEqDiff, if_true, if_false, ↓reduceIte]
              refine hK24 _ _ ?_
              try clear hK24 K24
              refine SX.region_d [some 44, some 45, some 7] rfl (fun ops hops => ?_)
              unfold Dsts at hops
              simp (maxSteps:=1000000)(dsimp:=false)(disch:=omega) only [go_sem, Φa, hP, h8_1, h8_3, h8_7, h8_50, hops]
              repeat' ((first | refine And.intro (by omega) ?_ | fail); try (with_reducible refine stI ?_); try simp (maxSteps:=1000000)(dsimp:=false)(disch:=omega) only [go_sem, Φa, hP, h8_1, h8_3, h8_7, h8_50, hops])
              refine hK20 (k + 1) _ (some (b0, .cells (g.cells (.slice A1 g.st.length c1) (.slice A2 g.pg.length c2) (.slice A3 g.mm.length c3)).toArray 29 (0, 0)) :: s1 :: fillS .u8 119 s2 c2 :: fillS .u8 136 s3 c3 :: L) _ (by simp only [hs2, hA2, fillS_some]; exact Less.refl _) ?_ ?_
              · try dsimp only
                refine ⟨?_, ?_, ?_, ?_, ?_⟩
                · simp (maxSteps:=1000000)(dsimp:=false)(disch:=omega) only [go_sem, Φa, hP, h8_1, h8_3, h8_7, h8_50]
                  first | done | rfl | skip
                · simp (maxSteps:=1000000)(dsimp:=false)(disch:=omega) only [go_sem, Φa, hP, h8_1, h8_3, h8_7, h8_50]
                · simp (maxSteps:=1000000)(dsimp:=false)(disch:=omega) only [go_sem, Φa, hP, h8_1, h8_3, h8_7, h8_50]
                · rfl
                · omega
              · (try dsimp only); omega
            · clear hX23 hY23 X23 Y23
              refine SX.exit ?_
              try simp only [andThen_normal, andThen_ret, andThen_exit, inBlk_normal, inBlk_ret, inBlk_exit, Nat.reduceEqDiff, if_true, if_false, ↓reduceIte]
              refine hK18 _ _ ?_
              try clear hK18 K18
              refine SX.seq_k fun K27 hK27 => ?_
              refine SX.region_d [some 51, some 52, some 53, some 54, some 55, some 56, some 8] rfl (fun ops hops => ?_)
              unfold Dsts at hops
              simp (maxSteps:=1000000)(dsimp:=false)(disch:=omega) only [go_sem, Φa, hP, h7_7, h7_1, h7_3, hops, cutA0, Nat.sub_zero]
              refine ⟨_, Cell.at 0 rfl rfl, ?_⟩
              try with_reducible refine stI ?_
              try simp (maxSteps:=1000000)(dsimp:=false)(disch:=omega) only [go_sem, Φa, hP, h7_7, h7_1, h7_3, hops, cutA0, Nat.sub_zero]
              refine ⟨_, Cell.at 0 rfl rfl, ?_⟩
              try with_reducible refine stI ?_
              try simp (maxSteps:=1000000)(dsimp:=false)(disch:=omega) only [go_sem, Φa, hP, h7_7, h7_1, h7_3, hops, cutA0, Nat.sub_zero]
              refine hK27 _ _ ?_
              try clear hK27 K27
              refine SX.live [8] (fun T9 hT9 => ?_)
              simp only [forall_mem_cons', forall_mem_nil', go_sem, Φa, hP, h7_7, h7_1, h7_3] at hT9
              have h9_8 := hT9; clear hT9
              clear h7_7 h7_1 h7_3 T7
              refine SX.seq_k fun K28 hK28 => ?_
              refine SX.seq_k fun K29 hK29 => ?_
              refine SX.region_d [some 9] rfl (fun ops hops => ?_)
              unfold Dsts at hops
              simp (maxSteps:=1000000)(dsimp:=false)(disch:=omega) only [go_sem, Φa, hP, h9_8, hops]
              refine hK29 _ _ ?_
              try clear hK29 K29
              refine SX.block ?_
              refine SX.live [8, 9] (fun T10 hT10 => ?_)
              simp only [forall_mem_cons', forall_mem_nil', go_sem, Φa, hP, h9_8] at hT10
              obtain ⟨h10_8, h10_9⟩ := hT10
              clear h9_8 T9
              refine SX.loop_k (fun (ss : (Nat)) T L' => (fun (k : Nat) => T 9 = .int .i64 (k : Int) ∧ T 8 = T10 8 ∧ L' = some (b0, .cells (g.cells (.slice A1 g.st.length c1) (.slice A2 g.pg.length c2) (.slice A3 g.mm.length c3)).toArray 29 (0, 0)) :: fillS .u16 39321 s1 k :: fillS .u8 119 s2 c2 :: fillS .u8 136 s3 c3 :: L ∧ (k ≤ c1)) (ss)) (fun (ss : (Nat)) => (fun (k : Nat) => c1 - k) (ss)) 0 ?_ ?_
              · try dsimp only
                refine ⟨?_, ?_, ?_, ?_⟩
                · first | exact h10_9 | (rw [h10_9]; rfl) | (rw [h10_9]; simp; done)
                · rfl
                · simp only [fillS_zero]
                · exact Nat.zero_le _
              · intro k T11 L11 hI K30 hK30
                try dsimp only at hI hK30
                simp only [h10_8] at hI hK30
                obtain ⟨h11_9, h11_8, hL11, hk⟩ := hI
                replace hL11 := hL11.symm
                subst hL11
                clear h10_8 h10_9 T10
                refine SX.seq_k fun K31 hK31 => ?_
                refine SX.seq_k fun K32 hK32 => ?_
                refine SX.region_d [some 57, some 58, some 59, some 60] rfl (fun ops hops => ?_)
                unfold Dsts at hops
                simp (maxSteps:=1000000)(dsimp:=false)(disch:=omega) only [go_sem, Φa, hP, h11_9, h11_8, hops]
                repeat' ((first | refine And.intro (by omega) ?_ | fail); try (with_reducible refine stI ?_); try simp (maxSteps:=1000000)(dsimp:=false)(disch:=omega) only [go_sem, Φa, hP, h11_9, h11_8, hops])
                refine hK32 _ _ ?_
                try clear hK32 K32
                refine SX.cond_k fun X33 Y33 hX33 hY33 => ?_
                simp (maxSteps:=1000000)(dsimp:=false)(disch:=omega) only [go_sem, Φa, hP, h11_9, h11_8, condVC]
                refine ⟨fun hc60 => hX33 ?_, fun hc60 => hY33 ?_⟩
                · clear hX33 hY33 X33 Y33
                  refine SX.skip ?_
                  try simp only [andThen_normal, andThen_ret, andThen_exit, inBlk_normal, inBlk_ret, inBlk_exit, Nat.reduceEqDiff, if_true, if_false, ↓reduceIte]
                  refine hK31 _ _ ?_
                  try clear hK31 K31
                  refine SX.seq_k fun K34 hK34 => ?_
                  refine SX.block ?_
                  obtain ⟨r1, xs1, hA1, hs1, hxl1⟩ := hcp1 (by omega)
                  rw [hs1, fillS_some]
                  refine SX.region_d [some 63, some 64, some 65, none] rfl (fun ops hops => ?_)
                  unfold Dsts at hops
                  simp (maxSteps:=1000000)(dsimp:=false)(disch:=omega) only [go_sem, Φa, hP, h11_9, h11_8, hops, hA1]
                  refine ⟨1, _, _, _, rfl, (by simp [ints_length]; omega), .inr (Nat.zero_le _), ?_⟩
                  try with_reducible refine stI ?_
                  try simp (maxSteps:=1000000)(dsimp:=false)(disch:=omega) only [go_sem, Φa, hP, h11_9, h11_8, hops, hA1]
                  rw [over_set .u16 39321 _ _ (by omega)]
                  refine hK34 _ _ ?_
                  try clear hK34 K34
                  refine SX.region_d [some 61, some 62, some 9] rfl (fun ops hops => ?_)
                  unfold Dsts at hops
                  simp (maxSteps:=1000000)(dsimp:=false)(disch:=omega) only [go_sem, Φa, hP, h11_9, h11_8, hops]
                  repeat' ((first | refine And.intro (by omega) ?_ | fail); try (with_reducible refine stI ?_); try simp (maxSteps:=1000000)(dsimp:=false)(disch:=omega) only [go_sem, Φa, hP, h11_9, h11_8, hops])
                  refine hK30 (k + 1) _ (some (b0, .cells (g.cells (.slice A1 g.st.length c1) (.slice A2 g.pg.length c2) (.slice A3 g.mm.length c3)).toArray 29 (0, 0)) :: fillS .u16 39321 s1 ((k + 1)) :: fillS .u8 119 s2 c2 :: fillS .u8 136 s3 c3 :: L) _ (by simp only [hs1, hA1, fillS_some]; exact Less.refl _) ?_ ?_
                  · try dsimp only
                    refine ⟨?_, ?_, ?_, ?_⟩
                    · simp (maxSteps:=1000000)(dsimp:=false)(disch:=omega) only [go_sem, Φa, hP, h11_9, h11_8]
                      first | done | rfl | skip
                    · simp (maxSteps:=1000000)(dsimp:=false)(disch:=omega) only [go_sem, Φa, hP, h11_9, h11_8]
                    · rfl
                    · omega
                  · (try dsimp only); omega
                · clear hX33 hY33 X33 Y33
                  refine SX.exit ?_
                  try simp only [andThen_normal, andThen_ret, andThen_exit, inBlk_normal, inBlk_ret, inBlk_exit, Nat.reduceEqDiff, if_true, if_false, ↓reduceIte]
                  refine hK28 _ _ ?_
                  try clear hK28 K28
                  refine SX.seq_k fun K35 hK35 => ?_
                  refine SX.region_d [some 2] rfl (fun ops hops => ?_)
                  unfold Dsts at hops
                  simp (maxSteps:=1000000)(dsimp:=false)(disch:=omega) only [go_sem, Φa, hP, h11_9, h11_8, hops]
                  refine hK35 _ _ ?_
                  try clear hK35 K35
                  refine SX.ret ?_
                  simp only [andThen_normal, andThen_ret, andThen_exit, inBlk_normal, inBlk_ret, inBlk_exit, Nat.reduceEqDiff, if_true, if_false, ↓reduceIte, retQ_ret]
                  try simp only [res0, res1, res2, res3, stK_e, go_sem, Φa, hP, h11_9, h11_8]
                  exact ⟨_, _, Less.drops (Less.drops (Less.drops (Less.drop _ _))), rfl, rfl, rfl⟩

end Go.Proofs.Ytgioegdjeodpiaa
set_option linter.unusedVariables false
set_option linter.unusedSimpArgs false
namespace Go.Proofs.Ytgioegdjeodpiaa
open Go.RowKit Go.SX
open Go.SX renaming ia_someH → Φa

theorem eqT_25 : EqT Try.prog 25 [.i .u8, .i .u8, .i .u8, .i .u8, .i .u8, .i .u8, .i .u8, .i .u8, .i .u8, .i .u8, .i .u8, .i .u8, .i .u8, .i .u8, .i .u8, .i .u8] := ⟨by kernel_rfl, by kernel_rfl, by kernel_rfl, by kernel_rfl, by kernel_rfl⟩
theorem okV_V {g : GM} (h : OkG g) : okVs [.i .u8, .i .u8, .i .u8, .i .u8, .i .u8, .i .u8, .i .u8, .i .u8, .i .u8, .i .u8, .i .u8, .i .u8, .i .u8, .i .u8, .i .u8, .i .u8] [.int .u8 (g.V.getD 0 0), .int .u8 (g.V.getD 1 0), .int .u8 (g.V.getD 2 0), .int .u8 (g.V.getD 3 0), .int .u8 (g.V.getD 4 0), .int .u8 (g.V.getD 5 0), .int .u8 (g.V.getD 6 0), .int .u8 (g.V.getD 7 0), .int .u8 (g.V.getD 8 0), .int .u8 (g.V.getD 9 0), .int .u8 (g.V.getD 10 0), .int .u8 (g.V.getD 11 0), .int .u8 (g.V.getD 12 0), .int .u8 (g.V.getD 13 0), .int .u8 (g.V.getD 14 0), .int .u8 (g.V.getD 15 0)] = true := by
  have hb := byte_at h.Vb
  simp only [okVs, okV, wf_u8, hb, decide_true, Bool.and_self, and_self, Bool.and_true, beq_self_eq_true, Bool.true_and]
theorem sixteen {l m : List Int} (hl : l.length = 16) (hm : m.length = 16) (h : ∀ j, j < 16 → l.getD j 0 = m.getD j 0) : l = m := list_eq_of (by omega) fun j hj => by
  have := h j (by omega)
  rw [List.getD_eq_getElem?_getD, List.getD_eq_getElem?_getD, List.getElem?_eq_getElem hj, List.getElem?_eq_getElem (by omega)] at this
  rw [List.getElem?_eq_getElem hj, List.getElem?_eq_getElem (by omega)]
  simpa using this
theorem vEq {a b : GM} (ha : a.V.length = 16) (hb : b.V.length = 16) {r : Bool} (hr : r = true ↔ ([.int .u8 (a.V.getD 0 0), .int .u8 (a.V.getD 1 0), .int .u8 (a.V.getD 2 0), .int .u8 (a.V.getD 3 0), .int .u8 (a.V.getD 4 0), .int .u8 (a.V.getD 5 0), .int .u8 (a.V.getD 6 0), .int .u8 (a.V.getD 7 0), .int .u8 (a.V.getD 8 0), .int .u8 (a.V.getD 9 0), .int .u8 (a.V.getD 10 0), .int .u8 (a.V.getD 11 0), .int .u8 (a.V.getD 12 0), .int .u8 (a.V.getD 13 0), .int .u8 (a.V.getD 14 0), .int .u8 (a.V.getD 15 0)] : List Value).map litV = ([.int .u8 (b.V.getD 0 0), .int .u8 (b.V.getD 1 0), .int .u8 (b.V.getD 2 0), .int .u8 (b.V.getD 3 0), .int .u8 (b.V.getD 4 0), .int .u8 (b.V.getD 5 0), .int .u8 (b.V.getD 6 0), .int .u8 (b.V.getD 7 0), .int .u8 (b.V.getD 8 0), .int .u8 (b.V.getD 9 0), .int .u8 (b.V.getD 10 0), .int .u8 (b.V.getD 11 0), .int .u8 (b.V.getD 12 0), .int .u8 (b.V.getD 13 0), .int .u8 (b.V.getD 14 0), .int .u8 (b.V.getD 15 0)] : List Value).map litV) : r = decide (a.V = b.V) := by
  rw [Bool.eq_iff_iff, hr, decide_eq_true_eq]
  simp only [litV, List.map_cons, List.map_nil, List.cons.injEq, Lit.int.injEq, true_and, and_true]
  constructor
  · rintro ⟨h0, h1, h2, h3, h4, h5, h6, h7, h8, h9, h10, h11, h12, h13, h14, h15⟩
    refine sixteen ha hb fun j hj => ?_
    match j, hj with
    | 0, _ => exact h0
    | 1, _ => exact h1
    | 2, _ => exact h2
    | 3, _ => exact h3
    | 4, _ => exact h4
    | 5, _ => exact h5
    | 6, _ => exact h6
    | 7, _ => exact h7
    | 8, _ => exact h8
    | 9, _ => exact h9
    | 10, _ => exact h10
    | 11, _ => exact h11
    | 12, _ => exact h12
    | 13, _ => exact h13
    | 14, _ => exact h14
    | 15, _ => exact h15
    | n + 16, h => omega
  · intro h
    rw [h]
    exact ⟨rfl, rfl, rfl, rfl, rfl, rfl, rfl, rfl, rfl, rfl, rfl, rfl, rfl, rfl, rfl, rfl⟩
def sameB (a b : GM) : Bool := decide (a.st = b.st) && (decide (a.V = b.V) && decide (a.I = b.I) && decide (a.PC = b.PC) && decide (a.dl = b.dl) && decide (a.sd = b.sd) && decide (a.pg = b.pg) && decide (a.mm = b.mm))
theorem sameB_iff {a b : GM} : sameB a b = true ↔ a = b := by
  unfold sameB
  simp only [Bool.and_eq_true, decide_eq_true_eq]
  constructor
  · rintro ⟨h1, ⟨⟨⟨⟨⟨⟨h2, h3⟩, h4⟩, h5⟩, h6⟩, h7⟩, h8⟩⟩
    cases a; cases b; simp_all
  · rintro rfl
    simp
theorem sameB_self (g : GM) : sameB g g = true := sameB_iff.2 rfl
theorem txtEq {l m : List Int} (hl : Byte l) (hm : Byte m) : (txt l = txt m) = (l = m) := propext ⟨txt_inj hl hm, fun h => by rw [h]⟩
theorem sameB_st {a b : GM} (h : ¬ a.st = b.st) : sameB a b = false := by
  unfold sameB
  rw [decide_eq_false h, Bool.false_and]
theorem st_eq {l m : List Int} (h : l.length = m.length) (he : ∀ j, j < l.length → l.getD j 0 = m.getD j 0) : l = m := list_eq_of h fun j hj => by
  have := he j hj
  rw [List.getD_eq_getElem?_getD, List.getD_eq_getElem?_getD, List.getElem?_eq_getElem hj, List.getElem?_eq_getElem (by omega)] at this
  rw [List.getElem?_eq_getElem hj, List.getElem?_eq_getElem (by omega)]
  simpa using this
set_option maxHeartbeats 1000000 in
set_option maxRecDepth 100000 in
theorem Same_spec {Γ : Ctx} (hP : Γ.P = Try.prog) {L : Hp} {a b : GM} {sa pa ma sb pb mb : Value} (ha : OkG a) (hb : OkG b) (hs : SlI .u16 (Cell Γ L) sa a.st) (hp : SlI .u8 (Cell Γ L) pa a.pg) (hm : SlI .u8 (Cell Γ L) ma a.mm) (ks : SlI .u16 (Cell Γ L) sb b.st) (kp : SlI .u8 (Cell Γ L) pb b.pg) (km : SlI .u8 (Cell Γ L) mb b.mm) (hsl : a.st.length ≤ 2147483647) (ksl : b.st.length ≤ 2147483647) :
    SCall Γ 16 #[(.agg (a.cells sa pa ma).toArray), (.agg (b.cells sb pb mb).toArray)] L (fun v L' => v = .bool (sameB a b) ∧ L' = L) := by
  obtain ⟨As, cs, rfl, hcs⟩ := slShape hs
  obtain ⟨Ap, cp, rfl, hcp⟩ := slShape hp
  obtain ⟨Am, cm, rfl, hcm⟩ := slShape hm
  obtain ⟨Bs, ds, rfl, kcs⟩ := slShape ks
  obtain ⟨Bp, dp, rfl, kcp⟩ := slShape kp
  obtain ⟨Bm, dm, rfl, kcm⟩ := slShape km
  have haI := ha.I
  have hbI := hb.I
  obtain ⟨As', cs', he1, hc1, hA1⟩ := id hs
  obtain ⟨Bs', ds', ke1, kc1, kA1⟩ := id ks
  refine SCall.enter (n := 82) (res1 4) (hP ▸ Try.func16) rfl rfl (by simp) (res1_ok rfl) ?_
  refine SX.seq_k fun K1 hK1 => ?_
  refine SX.region_d [some 2, some 3, some 4] rfl (fun ops hops => ?_)
  unfold Dsts at hops
  simp (maxSteps:=1000000)(dsimp:=false)(disch:=omega) only [go_sem, Φa, hP, hops]
  intro g0
  try with_reducible refine stI ?_
  try simp (maxSteps:=1000000)(dsimp:=false)(disch:=omega) only [go_sem, Φa, hP, hops]
  intro g1
  try with_reducible refine stI ?_
  try simp (maxSteps:=1000000)(dsimp:=false)(disch:=omega) only [go_sem, Φa, hP, hops]
  refine hK1 _ _ ?_
  try clear hK1 K1
  refine SX.seq_k fun K2 hK2 => ?_
  refine SX.seq_k fun K3 hK3 => ?_
  refine SX.region_d [some 6, some 7, some 8, some 9, some 10, some 11, some 12] rfl (fun ops hops => ?_)
  unfold Dsts at hops
  simp (maxSteps:=1000000)(dsimp:=false)(disch:=omega) only [go_sem, Φa, hP, hops]
  refine ⟨_, Cell.at 1 rfl (show (a.cells _ _ _)[18]? = _ from rfl), ?_⟩
  try with_reducible refine stI ?_
  try simp (maxSteps:=1000000)(dsimp:=false)(disch:=omega) only [go_sem, Φa, hP, hops]
  refine ⟨_, Cell.at 0 rfl (show (b.cells _ _ _)[18]? = _ from rfl), ?_⟩
  try with_reducible refine stI ?_
  try simp (maxSteps:=1000000)(dsimp:=false)(disch:=omega) only [go_sem, Φa, hP, hops]
  refine hK3 _ _ ?_
  try clear hK3 K3
  refine SX.live [2, 3, 12] (fun T1 hT1 => ?_)
  simp only [forall_mem_cons', forall_mem_nil', go_sem, Φa, hP] at hT1
  obtain ⟨h1_2, h1_3, h1_12⟩ := hT1
  refine SX.cond_k fun X4 Y4 hX4 hY4 => ?_
  simp (maxSteps:=1000000)(dsimp:=false)(disch:=omega) only [go_sem, Φa, hP, h1_2, h1_3, h1_12, condVC]
  refine ⟨fun hc12 => hX4 ?_, fun hc12 => hY4 ?_⟩
  · clear hX4 hY4 X4 Y4
    refine SX.seq_k fun K5 hK5 => ?_
    refine SX.region_d [some 4] rfl (fun ops hops => ?_)
    unfold Dsts at hops
    simp (maxSteps:=1000000)(dsimp:=false)(disch:=omega) only [go_sem, Φa, hP, h1_2, h1_3, h1_12, hops]
    refine hK5 _ _ ?_
    try clear hK5 K5
    refine SX.ret ?_
    simp only [andThen_normal, andThen_ret, andThen_exit, inBlk_normal, inBlk_ret, inBlk_exit, Nat.reduceEqDiff, if_true, if_false, ↓reduceIte, retQ_ret]
    try simp only [res0, res1, res2, res3, stK_e, go_sem, Φa, hP, h1_2, h1_3, h1_12]
    refine ⟨_, _, Less.drops (Less.drop _ _), rfl, ?_, rfl⟩
    rw [sameB_st (fun h => hc12 (by rw [h]))]
  · clear hX4 hY4 X4 Y4
    refine SX.skip ?_
    try simp only [andThen_normal, andThen_ret, andThen_exit, inBlk_normal, inBlk_ret, inBlk_exit, Nat.reduceEqDiff, if_true, if_false, ↓reduceIte]
    refine hK2 _ _ ?_
    try clear hK2 K2
    refine SX.seq_k fun K6 hK6 => ?_
    refine SX.seq_k fun K7 hK7 => ?_
    refine SX.region_d [some 5] rfl (fun ops hops => ?_)
    unfold Dsts at hops
    simp (maxSteps:=1000000)(dsimp:=false)(disch:=omega) only [go_sem, Φa, hP, h1_2, h1_3, h1_12, hops]
    refine hK7 _ _ ?_
    try clear hK7 K7
    refine SX.block ?_
    refine SX.live [2, 3, 5] (fun T2 hT2 => ?_)
    simp only [forall_mem_cons', forall_mem_nil', go_sem, Φa, hP, h1_2, h1_3, h1_12] at hT2
    obtain ⟨h2_2, h2_3, h2_5⟩ := hT2
    clear h1_2 h1_3 h1_12 T1
    refine SX.loop_k (fun (ss : (Nat)) T L' => (fun (k : Nat) => T 5 = .int .i64 (k : Int) ∧ T 2 = T2 2 ∧ T 3 = T2 3 ∧ L' = some (g1, .cells (b.cells (.slice Bs b.st.length ds) (.slice Bp b.pg.length dp) (.slice Bm b.mm.length dm)).toArray 29 (0, 0)) :: some (g0, .cells (a.cells (.slice As a.st.length cs) (.slice Ap a.pg.length cp) (.slice Am a.mm.length cm)).toArray 29 (0, 0)) :: L ∧ (k ≤ a.st.length ∧ ∀ j, j < k → a.st.getD j 0 = b.st.getD j 0)) (ss)) (fun (ss : (Nat)) => (fun (k : Nat) => a.st.length - k) (ss)) 0 ?_ ?_
    · try dsimp only
      refine ⟨?_, ?_, ?_, ?_, ?_⟩
      · first | exact h2_5 | (rw [h2_5]; rfl) | (rw [h2_5]; simp; done)
      · rfl
      · rfl
      · rfl
      · exact ⟨Nat.zero_le _, fun j hj => absurd hj (Nat.not_lt_zero _)⟩
    · intro k T3 L3 hI K8 hK8
      try dsimp only at hI hK8
      simp only [h2_2, h2_3] at hI hK8
      obtain ⟨h3_5, h3_2, h3_3, hL3, ⟨hk, hin⟩⟩ := hI
      replace hL3 := hL3.symm
      subst hL3
      clear h2_2 h2_3 h2_5 T2
      refine SX.seq_k fun K9 hK9 => ?_
      refine SX.seq_k fun K10 hK10 => ?_
      refine SX.region_d [some 13, some 14, some 15, some 16, some 17] rfl (fun ops hops => ?_)
      unfold Dsts at hops
      simp (maxSteps:=1000000)(dsimp:=false)(disch:=omega) only [go_sem, Φa, hP, h3_5, h3_2, h3_3, hops]
      refine ⟨_, Cell.at 1 rfl (show (a.cells _ _ _)[18]? = _ from rfl), ?_⟩
      try with_reducible refine stI ?_
      try simp (maxSteps:=1000000)(dsimp:=false)(disch:=omega) only [go_sem, Φa, hP, h3_5, h3_2, h3_3, hops]
      refine hK10 _ _ ?_
      try clear hK10 K10
      refine SX.cond_k fun X11 Y11 hX11 hY11 => ?_
      simp (maxSteps:=1000000)(dsimp:=false)(disch:=omega) only [go_sem, Φa, hP, h3_5, h3_2, h3_3, condVC]
      refine ⟨fun hc17 => hX11 ?_, fun hc17 => hY11 ?_⟩
      · clear hX11 hY11 X11 Y11
        refine SX.skip ?_
        try simp only [andThen_normal, andThen_ret, andThen_exit, inBlk_normal, inBlk_ret, inBlk_exit, Nat.reduceEqDiff, if_true, if_false, ↓reduceIte]
        refine hK9 _ _ ?_
        try clear hK9 K9
        refine SX.seq_k fun K12 hK12 => ?_
        refine SX.block ?_
        refine SX.seq_k fun K13 hK13 => ?_
        have hkl : k < a.st.length := by omega
        have hkm : k < b.st.length := by omega
        have he2 : As = As' := by injection he1
        have ke2 : Bs = Bs' := by injection ke1
        obtain ⟨a1, e1, hm1⟩ := hA1 k _ (getD_some hkl)
        obtain ⟨a2, e2, hm2⟩ := kA1 k _ (getD_some hkm)
        rw [← he2] at e1
        rw [← ke2] at e2
        rw [Nat.mul_one] at hm1 hm2
        change Cell Γ _ _ (.int .u16 _) at hm1
        change Cell Γ _ _ (.int .u16 _) at hm2
        refine SX.quiet_d (hP ▸ T.mixed) (by kernel_rfl) [some 20, some 21, some 22, some 23, some 24, some 25, some 26, some 27, some 28, some 29, some 30] rfl (fun ops hops => ?_)
        unfold Dsts at hops
        simp (maxSteps:=1000000)(dsimp:=false)(disch:=omega) only [go_sem, Φa, hP, h3_5, h3_2, h3_3, hops, e1, e2]
        refine ⟨_, Cell.at 1 rfl (show (a.cells _ _ _)[18]? = _ from rfl), ?_⟩
        try with_reducible refine stI ?_
        try simp (maxSteps:=1000000)(dsimp:=false)(disch:=omega) only [go_sem, Φa, hP, h3_5, h3_2, h3_3, hops, e1, e2]
        refine ⟨_, Cell.cons _ (Cell.cons _ hm1), ?_⟩
        try with_reducible refine stI ?_
        try simp (maxSteps:=1000000)(dsimp:=false)(disch:=omega) only [go_sem, Φa, hP, h3_5, h3_2, h3_3, hops, e1, e2]
        refine ⟨_, Cell.at 0 rfl (show (b.cells _ _ _)[18]? = _ from rfl), ?_⟩
        try with_reducible refine stI ?_
        try simp (maxSteps:=1000000)(dsimp:=false)(disch:=omega) only [go_sem, Φa, hP, h3_5, h3_2, h3_3, hops, e1, e2]
        refine ⟨_, Cell.cons _ (Cell.cons _ hm2), ?_⟩
        try with_reducible refine stI ?_
        try simp (maxSteps:=1000000)(dsimp:=false)(disch:=omega) only [go_sem, Φa, hP, h3_5, h3_2, h3_3, hops, e1, e2]
        refine hK13 _ _ ?_
        try clear hK13 K13
        refine SX.live [2, 3, 5, 30] (fun T4 hT4 => ?_)
        simp only [forall_mem_cons', forall_mem_nil', go_sem, Φa, hP, h3_5, h3_2, h3_3] at hT4
        obtain ⟨h4_2, h4_3, h4_5, h4_30⟩ := hT4
        clear h3_5 h3_2 h3_3 T3
        refine SX.cond_k fun X14 Y14 hX14 hY14 => ?_
        simp (maxSteps:=1000000)(dsimp:=false)(disch:=omega) only [go_sem, Φa, hP, h4_2, h4_3, h4_5, h4_30, condVC]
        refine ⟨fun hc30 => hX14 ?_, fun hc30 => hY14 ?_⟩
        · clear hX14 hY14 X14 Y14
          refine SX.seq_k fun K15 hK15 => ?_
          refine SX.region_d [some 4] rfl (fun ops hops => ?_)
          unfold Dsts at hops
          simp (maxSteps:=1000000)(dsimp:=false)(disch:=omega) only [go_sem, Φa, hP, h4_2, h4_3, h4_5, h4_30, hops]
          refine hK15 _ _ ?_
          try clear hK15 K15
          refine SX.ret ?_
          simp only [andThen_normal, andThen_ret, andThen_exit, inBlk_normal, inBlk_ret, inBlk_exit, Nat.reduceEqDiff, if_true, if_false, ↓reduceIte, retQ_ret]
          try simp only [res0, res1, res2, res3, stK_e, go_sem, Φa, hP, h4_2, h4_3, h4_5, h4_30]
          refine ⟨_, _, Less.drops (Less.drop _ _), rfl, ?_, rfl⟩
          rw [sameB_st (fun h => hc30 (by rw [h]))]
        · clear hX14 hY14 X14 Y14
          refine SX.skip ?_
          try simp only [andThen_normal, andThen_ret, andThen_exit, inBlk_normal, inBlk_ret, inBlk_exit, Nat.reduceEqDiff, if_true, if_false, ↓reduceIte]
          refine hK12 _ _ ?_
          try clear hK12 K12
          refine SX.region_d [some 18, some 19, some 5] rfl (fun ops hops => ?_)
          unfold Dsts at hops
          simp (maxSteps:=1000000)(dsimp:=false)(disch:=omega) only [go_sem, Φa, hP, h4_2, h4_3, h4_5, h4_30, hops]
          repeat' ((first | refine And.intro (by omega) ?_ | fail); try (with_reducible refine stI ?_); try simp (maxSteps:=1000000)(dsimp:=false)(disch:=omega) only [go_sem, Φa, hP, h4_2, h4_3, h4_5, h4_30, hops])
          refine hK8 (k + 1) _ (some (g1, .cells (b.cells (.slice Bs b.st.length ds) (.slice Bp b.pg.length dp) (.slice Bm b.mm.length dm)).toArray 29 (0, 0)) :: some (g0, .cells (a.cells (.slice As a.st.length cs) (.slice Ap a.pg.length cp) (.slice Am a.mm.length cm)).toArray 29 (0, 0)) :: L) _ (by simp only [e1, e2]; exact Less.refl _) ?_ ?_
          · try dsimp only
            refine ⟨?_, ?_, ?_, ?_, ?_⟩
            · simp (maxSteps:=1000000)(dsimp:=false)(disch:=omega) only [go_sem, Φa, hP, h4_2, h4_3, h4_5, h4_30]
              first | done | rfl | skip
            · simp (maxSteps:=1000000)(dsimp:=false)(disch:=omega) only [go_sem, Φa, hP, h4_2, h4_3, h4_5, h4_30]
            · simp (maxSteps:=1000000)(dsimp:=false)(disch:=omega) only [go_sem, Φa, hP, h4_2, h4_3, h4_5, h4_30]
            · rfl
            · refine ⟨by omega, fun j hj => ?_⟩
              rcases Nat.lt_succ_iff_lt_or_eq.1 hj with h | rfl
              · exact hin j h
              · first | exact hc30 | omega
          · (try dsimp only); omega
      · clear hX11 hY11 X11 Y11
        refine SX.exit ?_
        try simp only [andThen_normal, andThen_ret, andThen_exit, inBlk_normal, inBlk_ret, inBlk_exit, Nat.reduceEqDiff, if_true, if_false, ↓reduceIte]
        refine hK6 _ _ ?_
        try clear hK6 K6
        refine SX.seq_k fun K16 hK16 => ?_
        refine SX.region_xd [some 31, some 32, some 33, some 34, some 35, some 36, some 37, some 38, some 39, some 40, some 41, some 42, some 43, some 44, some 45, some 46, some 47, some 48, some 49, some 50, some 51, some 52, some 53, some 54, some 55, some 56, some 57, some 58, some 59, some 60, some 61, some 62, some 63, some 64, some 65, some 66, some 67, some 68, some 69, some 70, some 71, some 72, some 73, some 74, some 75, some 76, some 77, some 78, some 79, some 80, some 81, some 4] rfl (fun ops hops => ?_)
        unfold Dsts at hops
        refine RX.live [2, 3] (fun T5 hT5 => ?_)
        simp only [forall_mem_cons', forall_mem_nil', go_sem, Φa, hP, h3_5, h3_2, h3_3] at hT5
        obtain ⟨h5_2, h5_3⟩ := hT5
        clear h3_5 h3_2 h3_3 T3
        refine RX.join 12 (fun (ss : Unit) T L' => T 42 = .bool (decide (a.V = b.V) && decide (a.I = b.I)) ∧ T 2 = T5 2 ∧ T 3 = T5 3 ∧ L' = some (g1, .cells (b.cells (.slice Bs b.st.length ds) (.slice Bp b.pg.length dp) (.slice Bm b.mm.length dm)).toArray 29 (0, 0)) :: some (g0, .cells (a.cells (.slice As a.st.length cs) (.slice Ap a.pg.length cp) (.slice Am a.mm.length cm)).toArray 29 (0, 0)) :: L ∧ (True)) (fun K17 hK17 => ?_) ?_
        · simp only [h5_2, h5_3] at hK17
          simp (maxSteps:=1000000)(dsimp:=false)(disch:=omega) only [go_sem, Φa, hP, h5_2, h5_3, hops]
          repeat' (first | refine iteB (fun hg => ?_) (fun hg => ?_) | refine iteI (fun hg => ?_) (fun hg => ?_) | ((first | (refine aggEq_of eqT_25 (okV_V ha) (okV_V hb) (fun r hr => ?_); obtain rfl := vEq ha.V hb.V hr) | refine cv_row (hP ▸ Try.underlying23) (hP ▸ Try.underlying9) (hP ▸ Try.underlying5) (SlI.cons _ (SlI.cons _ hp)) ha.pg ?_ | refine conv_row (hP ▸ Try.underlying23) (hP ▸ Try.underlying9) (hP ▸ Try.underlying5) (SlI.cons _ (SlI.cons _ hp)) ha.pg ?_ | refine cv_row (hP ▸ Try.underlying23) (hP ▸ Try.underlying9) (hP ▸ Try.underlying5) (SlI.cons _ (SlI.cons _ kp)) hb.pg ?_ | refine conv_row (hP ▸ Try.underlying23) (hP ▸ Try.underlying9) (hP ▸ Try.underlying5) (SlI.cons _ (SlI.cons _ kp)) hb.pg ?_ | refine cv_row (hP ▸ Try.underlying23) (hP ▸ Try.underlying9) (hP ▸ Try.underlying5) (SlI.cons _ (SlI.cons _ hm)) ha.mm ?_ | refine conv_row (hP ▸ Try.underlying23) (hP ▸ Try.underlying9) (hP ▸ Try.underlying5) (SlI.cons _ (SlI.cons _ hm)) ha.mm ?_ | refine cv_row (hP ▸ Try.underlying23) (hP ▸ Try.underlying9) (hP ▸ Try.underlying5) (SlI.cons _ (SlI.cons _ km)) hb.mm ?_ | refine conv_row (hP ▸ Try.underlying23) (hP ▸ Try.underlying9) (hP ▸ Try.underlying5) (SlI.cons _ (SlI.cons _ km)) hb.mm ?_ | refine And.intro (by omega) ?_ | refine ⟨_, Cell.at 0 rfl rfl, _, Cell.at 0 rfl rfl, _, Cell.at 0 rfl rfl, _, Cell.at 0 rfl rfl, _, Cell.at 0 rfl rfl, _, Cell.at 0 rfl rfl, _, Cell.at 0 rfl rfl, _, Cell.at 0 rfl rfl, _, Cell.at 0 rfl rfl, _, Cell.at 0 rfl rfl, _, Cell.at 0 rfl rfl, _, Cell.at 0 rfl rfl, _, Cell.at 0 rfl rfl, _, Cell.at 0 rfl rfl, _, Cell.at 0 rfl rfl, _, Cell.at 0 rfl rfl, ?_⟩ | refine ⟨_, Cell.at 1 rfl rfl, _, Cell.at 1 rfl rfl, _, Cell.at 1 rfl rfl, _, Cell.at 1 rfl rfl, _, Cell.at 1 rfl rfl, _, Cell.at 1 rfl rfl, _, Cell.at 1 rfl rfl, _, Cell.at 1 rfl rfl, _, Cell.at 1 rfl rfl, _, Cell.at 1 rfl rfl, _, Cell.at 1 rfl rfl, _, Cell.at 1 rfl rfl, _, Cell.at 1 rfl rfl, _, Cell.at 1 rfl rfl, _, Cell.at 1 rfl rfl, _, Cell.at 1 rfl rfl, ?_⟩ | refine ⟨_, Cell.at 0 rfl rfl, ?_⟩ | refine ⟨_, Cell.at 1 rfl rfl, ?_⟩ | fail); try (with_reducible refine stI ?_); try simp (maxSteps:=1000000)(dsimp:=false)(disch:=omega) only [go_sem, Φa, hP, h5_2, h5_3, hops]) | simp (maxSteps:=1000000)(dsimp:=false)(disch:=omega) only [go_sem, Φa, hP, h5_2, h5_3, hops] | fail)
          all_goals
            refine hK17 () _ (some (g1, .cells (b.cells (.slice Bs b.st.length ds) (.slice Bp b.pg.length dp) (.slice Bm b.mm.length dm)).toArray 29 (0, 0)) :: some (g0, .cells (a.cells (.slice As a.st.length cs) (.slice Ap a.pg.length cp) (.slice Am a.mm.length cm)).toArray 29 (0, 0)) :: L) _ (by first | exact Less.refl _ | exact Less.drop _ _ | exact Less.drops (Less.drop _ _) | exact Less.drops (Less.drops (Less.drop _ _)) | exact Less.drops (Less.drops (Less.drops (Less.drop _ _))) | exact Less.drops (Less.drops (Less.drops (Less.drops (Less.drop _ _))))) ?_
            try dsimp only
            refine ⟨?_, ?_, ?_, ?_, ?_⟩
            · simp (maxSteps:=1000000)(dsimp:=false)(disch:=omega) only [go_sem, Φa, hP, h5_2, h5_3]
              first | done | (refine congrArg Value.bool ?_; simp_all; done) | (refine congrArg Value.bool ?_; simp_all; omega)
            · simp (maxSteps:=1000000)(dsimp:=false)(disch:=omega) only [go_sem, Φa, hP, h5_2, h5_3]
            · simp (maxSteps:=1000000)(dsimp:=false)(disch:=omega) only [go_sem, Φa, hP, h5_2, h5_3]
            · rfl
            · trivial
        · intro ss T6 L6 hI
          simp only [h5_2, h5_3] at hI 
          obtain ⟨h6_42, h6_2, h6_3, hL6, hinv⟩ := hI
          replace hL6 := hL6.symm
          subst hL6
          clear h5_2 h5_3 T5
          refine RX.live [2, 3, 42] (fun T7 hT7 => ?_)
          simp only [forall_mem_cons', forall_mem_nil', go_sem, Φa, hP, h6_42, h6_2, h6_3] at hT7
          obtain ⟨h7_2, h7_3, h7_42⟩ := hT7
          clear h6_42 h6_2 h6_3 T6
          refine RX.join 7 (fun (ss : Unit) T L' => T 49 = .bool (decide (a.V = b.V) && decide (a.I = b.I) && decide (a.PC = b.PC)) ∧ T 2 = T7 2 ∧ T 3 = T7 3 ∧ L' = some (g1, .cells (b.cells (.slice Bs b.st.length ds) (.slice Bp b.pg.length dp) (.slice Bm b.mm.length dm)).toArray 29 (0, 0)) :: some (g0, .cells (a.cells (.slice As a.st.length cs) (.slice Ap a.pg.length cp) (.slice Am a.mm.length cm)).toArray 29 (0, 0)) :: L ∧ (True)) (fun K18 hK18 => ?_) ?_
          · simp only [h7_2, h7_3] at hK18
            simp (maxSteps:=1000000)(dsimp:=false)(disch:=omega) only [go_sem, Φa, hP, h7_2, h7_3, h7_42, hops]
            repeat' (first | refine iteB (fun hg => ?_) (fun hg => ?_) | refine iteI (fun hg => ?_) (fun hg => ?_) | ((first | (refine aggEq_of eqT_25 (okV_V ha) (okV_V hb) (fun r hr => ?_); obtain rfl := vEq ha.V hb.V hr) | refine cv_row (hP ▸ Try.underlying23) (hP ▸ Try.underlying9) (hP ▸ Try.underlying5) (SlI.cons _ (SlI.cons _ hp)) ha.pg ?_ | refine conv_row (hP ▸ Try.underlying23) (hP ▸ Try.underlying9) (hP ▸ Try.underlying5) (SlI.cons _ (SlI.cons _ hp)) ha.pg ?_ | refine cv_row (hP ▸ Try.underlying23) (hP ▸ Try.underlying9) (hP ▸ Try.underlying5) (SlI.cons _ (SlI.cons _ kp)) hb.pg ?_ | refine conv_row (hP ▸ Try.underlying23) (hP ▸ Try.underlying9) (hP ▸ Try.underlying5) (SlI.cons _ (SlI.cons _ kp)) hb.pg ?_ | refine cv_row (hP ▸ Try.underlying23) (hP ▸ Try.underlying9) (hP ▸ Try.underlying5) (SlI.cons _ (SlI.cons _ hm)) ha.mm ?_ | refine conv_row (hP ▸ Try.underlying23) (hP ▸ Try.underlying9) (hP ▸ Try.underlying5) (SlI.cons _ (SlI.cons _ hm)) ha.mm ?_ | refine cv_row (hP ▸ Try.underlying23) (hP ▸ Try.underlying9) (hP ▸ Try.underlying5) (SlI.cons _ (SlI.cons _ km)) hb.mm ?_ | refine conv_row (hP ▸ Try.underlying23) (hP ▸ Try.underlying9) (hP ▸ Try.underlying5) (SlI.cons _ (SlI.cons _ km)) hb.mm ?_ | refine And.intro (by omega) ?_ | refine ⟨_, Cell.at 0 rfl rfl, ?_⟩ | refine ⟨_, Cell.at 1 rfl rfl, ?_⟩ | fail); try (with_reducible refine stI ?_); try simp (maxSteps:=1000000)(dsimp:=false)(disch:=omega) only [go_sem, Φa, hP, h7_2, h7_3, h7_42, hops]) | simp (maxSteps:=1000000)(dsimp:=false)(disch:=omega) only [go_sem, Φa, hP, h7_2, h7_3, h7_42, hops] | fail)
            all_goals
              refine hK18 () _ (some (g1, .cells (b.cells (.slice Bs b.st.length ds) (.slice Bp b.pg.length dp) (.slice Bm b.mm.length dm)).toArray 29 (0, 0)) :: some (g0, .cells (a.cells (.slice As a.st.length cs) (.slice Ap a.pg.length cp) (.slice Am a.mm.length cm)).toArray 29 (0, 0)) :: L) _ (by first | exact Less.refl _ | exact Less.drop _ _ | exact Less.drops (Less.drop _ _) | exact Less.drops (Less.drops (Less.drop _ _)) | exact Less.drops (Less.drops (Less.drops (Less.drop _ _))) | exact Less.drops (Less.drops (Less.drops (Less.drops (Less.drop _ _))))) ?_
              try dsimp only
              refine ⟨?_, ?_, ?_, ?_, ?_⟩
              · simp (maxSteps:=1000000)(dsimp:=false)(disch:=omega) only [go_sem, Φa, hP, h7_2, h7_3, h7_42]
                first | done | (refine congrArg Value.bool ?_; simp_all; done) | (refine congrArg Value.bool ?_; simp_all; omega)
              · simp (maxSteps:=1000000)(dsimp:=false)(disch:=omega) only [go_sem, Φa, hP, h7_2, h7_3, h7_42]
              · simp (maxSteps:=1000000)(dsimp:=false)(disch:=omega) only [go_sem, Φa, hP, h7_2, h7_3, h7_42]
              · rfl
              · trivial
          · intro ss T8 L8 hI
            simp only [h7_2, h7_3] at hI 
            obtain ⟨h8_49, h8_2, h8_3, hL8, hinv⟩ := hI
            replace hL8 := hL8.symm
            subst hL8
            clear h7_2 h7_3 h7_42 T7
            refine RX.live [2, 3, 49] (fun T9 hT9 => ?_)
            simp only [forall_mem_cons', forall_mem_nil', go_sem, Φa, hP, h8_49, h8_2, h8_3] at hT9
            obtain ⟨h9_2, h9_3, h9_49⟩ := hT9
            clear h8_49 h8_2 h8_3 T8
            refine RX.join 7 (fun (ss : Unit) T L' => T 56 = .bool (decide (a.V = b.V) && decide (a.I = b.I) && decide (a.PC = b.PC) && decide (a.dl = b.dl)) ∧ T 2 = T9 2 ∧ T 3 = T9 3 ∧ L' = some (g1, .cells (b.cells (.slice Bs b.st.length ds) (.slice Bp b.pg.length dp) (.slice Bm b.mm.length dm)).toArray 29 (0, 0)) :: some (g0, .cells (a.cells (.slice As a.st.length cs) (.slice Ap a.pg.length cp) (.slice Am a.mm.length cm)).toArray 29 (0, 0)) :: L ∧ (True)) (fun K19 hK19 => ?_) ?_
            · simp only [h9_2, h9_3] at hK19
              simp (maxSteps:=1000000)(dsimp:=false)(disch:=omega) only [go_sem, Φa, hP, h9_2, h9_3, h9_49, hops]
              repeat' (first | refine iteB (fun hg => ?_) (fun hg => ?_) | refine iteI (fun hg => ?_) (fun hg => ?_) | ((first | (refine aggEq_of eqT_25 (okV_V ha) (okV_V hb) (fun r hr => ?_); obtain rfl := vEq ha.V hb.V hr) | refine cv_row (hP ▸ Try.underlying23) (hP ▸ Try.underlying9) (hP ▸ Try.underlying5) (SlI.cons _ (SlI.cons _ hp)) ha.pg ?_ | refine conv_row (hP ▸ Try.underlying23) (hP ▸ Try.underlying9) (hP ▸ Try.underlying5) (SlI.cons _ (SlI.cons _ hp)) ha.pg ?_ | refine cv_row (hP ▸ Try.underlying23) (hP ▸ Try.underlying9) (hP ▸ Try.underlying5) (SlI.cons _ (SlI.cons _ kp)) hb.pg ?_ | refine conv_row (hP ▸ Try.underlying23) (hP ▸ Try.underlying9) (hP ▸ Try.underlying5) (SlI.cons _ (SlI.cons _ kp)) hb.pg ?_ | refine cv_row (hP ▸ Try.underlying23) (hP ▸ Try.underlying9) (hP ▸ Try.underlying5) (SlI.cons _ (SlI.cons _ hm)) ha.mm ?_ | refine conv_row (hP ▸ Try.underlying23) (hP ▸ Try.underlying9) (hP ▸ Try.underlying5) (SlI.cons _ (SlI.cons _ hm)) ha.mm ?_ | refine cv_row (hP ▸ Try.underlying23) (hP ▸ Try.underlying9) (hP ▸ Try.underlying5) (SlI.cons _ (SlI.cons _ km)) hb.mm ?_ | refine conv_row (hP ▸ Try.underlying23) (hP ▸ Try.underlying9) (hP ▸ Try.underlying5) (SlI.cons _ (SlI.cons _ km)) hb.mm ?_ | refine And.intro (by omega) ?_ | refine ⟨_, Cell.at 0 rfl rfl, ?_⟩ | refine ⟨_, Cell.at 1 rfl rfl, ?_⟩ | fail); try (with_reducible refine stI ?_); try simp (maxSteps:=1000000)(dsimp:=false)(disch:=omega) only [go_sem, Φa, hP, h9_2, h9_3, h9_49, hops]) | simp (maxSteps:=1000000)(dsimp:=false)(disch:=omega) only [go_sem, Φa, hP, h9_2, h9_3, h9_49, hops] | fail)
              all_goals
                refine hK19 () _ (some (g1, .cells (b.cells (.slice Bs b.st.length ds) (.slice Bp b.pg.length dp) (.slice Bm b.mm.length dm)).toArray 29 (0, 0)) :: some (g0, .cells (a.cells (.slice As a.st.length cs) (.slice Ap a.pg.length cp) (.slice Am a.mm.length cm)).toArray 29 (0, 0)) :: L) _ (by first | exact Less.refl _ | exact Less.drop _ _ | exact Less.drops (Less.drop _ _) | exact Less.drops (Less.drops (Less.drop _ _)) | exact Less.drops (Less.drops (Less.drops (Less.drop _ _))) | exact Less.drops (Less.drops (Less.drops (Less.drops (Less.drop _ _))))) ?_
                try dsimp only
                refine ⟨?_, ?_, ?_, ?_, ?_⟩
                · simp (maxSteps:=1000000)(dsimp:=false)(disch:=omega) only [go_sem, Φa, hP, h9_2, h9_3, h9_49]
                  first | done | (refine congrArg Value.bool ?_; simp_all; done) | (refine congrArg Value.bool ?_; simp_all; omega)
                · simp (maxSteps:=1000000)(dsimp:=false)(disch:=omega) only [go_sem, Φa, hP, h9_2, h9_3, h9_49]
                · simp (maxSteps:=1000000)(dsimp:=false)(disch:=omega) only [go_sem, Φa, hP, h9_2, h9_3, h9_49]
                · rfl
                · trivial
            · intro ss T10 L10 hI
              simp only [h9_2, h9_3] at hI 
              obtain ⟨h10_56, h10_2, h10_3, hL10, hinv⟩ := hI
              replace hL10 := hL10.symm
              subst hL10
              clear h9_2 h9_3 h9_49 T9
              refine RX.live [2, 3, 56] (fun T11 hT11 => ?_)
              simp only [forall_mem_cons', forall_mem_nil', go_sem, Φa, hP, h10_56, h10_2, h10_3] at hT11
              obtain ⟨h11_2, h11_3, h11_56⟩ := hT11
              clear h10_56 h10_2 h10_3 T10
              refine RX.join 7 (fun (ss : Unit) T L' => T 63 = .bool (decide (a.V = b.V) && decide (a.I = b.I) && decide (a.PC = b.PC) && decide (a.dl = b.dl) && decide (a.sd = b.sd)) ∧ T 2 = T11 2 ∧ T 3 = T11 3 ∧ L' = some (g1, .cells (b.cells (.slice Bs b.st.length ds) (.slice Bp b.pg.length dp) (.slice Bm b.mm.length dm)).toArray 29 (0, 0)) :: some (g0, .cells (a.cells (.slice As a.st.length cs) (.slice Ap a.pg.length cp) (.slice Am a.mm.length cm)).toArray 29 (0, 0)) :: L ∧ (True)) (fun K20 hK20 => ?_) ?_
              · simp only [h11_2, h11_3] at hK20
                simp (maxSteps:=1000000)(dsimp:=false)(disch:=omega) only [go_sem, Φa, hP, h11_2, h11_3, h11_56, hops]
                repeat' (first | refine iteB (fun hg => ?_) (fun hg => ?_) | refine iteI (fun hg => ?_) (fun hg => ?_) | ((first | (refine aggEq_of eqT_25 (okV_V ha) (okV_V hb) (fun r hr => ?_); obtain rfl := vEq ha.V hb.V hr) | refine cv_row (hP ▸ Try.underlying23) (hP ▸ Try.underlying9) (hP ▸ Try.underlying5) (SlI.cons _ (SlI.cons _ hp)) ha.pg ?_ | refine conv_row (hP ▸ Try.underlying23) (hP ▸ Try.underlying9) (hP ▸ Try.underlying5) (SlI.cons _ (SlI.cons _ hp)) ha.pg ?_ | refine cv_row (hP ▸ Try.underlying23) (hP ▸ Try.underlying9) (hP ▸ Try.underlying5) (SlI.cons _ (SlI.cons _ kp)) hb.pg ?_ | refine conv_row (hP ▸ Try.underlying23) (hP ▸ Try.underlying9) (hP ▸ Try.underlying5) (SlI.cons _ (SlI.cons _ kp)) hb.pg ?_ | refine cv_row (hP ▸ Try.underlying23) (hP ▸ Try.underlying9) (hP ▸ Try.underlying5) (SlI.cons _ (SlI.cons _ hm)) ha.mm ?_ | refine conv_row (hP ▸ Try.underlying23) (hP ▸ Try.underlying9) (hP ▸ Try.underlying5) (SlI.cons _ (SlI.cons _ hm)) ha.mm ?_ | refine cv_row (hP ▸ Try.underlying23) (hP ▸ Try.underlying9) (hP ▸ Try.underlying5) (SlI.cons _ (SlI.cons _ km)) hb.mm ?_ | refine conv_row (hP ▸ Try.underlying23) (hP ▸ Try.underlying9) (hP ▸ Try.underlying5) (SlI.cons _ (SlI.cons _ km)) hb.mm ?_ | refine And.intro (by omega) ?_ | refine ⟨_, Cell.at 0 rfl rfl, ?_⟩ | refine ⟨_, Cell.at 1 rfl rfl, ?_⟩ | fail); try (with_reducible refine stI ?_); try simp (maxSteps:=1000000)(dsimp:=false)(disch:=omega) only [go_sem, Φa, hP, h11_2, h11_3, h11_56, hops]) | simp (maxSteps:=1000000)(dsimp:=false)(disch:=omega) only [go_sem, Φa, hP, h11_2, h11_3, h11_56, hops] | fail)
                all_goals
                  refine hK20 () _ (some (g1, .cells (b.cells (.slice Bs b.st.length ds) (.slice Bp b.pg.length dp) (.slice Bm b.mm.length dm)).toArray 29 (0, 0)) :: some (g0, .cells (a.cells (.slice As a.st.length cs) (.slice Ap a.pg.length cp) (.slice Am a.mm.length cm)).toArray 29 (0, 0)) :: L) _ (by first | exact Less.refl _ | exact Less.drop _ _ | exact Less.drops (Less.drop _ _) | exact Less.drops (Less.drops (Less.drop _ _)) | exact Less.drops (Less.drops (Less.drops (Less.drop _ _))) | exact Less.drops (Less.drops (Less.drops (Less.drops (Less.drop _ _))))) ?_
                  try dsimp only
                  refine ⟨?_, ?_, ?_, ?_, ?_⟩
                  · simp (maxSteps:=1000000)(dsimp:=false)(disch:=omega) only [go_sem, Φa, hP, h11_2, h11_3, h11_56]
                    first | done | (refine congrArg Value.bool ?_; simp_all; done) | (refine congrArg Value.bool ?_; simp_all; omega)
                  · simp (maxSteps:=1000000)(dsimp:=false)(disch:=omega) only [go_sem, Φa, hP, h11_2, h11_3, h11_56]
                  · simp (maxSteps:=1000000)(dsimp:=false)(disch:=omega) only [go_sem, Φa, hP, h11_2, h11_3, h11_56]
                  · rfl
                  · trivial
              · intro ss T12 L12 hI
                simp only [h11_2, h11_3] at hI 
                obtain ⟨h12_63, h12_2, h12_3, hL12, hinv⟩ := hI
                replace hL12 := hL12.symm
                subst hL12
                clear h11_2 h11_3 h11_56 T11
                refine RX.live [2, 3, 63] (fun T13 hT13 => ?_)
                simp only [forall_mem_cons', forall_mem_nil', go_sem, Φa, hP, h12_63, h12_2, h12_3] at hT13
                obtain ⟨h13_2, h13_3, h13_63⟩ := hT13
                clear h12_63 h12_2 h12_3 T12
                refine RX.join 9 (fun (ss : Unit) T L' => T 72 = .bool (decide (a.V = b.V) && decide (a.I = b.I) && decide (a.PC = b.PC) && decide (a.dl = b.dl) && decide (a.sd = b.sd) && decide (txt a.pg = txt b.pg)) ∧ T 2 = T13 2 ∧ T 3 = T13 3 ∧ L' = some (g1, .cells (b.cells (.slice Bs b.st.length ds) (.slice Bp b.pg.length dp) (.slice Bm b.mm.length dm)).toArray 29 (0, 0)) :: some (g0, .cells (a.cells (.slice As a.st.length cs) (.slice Ap a.pg.length cp) (.slice Am a.mm.length cm)).toArray 29 (0, 0)) :: L ∧ (True)) (fun K21 hK21 => ?_) ?_
                · simp only [h13_2, h13_3] at hK21
                  simp (maxSteps:=1000000)(dsimp:=false)(disch:=omega) only [go_sem, Φa, hP, h13_2, h13_3, h13_63, hops]
                  repeat' (first | refine iteB (fun hg => ?_) (fun hg => ?_) | refine iteI (fun hg => ?_) (fun hg => ?_) | ((first | (refine aggEq_of eqT_25 (okV_V ha) (okV_V hb) (fun r hr => ?_); obtain rfl := vEq ha.V hb.V hr) | refine cv_row (hP ▸ Try.underlying23) (hP ▸ Try.underlying9) (hP ▸ Try.underlying5) (SlI.cons _ (SlI.cons _ hp)) ha.pg ?_ | refine conv_row (hP ▸ Try.underlying23) (hP ▸ Try.underlying9) (hP ▸ Try.underlying5) (SlI.cons _ (SlI.cons _ hp)) ha.pg ?_ | refine cv_row (hP ▸ Try.underlying23) (hP ▸ Try.underlying9) (hP ▸ Try.underlying5) (SlI.cons _ (SlI.cons _ kp)) hb.pg ?_ | refine conv_row (hP ▸ Try.underlying23) (hP ▸ Try.underlying9) (hP ▸ Try.underlying5) (SlI.cons _ (SlI.cons _ kp)) hb.pg ?_ | refine cv_row (hP ▸ Try.underlying23) (hP ▸ Try.underlying9) (hP ▸ Try.underlying5) (SlI.cons _ (SlI.cons _ hm)) ha.mm ?_ | refine conv_row (hP ▸ Try.underlying23) (hP ▸ Try.underlying9) (hP ▸ Try.underlying5) (SlI.cons _ (SlI.cons _ hm)) ha.mm ?_ | refine cv_row (hP ▸ Try.underlying23) (hP ▸ Try.underlying9) (hP ▸ Try.underlying5) (SlI.cons _ (SlI.cons _ km)) hb.mm ?_ | refine conv_row (hP ▸ Try.underlying23) (hP ▸ Try.underlying9) (hP ▸ Try.underlying5) (SlI.cons _ (SlI.cons _ km)) hb.mm ?_ | refine And.intro (by omega) ?_ | refine ⟨_, Cell.at 0 rfl rfl, ?_⟩ | refine ⟨_, Cell.at 1 rfl rfl, ?_⟩ | fail); try (with_reducible refine stI ?_); try simp (maxSteps:=1000000)(dsimp:=false)(disch:=omega) only [go_sem, Φa, hP, h13_2, h13_3, h13_63, hops]) | simp (maxSteps:=1000000)(dsimp:=false)(disch:=omega) only [go_sem, Φa, hP, h13_2, h13_3, h13_63, hops] | fail)
                  all_goals
                    refine hK21 () _ (some (g1, .cells (b.cells (.slice Bs b.st.length ds) (.slice Bp b.pg.length dp) (.slice Bm b.mm.length dm)).toArray 29 (0, 0)) :: some (g0, .cells (a.cells (.slice As a.st.length cs) (.slice Ap a.pg.length cp) (.slice Am a.mm.length cm)).toArray 29 (0, 0)) :: L) _ (by first | exact Less.refl _ | exact Less.drop _ _ | exact Less.drops (Less.drop _ _) | exact Less.drops (Less.drops (Less.drop _ _)) | exact Less.drops (Less.drops (Less.drops (Less.drop _ _))) | exact Less.drops (Less.drops (Less.drops (Less.drops (Less.drop _ _))))) ?_
                    try dsimp only
                    refine ⟨?_, ?_, ?_, ?_, ?_⟩
                    · simp (maxSteps:=1000000)(dsimp:=false)(disch:=omega) only [go_sem, Φa, hP, h13_2, h13_3, h13_63]
                      first | done | (refine congrArg Value.bool ?_; simp_all; done) | (refine congrArg Value.bool ?_; simp_all; omega)
                    · simp (maxSteps:=1000000)(dsimp:=false)(disch:=omega) only [go_sem, Φa, hP, h13_2, h13_3, h13_63]
                    · simp (maxSteps:=1000000)(dsimp:=false)(disch:=omega) only [go_sem, Φa, hP, h13_2, h13_3, h13_63]
                    · rfl
                    · trivial
                · intro ss T14 L14 hI
                  simp only [h13_2, h13_3] at hI 
                  obtain ⟨h14_72, h14_2, h14_3, hL14, hinv⟩ := hI
                  replace hL14 := hL14.symm
                  subst hL14
                  clear h13_2 h13_3 h13_63 T13
                  refine RX.live [2, 3, 72] (fun T15 hT15 => ?_)
                  simp only [forall_mem_cons', forall_mem_nil', go_sem, Φa, hP, h14_72, h14_2, h14_3] at hT15
                  obtain ⟨h15_2, h15_3, h15_72⟩ := hT15
                  clear h14_72 h14_2 h14_3 T14
                  refine RX.join 9 (fun (ss : Unit) T L' => T 81 = .bool (decide (a.V = b.V) && decide (a.I = b.I) && decide (a.PC = b.PC) && decide (a.dl = b.dl) && decide (a.sd = b.sd) && decide (txt a.pg = txt b.pg) && decide (txt a.mm = txt b.mm)) ∧ L' = some (g1, .cells (b.cells (.slice Bs b.st.length ds) (.slice Bp b.pg.length dp) (.slice Bm b.mm.length dm)).toArray 29 (0, 0)) :: some (g0, .cells (a.cells (.slice As a.st.length cs) (.slice Ap a.pg.length cp) (.slice Am a.mm.length cm)).toArray 29 (0, 0)) :: L ∧ (True)) (fun K22 hK22 => ?_) ?_
                  · simp (maxSteps:=1000000)(dsimp:=false)(disch:=omega) only [go_sem, Φa, hP, h15_2, h15_3, h15_72, hops]
                    repeat' (first | refine iteB (fun hg => ?_) (fun hg => ?_) | refine iteI (fun hg => ?_) (fun hg => ?_) | ((first | (refine aggEq_of eqT_25 (okV_V ha) (okV_V hb) (fun r hr => ?_); obtain rfl := vEq ha.V hb.V hr) | refine cv_row (hP ▸ Try.underlying23) (hP ▸ Try.underlying9) (hP ▸ Try.underlying5) (SlI.cons _ (SlI.cons _ hp)) ha.pg ?_ | refine conv_row (hP ▸ Try.underlying23) (hP ▸ Try.underlying9) (hP ▸ Try.underlying5) (SlI.cons _ (SlI.cons _ hp)) ha.pg ?_ | refine cv_row (hP ▸ Try.underlying23) (hP ▸ Try.underlying9) (hP ▸ Try.underlying5) (SlI.cons _ (SlI.cons _ kp)) hb.pg ?_ | refine conv_row (hP ▸ Try.underlying23) (hP ▸ Try.underlying9) (hP ▸ Try.underlying5) (SlI.cons _ (SlI.cons _ kp)) hb.pg ?_ | refine cv_row (hP ▸ Try.underlying23) (hP ▸ Try.underlying9) (hP ▸ Try.underlying5) (SlI.cons _ (SlI.cons _ hm)) ha.mm ?_ | refine conv_row (hP ▸ Try.underlying23) (hP ▸ Try.underlying9) (hP ▸ Try.underlying5) (SlI.cons _ (SlI.cons _ hm)) ha.mm ?_ | refine cv_row (hP ▸ Try.underlying23) (hP ▸ Try.underlying9) (hP ▸ Try.underlying5) (SlI.cons _ (SlI.cons _ km)) hb.mm ?_ | refine conv_row (hP ▸ Try.underlying23) (hP ▸ Try.underlying9) (hP ▸ Try.underlying5) (SlI.cons _ (SlI.cons _ km)) hb.mm ?_ | refine And.intro (by omega) ?_ | refine ⟨_, Cell.at 0 rfl rfl, ?_⟩ | refine ⟨_, Cell.at 1 rfl rfl, ?_⟩ | fail); try (with_reducible refine stI ?_); try simp (maxSteps:=1000000)(dsimp:=false)(disch:=omega) only [go_sem, Φa, hP, h15_2, h15_3, h15_72, hops]) | simp (maxSteps:=1000000)(dsimp:=false)(disch:=omega) only [go_sem, Φa, hP, h15_2, h15_3, h15_72, hops] | fail)
                    all_goals
                      refine hK22 () _ (some (g1, .cells (b.cells (.slice Bs b.st.length ds) (.slice Bp b.pg.length dp) (.slice Bm b.mm.length dm)).toArray 29 (0, 0)) :: some (g0, .cells (a.cells (.slice As a.st.length cs) (.slice Ap a.pg.length cp) (.slice Am a.mm.length cm)).toArray 29 (0, 0)) :: L) _ (by first | exact Less.refl _ | exact Less.drop _ _ | exact Less.drops (Less.drop _ _) | exact Less.drops (Less.drops (Less.drop _ _)) | exact Less.drops (Less.drops (Less.drops (Less.drop _ _))) | exact Less.drops (Less.drops (Less.drops (Less.drops (Less.drop _ _))))) ?_
                      try dsimp only
                      refine ⟨?_, ?_, ?_⟩
                      · simp (maxSteps:=1000000)(dsimp:=false)(disch:=omega) only [go_sem, Φa, hP, h15_2, h15_3, h15_72]
                        first | done | (refine congrArg Value.bool ?_; simp_all; done) | (refine congrArg Value.bool ?_; simp_all; omega)
                      · rfl
                      · trivial
                  · intro ss T16 L16 hI
                    obtain ⟨h16_81, hL16, hinv⟩ := hI
                    replace hL16 := hL16.symm
                    subst hL16
                    clear h15_2 h15_3 h15_72 T15
                    refine RX.done ?_
                    simp (maxSteps:=1000000)(dsimp:=false)(disch:=omega) only [go_sem, Φa, hP, h16_81, hops]
                    refine hK16 _ _ ?_
                    try clear hK16 K16
                    refine SX.ret ?_
                    simp only [andThen_normal, andThen_ret, andThen_exit, inBlk_normal, inBlk_ret, inBlk_exit, Nat.reduceEqDiff, if_true, if_false, ↓reduceIte, retQ_ret]
                    try simp only [res0, res1, res2, res3, stK_e, go_sem, Φa, hP, h16_81]
                    refine ⟨_, _, Less.drops (Less.drop _ _), rfl, ?_, rfl⟩
                    have hst : a.st = b.st := st_eq (by omega) (fun j hj => hin j (by omega))
                    unfold sameB
                    simp only [txtEq ha.pg hb.pg, txtEq ha.mm hb.mm, hst, decide_true, Bool.true_and]

end Go.Proofs.Ytgioegdjeodpiaa
set_option linter.unusedVariables false
set_option linter.unusedSimpArgs false
namespace Go.Proofs.Ytgioegdjeodpiaa
open Go.RowKit Go.SX
def dotD (b : Int) (d : Nat) : Bool := !decide (bits .and .u8 b ((128 : Int).fdiv (2 ^ (min d 8))) = 0)
def hit (page : List Int) (x y : Nat) (rows : List Int) (k d : Nat) : Bool :=
  dotD (rows.getD k 0) d && decide (x % 64 + d < 64) && decide (y % 32 + k < 32) && dotD (page.getD (8 * (y % 32 + k) + (x % 64 + d) / 8) 0) ((x % 64 + d) % 8)
def went (page : List Int) (x y : Nat) (rows : List Int) : Bool := (List.range rows.length).any fun k => (List.range 8).any fun d => hit page x y rows k d
theorem went_true {page rows : List Int} {x y k d : Nat} (hk : k < rows.length) (hd : d < 8) (h : hit page x y rows k d = true) : went page x y rows = true :=
  List.any_eq_true.2 ⟨k, List.mem_range.2 hk, List.any_eq_true.2 ⟨d, List.mem_range.2 hd, h⟩⟩
theorem went_false {page rows : List Int} {x y : Nat} (h : ∀ k, k < rows.length → ∀ d, d < 8 → hit page x y rows k d = false) : went page x y rows = false := by
  cases hw : went page x y rows with
  | false => rfl
  | true =>
    obtain ⟨k, hk, h1⟩ := List.any_eq_true.1 hw
    obtain ⟨d, hd, h2⟩ := List.any_eq_true.1 h1
    rw [h k (List.mem_range.1 hk) d (List.mem_range.1 hd)] at h2
    cases h2
/-! ### The dots of a page -/
theorem dotD_all : ((List.range 256).all fun b => (List.range 8).all fun k => dotD ((b : Nat) : Int) k == b.testBit (7 - k) && (dotB ((b : Nat) : Int) k == b.testBit (7 - k))) = true := by kernel_rfl
theorem dotD_test {b k : Nat} (hb : b < 256) (hk : k < 8) : dotD (b : Int) k = b.testBit (7 - k) ∧ dotB (b : Int) k = b.testBit (7 - k) := by
  have h1 := List.all_eq_true.1 dotD_all b (List.mem_range.2 hb)
  have h2 := List.all_eq_true.1 h1 k (List.mem_range.2 hk)
  simpa using h2
theorem bitOf_all : ((List.range 8).all fun k => decide ((128 : Int).fdiv (2 ^ (min k 8)) = ((2 ^ (7 - k) : Nat) : Int))) = true := by kernel_rfl
theorem bitOf_pow (i : Nat) : bitOf i = ((2 ^ (7 - i % 8) : Nat) : Int) :=
  of_decide_eq_true (List.all_eq_true.1 bitOf_all (i % 8) (List.mem_range.2 (by omega)))
def ByteN (l : List Int) : Prop := ∀ x ∈ l, ∃ b : Nat, b < 256 ∧ x = (b : Int)
theorem Byte.toN {l : List Int} (h : Byte l) : ByteN l := fun x hx => ⟨x.toNat, by have := h x hx; omega, by have := h x hx; omega⟩
theorem ByteN.at {l : List Int} (h : ByteN l) (k : Nat) : ∃ b : Nat, b < 256 ∧ l.getD k 0 = (b : Int) := by
  by_cases hk : k < l.length
  · rw [List.getD_eq_getElem?_getD, List.getElem?_eq_getElem hk]
    exact h _ (List.getElem_mem hk)
  · rw [List.getD_eq_getElem?_getD, List.getElem?_eq_none (by omega)]
    exact ⟨0, by omega, rfl⟩
theorem dotD_dotB {l : List Int} (h : ByteN l) (k : Nat) {d : Nat} (hd : d < 8) : dotD (l.getD k 0) d = dotB (l.getD k 0) d := by
  obtain ⟨b, hb, e⟩ := h.at k
  rw [e, (dotD_test hb hd).1, (dotD_test hb hd).2]
def pix (page : List Int) (i j : Nat) : Bool := dotD (page.getD (8 * j + i / 8) 0) (i % 8)
theorem xor_byte {b i : Nat} (hb : b < 256) : ∃ c : Nat, c < 256 ∧ bits .xor .u8 (b : Int) (bitOf i) = (c : Int) ∧ ∀ d, d < 8 → dotD (c : Int) d = (dotD (b : Int) d != decide (d = i % 8)) := by
  have hp : 2 ^ (7 - i % 8) < 256 := by
    have : 2 ^ (7 - i % 8) < 2 ^ 8 := Nat.pow_lt_pow_right (by omega) (by omega)
    omega
  have hc : b ^^^ 2 ^ (7 - i % 8) < 256 := Nat.xor_lt_two_pow (n := 8) hb hp
  refine ⟨b ^^^ 2 ^ (7 - i % 8), hc, by rw [bitOf_pow, u8_xor_nat _ _ hb hp], fun d hd => ?_⟩
  rw [(dotD_test hc hd).1, (dotD_test hb hd).1, Nat.testBit_xor, Nat.testBit_two_pow]
  have : decide (7 - i % 8 = 7 - d) = decide (d = i % 8) := decide_eq_decide.2 (by omega)
  rw [this]
theorem getD_set' (l : List Int) (j k : Nat) (x : Int) (hj : j < l.length) : (l.set j x).getD k 0 = if j = k then x else l.getD k 0 := by
  simp only [List.getD_eq_getElem?_getD, List.getElem?_set]
  split
  · rename_i h; subst h; simp [hj]
  · rfl
structure Good (l : List Int) : Prop where
  len : l.length = 256
  byte : ByteN l
theorem putDot_good {st : Bool × List Int} (h : Good st.2) (i j : Nat) : Good (putDot st i j).2 := by
  refine ⟨by rw [putDot_length]; exact h.len, ?_⟩
  unfold putDot
  split
  · exact h.byte
  · intro x hx
    rcases List.mem_or_eq_of_mem_set hx with hx | rfl
    · exact h.byte x hx
    · obtain ⟨b, hb, e⟩ := h.byte.at (j * 8 + i / 8)
      obtain ⟨c, hc, e2, _⟩ := xor_byte (i := i) hb
      exact ⟨c, hc, by rw [e, e2]⟩
theorem putDot_pix {st : Bool × List Int} (h : Good st.2) {i j i' j' : Nat} (hi : i' < 64) (hj : j' < 32) : pix (putDot st i j).2 i' j' = (pix st.2 i' j' != decide (i = i' ∧ j = j')) := by
  unfold putDot
  split
  · rw [decide_eq_false (by omega), Bool.bne_false]
  · rename_i hn
    have hl := h.len
    unfold pix
    rw [getD_set' _ _ _ _ (by omega)]
    split
    · rename_i he
      obtain ⟨b, hb, e⟩ := h.byte.at (j * 8 + i / 8)
      obtain ⟨c, hc, e2, e3⟩ := xor_byte (i := i) hb
      rw [e, e2, e3 _ (by omega), ← he, e]
      exact congrArg _ (decide_eq_decide.2 (by omega))
    · rename_i he
      rw [decide_eq_false (fun hc => he (by omega)), Bool.bne_false]
theorem putDot_gone (st : Bool × List Int) (i j : Nat) : (putDot st i j).1 = (st.1 || (decide (i < 64 ∧ j < 32) && pix st.2 i j)) := by
  unfold putDot
  split
  · rw [decide_eq_false (by omega), Bool.false_and, Bool.or_false]
  · rw [show decide (i < 64 ∧ j < 32) = true from decide_eq_true (by omega), Bool.true_and]
    show (st.1 || dotD (st.2.getD (j * 8 + i / 8) 0) (i % 8)) = _
    rw [pix, Nat.mul_comm 8 j]
theorem eachI_good {b : Int} {x y : Nat} {st : Bool × List Int} (h : Good st.2) : ∀ m, Good (eachI b x y st m).2
  | 0 => h
  | m + 1 => by
    rw [eachI]
    split
    · exact putDot_good (eachI_good h m) _ _
    · exact eachI_good h m
theorem eachI_pix {b : Int} {x y : Nat} {st : Bool × List Int} (h : Good st.2) {i' j' : Nat} (hi : i' < 64) (hj : j' < 32) : ∀ m, pix (eachI b x y st m).2 i' j' = (pix st.2 i' j' != (decide (y = j' ∧ x ≤ i' ∧ i' < x + m) && dotB b (i' - x)))
  | 0 => by rw [decide_eq_false (by omega), Bool.false_and, Bool.bne_false]; rfl
  | m + 1 => by
    have ih := eachI_pix (b := b) (x := x) (y := y) h hi hj m
    rw [eachI]
    by_cases hc : x + m = i' ∧ y = j'
    · have e1 : i' - x = m := by omega
      have e2 : decide (y = j' ∧ x ≤ i' ∧ i' < x + m) = false := decide_eq_false (by omega)
      have e3 : decide (y = j' ∧ x ≤ i' ∧ i' < x + (m + 1)) = true := decide_eq_true (by omega)
      rw [e2, Bool.false_and, Bool.bne_false] at ih
      rw [e3, Bool.true_and, e1]
      split
      · rename_i hd
        rw [putDot_pix (eachI_good h m) hi hj, ih, decide_eq_true hc, hd]
      · rename_i hd
        rw [ih, Bool.eq_false_iff.2 hd, Bool.bne_false]
    · have e2 : decide (y = j' ∧ x ≤ i' ∧ i' < x + (m + 1)) = decide (y = j' ∧ x ≤ i' ∧ i' < x + m) := decide_eq_decide.2 (by omega)
      rw [e2, ← ih]
      split
      · rw [putDot_pix (eachI_good h m) hi hj, decide_eq_false hc, Bool.bne_false]
      · rfl
theorem eachI_gone {b : Int} {x y : Nat} {st : Bool × List Int} (h : Good st.2) : ∀ m, (eachI b x y st m).1 = (st.1 || (List.range m).any fun d => dotB b d && (decide (x + d < 64 ∧ y < 32) && pix st.2 (x + d) y))
  | 0 => by simp [eachI]
  | m + 1 => by
    rw [eachI, List.range_succ, List.any_append, ← Bool.or_assoc, ← eachI_gone h m]
    simp only [List.any_cons, List.any_nil, Bool.or_false]
    split
    · rename_i hd
      rw [putDot_gone, hd, Bool.true_and]
      by_cases hin : x + m < 64 ∧ y < 32
      · rw [eachI_pix h hin.1 hin.2, decide_eq_false (show ¬ (y = y ∧ x ≤ x + m ∧ x + m < x + m) by omega), Bool.false_and, Bool.bne_false]
      · rw [decide_eq_false hin, Bool.false_and, Bool.false_and]
    · rename_i hd
      rw [Bool.eq_false_iff.2 hd, Bool.false_and, Bool.or_false]
theorem eachK_good {rows : List Int} {x y : Nat} {st : Bool × List Int} (h : Good st.2) : ∀ k, Good (eachK rows x y st k).2
  | 0 => h
  | k + 1 => by rw [eachK]; exact eachI_good (eachK_good h k) 8
theorem eachK_pix {rows : List Int} {x y : Nat} {st : Bool × List Int} (h : Good st.2) {i' j' : Nat} (hi : i' < 64) (hj : j' < 32) : ∀ k, pix (eachK rows x y st k).2 i' j' = (pix st.2 i' j' != (decide (y ≤ j' ∧ j' < y + k ∧ x ≤ i' ∧ i' < x + 8) && dotB (rows.getD (j' - y) 0) (i' - x)))
  | 0 => by rw [decide_eq_false (by omega), Bool.false_and, Bool.bne_false]; rfl
  | k + 1 => by
    rw [eachK, eachI_pix (eachK_good h k) hi hj, eachK_pix h hi hj k]
    by_cases hc : y + k = j'
    · rw [decide_eq_false (show ¬ (y ≤ j' ∧ j' < y + k ∧ x ≤ i' ∧ i' < x + 8) by omega), Bool.false_and, Bool.bne_false, show j' - y = k by omega]
      refine congrArg _ (congrArg (· && _) (decide_eq_decide.2 (by omega)))
    · rw [decide_eq_false (show ¬ (y + k = j' ∧ x ≤ i' ∧ i' < x + 8) by omega), Bool.false_and, Bool.bne_false]
      refine congrArg _ (congrArg (· && _) (decide_eq_decide.2 (by omega)))
theorem eachK_gone {rows : List Int} {x y : Nat} {st : Bool × List Int} (h : Good st.2) : ∀ k, (eachK rows x y st k).1 = (st.1 || (List.range k).any fun k => (List.range 8).any fun d => dotB (rows.getD k 0) d && (decide (x + d < 64 ∧ y + k < 32) && pix st.2 (x + d) (y + k)))
  | 0 => by simp [eachK]
  | k + 1 => by
    rw [eachK, List.range_succ, List.any_append, ← Bool.or_assoc, ← eachK_gone h k, eachI_gone (eachK_good h k)]
    simp only [List.any_cons, List.any_nil, Bool.or_false]
    refine congrArg _ (List.any_congr rfl fun d => ?_) 
    by_cases hin : x + d < 64 ∧ y + k < 32
    · rw [eachK_pix h hin.1 hin.2, decide_eq_false (show ¬ (y ≤ y + k ∧ y + k < y + k ∧ x ≤ x + d ∧ x + d < x + 8) by omega), Bool.false_and, Bool.bne_false]
    · rw [decide_eq_false hin, Bool.false_and, Bool.false_and]
theorem page_ext {a b : List Int} (ha : Good a) (hb : Good b) (h : ∀ i j, i < 64 → j < 32 → pix a i j = pix b i j) : a = b := by
  refine list_eq_of (by rw [ha.len, hb.len]) fun k hk => ?_
  rw [ha.len] at hk
  rw [getD_some (by rw [ha.len]; exact hk), getD_some (by rw [hb.len]; exact hk)]
  obtain ⟨p, hp, e1⟩ := ha.byte.at k
  obtain ⟨q, hq, e2⟩ := hb.byte.at k
  rw [e1, e2]
  refine congrArg some (congrArg Nat.cast ?_)
  apply Nat.eq_of_testBit_eq
  intro i
  by_cases hi : i < 8
  · have h1 := h (k % 8 * 8 + (7 - i)) (k / 8) (by omega) (by omega)
    unfold pix at h1
    rw [show 8 * (k / 8) + (k % 8 * 8 + (7 - i)) / 8 = k by omega, show (k % 8 * 8 + (7 - i)) % 8 = 7 - i by omega, e1, e2, (dotD_test hp (by omega)).1, (dotD_test hq (by omega)).1, show 7 - (7 - i) = i by omega] at h1
    exact h1
  · have h256 : 256 ≤ 2 ^ i := by
      have := Nat.pow_le_pow_right (n := 2) (by omega) (show 8 ≤ i by omega)
      omega
    rw [Nat.testBit_lt_two_pow (by omega), Nat.testBit_lt_two_pow (by omega)]
def mine (x y : Nat) (rows : List Int) (i j : Nat) : Bool := decide (y % 32 ≤ j ∧ j < y % 32 + rows.length ∧ x % 64 ≤ i ∧ i < x % 64 + 8) && dotB (rows.getD (j - y % 32) 0) (i - x % 64)
theorem drawn_good {page rows : List Int} {x y : Nat} (h : Good page) : Good (drawn page x y rows).2 := eachK_good (st := (false, page)) h _
theorem drawn_pix {page rows : List Int} {x y : Nat} (h : Good page) {i j : Nat} (hi : i < 64) (hj : j < 32) : pix (drawn page x y rows).2 i j = (pix page i j != mine x y rows i j) := eachK_pix (st := (false, page)) h hi hj _
theorem any_range {n : Nat} {f g : Nat → Bool} (h : ∀ d, d < n → f d = g d) : (List.range n).any f = (List.range n).any g := by
  rw [Bool.eq_iff_iff, List.any_eq_true, List.any_eq_true]
  constructor
  · rintro ⟨d, hd, e⟩; exact ⟨d, hd, by rw [← h d (List.mem_range.1 hd)]; exact e⟩
  · rintro ⟨d, hd, e⟩; exact ⟨d, hd, by rw [h d (List.mem_range.1 hd)]; exact e⟩
theorem drawn_gone {page rows : List Int} {x y : Nat} (h : Good page) (hr : ByteN rows) : (drawn page x y rows).1 = went page x y rows := by
  have h1 := eachK_gone (rows := rows) (x := x % 64) (y := y % 32) (st := (false, page)) h rows.length
  rw [Bool.false_or] at h1
  rw [drawn, h1, went]
  refine List.any_congr rfl fun k => any_range fun d hd => ?_
  unfold hit
  rw [dotD_dotB hr k hd, pix]
  cases dotB (rows.getD k 0) d <;> simp [Bool.decide_and, Bool.and_assoc]
/-- The order of strokes does not matter. -/
theorem drawn_turn {page ra rb : List Int} {xa ya xb yb : Nat} (h : Good page) : (drawn (drawn page xa ya ra).2 xb yb rb).2 = (drawn (drawn page xb yb rb).2 xa ya ra).2 := by
  refine page_ext (drawn_good (drawn_good h)) (drawn_good (drawn_good h)) fun i j hi hj => ?_
  rw [drawn_pix (drawn_good h) hi hj, drawn_pix h hi hj, drawn_pix (drawn_good h) hi hj, drawn_pix h hi hj]
  cases pix page i j <;> cases mine xa ya ra i j <;> cases mine xb yb rb i j <;> rfl
theorem drawn_back {page ra : List Int} {xa ya : Nat} (h : Good page) : (drawn (drawn page xa ya ra).2 xa ya ra).2 = page := by
  refine page_ext (drawn_good (drawn_good h)) h fun i j hi hj => ?_
  rw [drawn_pix (drawn_good h) hi hj, drawn_pix h hi hj]
  cases pix page i j <;> cases mine xa ya ra i j <;> rfl
end Go.Proofs.Ytgioegdjeodpiaa
set_option linter.unusedVariables false
set_option linter.unusedSimpArgs false
namespace Go.Proofs.Ytgioegdjeodpiaa
open Go.RowKit Go.SX
/-! What a step makes of a game may be again. -/
/-- A game that may be. -/
structure Fine (g : GM) : Prop where
  ok : OkG g
  pg : g.pg.length = 256
  mm : g.mm.length = 3232
  st : g.st.length ≤ 12
theorem Fine.check {g : GM} (h : Fine g) : checkE g = 0 := if_pos ⟨h.pg, h.mm, h.st⟩
theorem fine_of {g : GM} (h : OkG g) (hc : checkE g = 0) : Fine g := by
  unfold checkE at hc
  split at hc
  · rename_i h1; exact ⟨h, h1.1, h1.2.1, h1.2.2⟩
  · cases hc
theorem checkE_ne {g : GM} (h : checkE g ≠ 0) : checkE g = 180 := by
  unfold checkE at h ⊢
  split at h
  · exact absurd rfl h
  · rename_i h1; rw [if_neg h1]
theorem byte_rep (n : Nat) : Byte (List.replicate n 0) := fun x hx => by rw [List.eq_of_mem_replicate hx]; omega
theorem byte_app {l m : List Int} (h : Byte l) (k : Byte m) : Byte (l ++ m) := fun x hx => by
  rcases List.mem_append.1 hx with h1 | h1
  · exact h x h1
  · exact k x h1
theorem byte_take {l : List Int} (h : Byte l) (n : Nat) : Byte (l.take n) := fun x hx => h x (List.mem_of_mem_take hx)
theorem wd_take {l : List Int} (h : Wd l) (n : Nat) : Wd (l.take n) := fun x hx => h x (List.mem_of_mem_take hx)
theorem zeroG_ok : OkG zeroG := ⟨rfl, byte_rep 16, by decide, by decide, fun x hx => (by simp [zeroG] at hx), by decide, by decide, fun x hx => (by simp [zeroG] at hx), fun x hx => (by simp [zeroG] at hx)⟩
theorem newG_fine {p : List Int} (h : Byte p) (hl : p.length ≤ 3232) : Fine (newG p).1 ∧ (newG p).2 = 0 := by
  unfold newG
  rw [if_neg (by omega)]
  have i0 : ∀ (a b c : Int), a ≤ b → b ≤ c → a ≤ b ∧ b ≤ c := fun a b c h1 h2 => ⟨h1, h2⟩
  refine ⟨⟨⟨rfl, byte_rep 16, i0 0 0 65535 (by decide) (by decide), i0 0 512 65535 (by decide) (by decide), fun x hx => (by simp at hx), i0 0 0 255 (by decide) (by decide), i0 0 0 255 (by decide) (by decide), byte_rep 256, byte_app h (byte_rep _)⟩, List.length_replicate .., ?_, Nat.zero_le _⟩, rfl⟩
  show (p ++ List.replicate (3232 - p.length) 0).length = 3232
  rw [List.length_append, List.length_replicate]
  omega
theorem newG_ok {p : List Int} (h : Byte p) : OkG (newG p).1 := by
  by_cases hl : p.length ≤ 3232
  · exact (newG_fine h hl).1.ok
  · unfold newG
    rw [if_pos (by omega)]
    exact zeroG_ok
theorem wrap8 (x : Int) : 0 ≤ IntKind.u8.wrap x ∧ IntKind.u8.wrap x ≤ 255 := by rw [IntKind.wrap_u8]; omega
theorem wrap16 (x : Int) : 0 ≤ IntKind.u16.wrap x ∧ IntKind.u16.wrap x ≤ 65535 := by rw [IntKind.wrap_u16]; omega
theorem Fine.V {g : GM} (h : Fine g) {l : List Int} (hl : l.length = 16) (hb : Byte l) : Fine { g with V := l } := ⟨⟨hl, hb, h.ok.I, h.ok.PC, h.ok.st, h.ok.dl, h.ok.sd, h.ok.pg, h.ok.mm⟩, h.pg, h.mm, h.st⟩
theorem Fine.PC {g : GM} (h : Fine g) {x : Int} (hx : 0 ≤ x ∧ x ≤ 65535) : Fine { g with PC := x } := ⟨⟨h.ok.V, h.ok.Vb, h.ok.I, hx, h.ok.st, h.ok.dl, h.ok.sd, h.ok.pg, h.ok.mm⟩, h.pg, h.mm, h.st⟩
theorem Fine.I {g : GM} (h : Fine g) {x : Int} (hx : 0 ≤ x ∧ x ≤ 65535) : Fine { g with I := x } := ⟨⟨h.ok.V, h.ok.Vb, hx, h.ok.PC, h.ok.st, h.ok.dl, h.ok.sd, h.ok.pg, h.ok.mm⟩, h.pg, h.mm, h.st⟩
theorem Fine.skip {g : GM} (h : Fine g) (b : Bool) : Fine (skipG g b).2 := by
  unfold skipG
  dsimp only
  split
  · exact h.PC (wrap16 _)
  · exact h
theorem Fine.let_ {g : GM} (h : Fine g) (o : Ord) {b : Int} (hb : 0 ≤ b ∧ b ≤ 255) : Fine (letG g o b).2 := h.V (by rw [List.length_set]; exact h.ok.V) (byte_set h.ok.Vb hb)
theorem Fine.flag {g : GM} (h : Fine g) (o : Ord) {b c : Int} (hb : 0 ≤ b ∧ b ≤ 255) (hc : 0 ≤ c ∧ c ≤ 255) : Fine (flagG g o b c).2 := h.V (by rw [List.length_set, List.length_set]; exact h.ok.V) (byte_set (byte_set h.ok.Vb hb) hc)
theorem bits8 (op : BinOp) (a b : Int) : 0 ≤ bits op .u8 a b ∧ bits op .u8 a b ≤ 255 := ⟨bits_lo_u8 op a b, bits_hi_u8 op a b⟩
theorem truthI_in (b : Bool) : 0 ≤ truthI b ∧ truthI b ≤ 255 := by cases b <;> decide
theorem Good.toByte {l : List Int} (h : Good l) : Byte l := fun x hx => by obtain ⟨b, hb, rfl⟩ := h.byte x hx; omega
theorem Fine.good {g : GM} (h : Fine g) : Good g.pg := ⟨h.pg, Byte.toN h.ok.pg⟩
theorem Fine.lay {g g' : GM} {bs : List Int} (h : Fine g) (hb : Byte bs) (hg : layG g bs = some g') : Fine g' := by
  unfold layG at hg
  split at hg
  · rename_i hi
    cases hg
    have hm := h.mm
    exact ⟨⟨h.ok.V, h.ok.Vb, h.ok.I, h.ok.PC, h.ok.st, h.ok.dl, h.ok.sd, h.ok.pg, spliceL_byte h.ok.mm hb⟩, h.pg, (spliceL_length (by omega)).trans hm, h.st⟩
  · cases hg
theorem Fine.do_ {g : GM} {o : Ord} {f : Fnt} {d : Feed} (h : Fine g) (ho : DecO o) (hf : OkF f) (hd : OkD d) : Fine (doG g o f d).2 := by
  have hx := byte_at h.ok.Vb o.x
  have hy := byte_at h.ok.Vb o.y
  have hb : (0 : Int) ≤ (o.b : Int) ∧ (o.b : Int) ≤ 255 := by have := ho.b; omega
  have ha : (0 : Int) ≤ (o.a : Int) ∧ (o.a : Int) ≤ 65535 := by have := ho.a; omega
  unfold doG
  split
  · exact ⟨⟨h.ok.V, h.ok.Vb, h.ok.I, h.ok.PC, h.ok.st, h.ok.dl, h.ok.sd, byte_rep 256, h.ok.mm⟩, List.length_replicate .., h.mm, h.st⟩
  · unfold backG
    split
    · exact h
    · exact ⟨⟨h.ok.V, h.ok.Vb, h.ok.I, word_at h.ok.st _, wd_take h.ok.st _, h.ok.dl, h.ok.sd, h.ok.pg, h.ok.mm⟩, h.pg, h.mm, Nat.le_trans (List.length_take_le' _ _) h.st⟩
  · exact h.PC ha
  · unfold callG
    split
    · exact h
    · rename_i hn
      have := h.st
      exact ⟨⟨h.ok.V, h.ok.Vb, h.ok.I, ha, wd_app h.ok.st h.ok.PC, h.ok.dl, h.ok.sd, h.ok.pg, h.ok.mm⟩, h.pg, h.mm, by rw [List.length_append]; simp only [List.length_cons, List.length_nil]; omega⟩
  · exact h.skip _
  · exact h.skip _
  · exact h.skip _
  · exact h.let_ o hb
  · exact h.let_ o (wrap8 _)
  · exact h.let_ o hy
  · exact h.flag o (bits8 _ _ _) (by decide)
  · exact h.flag o (bits8 _ _ _) (by decide)
  · exact h.flag o (wrap8 _) (truthI_in _)
  · exact h.flag o (wrap8 _) (truthI_in _)
  · exact h.skip _
  · exact h.I ha
  · exact h.PC (wrap16 _)
  · exact h.let_ o (bits8 _ _ _)
  · unfold drawG
    split
    · exact h
    · rename_i rows hr
      have hg : Good (drawn g.pg (vG g o.x).toNat (vG g o.y).toNat rows).2 := drawn_good h.good
      exact ⟨⟨by rw [List.length_set]; exact h.ok.V, byte_set h.ok.Vb (truthI_in _), h.ok.I, h.ok.PC, h.ok.st, h.ok.dl, h.ok.sd, hg.toByte, h.ok.mm⟩, hg.len, h.mm, h.st⟩
  · exact h.skip _
  · exact h.skip _
  · exact h.let_ o h.ok.dl
  · unfold keyG
    split
    · exact h
    · exact h.let_ o (wrap8 _)
  · exact ⟨⟨h.ok.V, h.ok.Vb, h.ok.I, h.ok.PC, h.ok.st, hx, h.ok.sd, h.ok.pg, h.ok.mm⟩, h.pg, h.mm, h.st⟩
  · exact ⟨⟨h.ok.V, h.ok.Vb, h.ok.I, h.ok.PC, h.ok.st, h.ok.dl, hx, h.ok.pg, h.ok.mm⟩, h.pg, h.mm, h.st⟩
  · exact h.I (wrap16 _)
  · exact h.I (word_at hf.atb _)
  · unfold threeG
    split
    · rename_i g' hg
      have hb3 : Byte (threeL g o) := fun x hx' => by
        unfold threeL at hx'
        simp only [List.mem_cons, List.not_mem_nil, or_false] at hx'
        rcases hx' with rfl | rfl | rfl <;> omega
      exact h.lay hb3 hg
    · exact h
  · unfold storeG
    split
    · rename_i g' hg
      have hl := h.lay (byte_take h.ok.Vb _) hg
      exact hl.I (wrap16 _)
    · exact h
  · unfold fillG
    split
    · exact h
    · rename_i bs hr
      have hl := rowG_length hr
      have hx := ho.x
      have hb := rowG_byte h.ok.mm hf.bs hr
      refine Fine.I (h.V ?_ (spliceL_byte h.ok.Vb hb)) (wrap16 _)
      rw [spliceL_length (by rw [hl, h.ok.V]; omega)]
      exact h.ok.V
  · exact h
theorem Fine.step {g : GM} {f : Fnt} {d : Feed} (h : Fine g) (hf : OkF f) (hd : OkD d) (he : (stepG g f d).2.2 = 0) : Fine (stepG g f d).1 := by
  unfold stepG at he ⊢
  rw [if_neg (by rw [h.check]; simp)] at he ⊢
  split at he
  · cases he
  · rename_i h1
    rw [if_neg h1]
    split
    · exact h
    · rename_i h2
      dsimp only
      split
      · exact h
      · exact Fine.do_ (h.PC (wrap16 _)) (nextG_dec (by omega)).1 hf hd
theorem stepG_ok {g : GM} {f : Fnt} {d : Feed} (h : OkG g) (hf : OkF f) (hd : OkD d) : OkG (stepG g f d).1 := by
  by_cases hc : checkE g = 0
  · by_cases he : (stepG g f d).2.2 = 0
    · exact ((fine_of h hc).step hf hd he).ok
    · unfold stepG at he ⊢
      rw [if_neg (by rw [hc]; simp)] at he ⊢
      split
      · exact zeroG_ok
      · rename_i h1
        rw [if_neg h1] at he
        split at he
        · exact absurd rfl he
        · dsimp only at he
          split at he <;> exact absurd rfl he
  · unfold stepG
    rw [if_pos hc]
    exact zeroG_ok
theorem decB_in {x : Int} (h : 0 ≤ x ∧ x ≤ 255) : 0 ≤ decB x ∧ decB x ≤ 255 := by unfold decB; split <;> omega
theorem Fine.tick {g : GM} (h : Fine g) : Fine (tickG g) := by
  unfold tickG
  rw [if_neg (by rw [h.check]; simp)]
  exact ⟨⟨h.ok.V, h.ok.Vb, h.ok.I, h.ok.PC, h.ok.st, decB_in h.ok.dl, decB_in h.ok.sd, h.ok.pg, h.ok.mm⟩, h.pg, h.mm, h.st⟩
theorem tickG_ok {g : GM} (h : OkG g) : OkG (tickG g) := by
  by_cases hc : checkE g = 0
  · exact (fine_of h hc).tick.ok
  · unfold tickG
    rw [if_pos hc]
    exact zeroG_ok
end Go.Proofs.Ytgioegdjeodpiaa
set_option linter.unusedVariables false
set_option linter.unusedSimpArgs false
namespace Go.Proofs.Ytgioegdjeodpiaa
open Go.RowKit Go.SX
open Go.SX renaming ia_someH → Φa

def awP : List Int := [97, 5, 98, 255, 130, 20]
def zeroF : Fnt := ⟨List.replicate 16 0, 0, []⟩
def quietD : Feed := ⟨0, 0, -1⟩
def awG : Nat → GM
  | 0 => (newG awP).1
  | k + 1 => (stepG (awG k) zeroF quietD).1
theorem awP_byte : Byte awP := fun x hx => by
  simp only [awP, List.mem_cons, List.not_mem_nil, or_false] at hx
  omega
theorem zeroF_ok : OkF zeroF := ⟨rfl, fun x hx => (by rw [List.eq_of_mem_replicate hx]; omega), by decide, fun x hx => (by simp [zeroF] at hx)⟩
theorem quietD_ok : OkD quietD := ⟨by decide, by decide⟩
def resOk (r : GM × Int × Int) : Bool := decide (r.2.1 = 1) && decide (r.2.2 = 0)
theorem aw_all : ((List.range 3).all fun k => resOk (stepG (awG k) zeroF quietD)) = true := by kernel_rfl
theorem aw_step {k : Nat} (h : k < 3) : stepG (awG k) zeroF quietD = (awG (k + 1), 1, 0) := by
  have h1 := List.all_eq_true.1 aw_all k (List.mem_range.2 h)
  simp only [resOk, Bool.and_eq_true, decide_eq_true_eq] at h1
  rw [show awG (k + 1) = (stepG (awG k) zeroF quietD).1 from rfl, ← h1.1, ← h1.2]
theorem aw_fine : ∀ k, k ≤ 3 → Fine (awG k)
  | 0, _ => (newG_fine awP_byte (by decide)).1
  | k + 1, h => (aw_fine k (by omega)).step zeroF_ok quietD_ok (by rw [aw_step (by omega)])
theorem aw_end : (awG 3).V.getD 1 0 = 5 ∧ (awG 3).V.getD 2 0 = 4 ∧ (awG 3).V.getD 15 0 = 1 ∧ (awG 3).PC = 518 := by
  refine ⟨?_, ?_, ?_, ?_⟩ <;> kernel_rfl
def awR (G : Nat → GM) (k : Nat) (L : Hp) (v : Value) (L' : Hp) : Prop := ∃ sv pv mv s1 s2 s3, v = .tuple #[.agg ((G k).cells sv pv mv).toArray, .int .u8 1, .int .i64 0] ∧ L' = s1 :: s2 :: s3 :: L ∧ Rows (G k) sv pv mv s1 s2 s3
def aw0R (G : Nat → GM) (L : Hp) (v : Value) (L' : Hp) : Prop := ∃ sv pv mv s1 s2 s3, v = .tuple #[.agg ((G 0).cells sv pv mv).toArray, .int .i64 0] ∧ L' = s1 :: s2 :: s3 :: L ∧ Rows (G 0) sv pv mv s1 s2 s3
theorem aw_new {Γ : Ctx} (hP : Γ.P = Try.prog) {L : Hp} {v : Value} (hp : SlI .u8 (Cell Γ L) v awP) : SCall Γ 13 #[v] L (aw0R awG L) := by
  refine SCall.mono (New_spec hP hp (by decide)) ?_
  rintro v' L' ⟨sv, pv, mv, s1, s2, s3, rfl, rfl, h⟩
  rw [(newG_fine awP_byte (by decide)).2]
  exact ⟨sv, pv, mv, s1, s2, s3, rfl, rfl, h⟩
theorem aw_call {Γ : Ctx} (hP : Γ.P = Try.prog) {L : Hp} {k : Nat} (hk : k < 3) {sv pv mv : Value} (hs : SlI .u16 (Cell Γ L) sv (awG k).st) (hp : SlI .u8 (Cell Γ L) pv (awG k).pg) (hm : SlI .u8 (Cell Γ L) mv (awG k).mm) :
    SCall Γ 25 #[.agg ((awG k).cells sv pv mv).toArray, .agg (zeroF.cells (.slice none 0 0)).toArray, .agg quietD.cells.toArray] L (awR awG (k + 1) L) := by
  have hF := aw_fine k (by omega)
  have h1 := hF.st
  have h2 := hF.pg
  have h3 := hF.mm
  have := Step_spec (Γ := Γ) (L := L) (fv := .slice none 0 0) hP hF.ok zeroF_ok quietD_ok hs hp hm ⟨none, 0, rfl, Nat.le_refl _, fun j x hj => (by simp [zeroF] at hj)⟩ (by omega) (by omega) (by omega) (by decide)
  rwa [aw_step hk] at this
theorem lessBox (a b c p : Slot) (L : Hp) : Less (a :: b :: c :: p :: L) (p :: a :: b :: c :: L) := Less.perm (List.perm_middle (l₁ := [a, b, c]))
set_option maxHeartbeats 1000000 in
set_option maxRecDepth 100000 in
theorem awake_core {Γ : Ctx} (hP : Γ.P = Try.prog) {L : Hp} {G : Nat → GM} (hF : ∀ k, k ≤ 3 → Fine (G k)) (h0 : (G 0).PC = 512) (hend : (G 3).V.getD 1 0 = 5 ∧ (G 3).V.getD 2 0 = 4 ∧ (G 3).V.getD 15 0 = 1 ∧ (G 3).PC = 518) (hnew : ∀ (L : Hp) (v : Value), SlI .u8 (Cell Γ L) v awP → SCall Γ 13 #[v] L (aw0R G L)) (hcall : ∀ (L : Hp) (k : Nat) (sv pv mv : Value), k < 3 → SlI .u16 (Cell Γ L) sv (G k).st → SlI .u8 (Cell Γ L) pv (G k).pg → SlI .u8 (Cell Γ L) mv (G k).mm → SCall Γ 25 #[.agg ((G k).cells sv pv mv).toArray, .agg (zeroF.cells (.slice none 0 0)).toArray, .agg quietD.cells.toArray] L (awR G (k + 1) L)) :
    SCall Γ 11 #[] L (fun v L' => v = .bool true ∧ L' = L) := by
  have aw0PC := h0
  have aw0mm : ((G 0).mm.length : Int) = 3232 := by rw [(hF 0 (by decide)).mm]; rfl
  have aw0pg : ((G 0).pg.length : Int) = 256 := by rw [(hF 0 (by decide)).pg]; rfl
  refine SCall.enter (n := 71) (res1 0) (hP ▸ Try.func11) rfl rfl (by simp) (res1_ok rfl) ?_
  refine SX.seq_k fun K1 hK1 => ?_
  refine SX.region_d [some 0] rfl (fun ops hops => ?_)
  unfold Dsts at hops
  simp (maxSteps:=1000000)(dsimp:=false)(disch:=omega) only [go_sem, Φa, hP, hops]
  refine hK1 _ _ ?_
  try clear hK1 K1
  refine SX.seq_k fun K2 hK2 => ?_
  refine SX.region_d [some 8, some 9, some 7, some 10, some 11, some 1, none, some 2] rfl (fun ops hops => ?_)
  unfold Dsts at hops
  simp (maxSteps:=1000000)(dsimp:=false)(disch:=omega) only [go_sem, Φa, hP, hops]
  intro b0
  try with_reducible refine stI ?_
  try simp (maxSteps:=1000000)(dsimp:=false)(disch:=omega) only [go_sem, Φa, hP, hops]
  refine SCall.mono (hnew _ _ (SlI.own (xs := awP) 0 rfl rfl (by decide))) ?_
  rintro v_ L_ ⟨sv, pv, mv, s1, s2, s3, rfl, rfl, hr⟩
  obtain ⟨A0st, c0st, rfl, hc0st⟩ := rowShape hr.st
  obtain ⟨A0pg, c0pg, rfl, hc0pg⟩ := rowShape hr.pg
  obtain ⟨A0mm, c0mm, rfl, hc0mm⟩ := rowShape hr.mm
  unfold GM.cells
  try with_reducible refine stI ?_
  try simp (maxSteps:=1000000)(dsimp:=false)(disch:=omega) only [go_sem, Φa, hP, hops]
  intro b1
  try with_reducible refine stI ?_
  try simp (maxSteps:=1000000)(dsimp:=false)(disch:=omega) only [go_sem, Φa, hP, hops]
  refine ⟨0, _, _, _, rfl, by decide, .inr (by decide), ?_⟩
  try with_reducible refine stI ?_
  try simp (maxSteps:=1000000)(dsimp:=false)(disch:=omega) only [go_sem, Φa, hP, hops]
  refine hK2 _ _ ?_
  try clear hK2 K2
  refine SX.seq_k fun K3 hK3 => ?_
  refine SX.seq_k fun K4 hK4 => ?_
  refine SX.region_xd [some 12, some 13, some 14, some 15, some 16, some 17, some 18, some 19, some 20, some 21, some 22, some 23, some 24, some 25, some 26, some 27, some 28, some 29, some 30] rfl (fun ops hops => ?_)
  unfold Dsts at hops
  refine RX.live [1, 2] (fun T1 hT1 => ?_)
  simp only [forall_mem_cons', forall_mem_nil', go_sem, Φa, hP] at hT1
  obtain ⟨h1_1, h1_2⟩ := hT1
  refine RX.join 7 (fun (ss : Unit) T L' => T 18 = .bool (false) ∧ T 1 = T1 1 ∧ L' = some (b1, .cells ((G 0).cells (.slice A0st (G 0).st.length c0st) (.slice A0pg (G 0).pg.length c0pg) (.slice A0mm (G 0).mm.length c0mm)).toArray 29 (0, 0)) :: s1 :: s2 :: s3 :: some (b0, .cells (ints .u8 awP).toArray 5 (0, 0)) :: L ∧ (True)) (fun K5 hK5 => ?_) ?_
  · simp only [h1_1] at hK5
    simp (maxSteps:=1000000)(dsimp:=false)(disch:=omega) only [go_sem, Φa, hP, h1_1, h1_2, hops]
    repeat' (first | refine iteB (fun hg => ?_) (fun hg => ?_) | refine iteI (fun hg => ?_) (fun hg => ?_) | ((first | refine ⟨_, Cell.at 0 rfl (show ((G 0).cells _ _ _)[17]? = some (.int .u16 (G 0).PC) from rfl), ?_⟩ | refine And.intro (by omega) ?_ | refine ⟨_, Cell.at 0 rfl rfl, ?_⟩ | refine ⟨_, Cell.at 1 rfl rfl, ?_⟩ | refine ⟨_, Cell.at 2 rfl rfl, ?_⟩ | refine ⟨_, Cell.at 3 rfl rfl, ?_⟩ | refine ⟨_, Cell.at 4 rfl rfl, ?_⟩ | fail); try (with_reducible refine stI ?_); try simp (maxSteps:=1000000)(dsimp:=false)(disch:=omega) only [go_sem, Φa, hP, h1_1, h1_2, hops]) | fail)
    all_goals
      refine hK5 () _ (some (b1, .cells ((G 0).cells (.slice A0st (G 0).st.length c0st) (.slice A0pg (G 0).pg.length c0pg) (.slice A0mm (G 0).mm.length c0mm)).toArray 29 (0, 0)) :: s1 :: s2 :: s3 :: some (b0, .cells (ints .u8 awP).toArray 5 (0, 0)) :: L) _ (by first | exact Less.refl _ | exact Less.drop _ _ | exact Less.drops (Less.drop _ _) | exact Less.drops (Less.drops (Less.drop _ _)) | exact Less.drops (Less.drops (Less.drops (Less.drop _ _))) | exact Less.drops (Less.drops (Less.drops (Less.drops (Less.drop _ _))))) ?_
      try dsimp only
      refine ⟨?_, ?_, ?_, ?_⟩
      · simp (maxSteps:=1000000)(dsimp:=false)(disch:=omega) only [go_sem, Φa, hP, h1_1, h1_2]
        first | done | exact congrArg _ (decide_eq_decide.2 (by omega)) | exact congrArg _ (decide_eq_true (by omega)).symm | exact congrArg _ (decide_eq_false (by omega)).symm
      · simp (maxSteps:=1000000)(dsimp:=false)(disch:=omega) only [go_sem, Φa, hP, h1_1, h1_2]
      · rfl
      · trivial
  · intro ss T2 L2 hI
    simp only [h1_1] at hI 
    obtain ⟨h2_18, h2_1, hL2, hinv⟩ := hI
    replace hL2 := hL2.symm
    subst hL2
    clear h1_1 h1_2 T1
    refine RX.live [1, 18] (fun T3 hT3 => ?_)
    simp only [forall_mem_cons', forall_mem_nil', go_sem, Φa, hP, h2_18, h2_1] at hT3
    obtain ⟨h3_1, h3_18⟩ := hT3
    clear h2_18 h2_1 T2
    refine RX.join 6 (fun (ss : Unit) T L' => T 24 = .bool (false) ∧ T 1 = T3 1 ∧ L' = some (b1, .cells ((G 0).cells (.slice A0st (G 0).st.length c0st) (.slice A0pg (G 0).pg.length c0pg) (.slice A0mm (G 0).mm.length c0mm)).toArray 29 (0, 0)) :: s1 :: s2 :: s3 :: some (b0, .cells (ints .u8 awP).toArray 5 (0, 0)) :: L ∧ (True)) (fun K6 hK6 => ?_) ?_
    · simp only [h3_1] at hK6
      simp (maxSteps:=1000000)(dsimp:=false)(disch:=omega) only [go_sem, Φa, hP, h3_1, h3_18, hops]
      repeat' (first | refine iteB (fun hg => ?_) (fun hg => ?_) | refine iteI (fun hg => ?_) (fun hg => ?_) | ((first | refine ⟨_, Cell.at 0 rfl (show ((G 0).cells _ _ _)[17]? = some (.int .u16 (G 0).PC) from rfl), ?_⟩ | refine And.intro (by omega) ?_ | refine ⟨_, Cell.at 0 rfl rfl, ?_⟩ | refine ⟨_, Cell.at 1 rfl rfl, ?_⟩ | refine ⟨_, Cell.at 2 rfl rfl, ?_⟩ | refine ⟨_, Cell.at 3 rfl rfl, ?_⟩ | refine ⟨_, Cell.at 4 rfl rfl, ?_⟩ | fail); try (with_reducible refine stI ?_); try simp (maxSteps:=1000000)(dsimp:=false)(disch:=omega) only [go_sem, Φa, hP, h3_1, h3_18, hops]) | fail)
      all_goals
        refine hK6 () _ (some (b1, .cells ((G 0).cells (.slice A0st (G 0).st.length c0st) (.slice A0pg (G 0).pg.length c0pg) (.slice A0mm (G 0).mm.length c0mm)).toArray 29 (0, 0)) :: s1 :: s2 :: s3 :: some (b0, .cells (ints .u8 awP).toArray 5 (0, 0)) :: L) _ (by first | exact Less.refl _ | exact Less.drop _ _ | exact Less.drops (Less.drop _ _) | exact Less.drops (Less.drops (Less.drop _ _)) | exact Less.drops (Less.drops (Less.drops (Less.drop _ _))) | exact Less.drops (Less.drops (Less.drops (Less.drops (Less.drop _ _))))) ?_
        try dsimp only
        refine ⟨?_, ?_, ?_, ?_⟩
        · simp (maxSteps:=1000000)(dsimp:=false)(disch:=omega) only [go_sem, Φa, hP, h3_1, h3_18]
          first | done | exact congrArg _ (decide_eq_decide.2 (by omega)) | exact congrArg _ (decide_eq_true (by omega)).symm | exact congrArg _ (decide_eq_false (by omega)).symm
        · simp (maxSteps:=1000000)(dsimp:=false)(disch:=omega) only [go_sem, Φa, hP, h3_1, h3_18]
        · rfl
        · trivial
    · intro ss T4 L4 hI
      simp only [h3_1] at hI 
      obtain ⟨h4_24, h4_1, hL4, hinv⟩ := hI
      replace hL4 := hL4.symm
      subst hL4
      clear h3_1 h3_18 T3
      refine RX.live [1, 24] (fun T5 hT5 => ?_)
      simp only [forall_mem_cons', forall_mem_nil', go_sem, Φa, hP, h4_24, h4_1] at hT5
      obtain ⟨h5_1, h5_24⟩ := hT5
      clear h4_24 h4_1 T4
      refine RX.join 6 (fun (ss : Unit) T L' => T 30 = .bool (false) ∧ T 1 = T5 1 ∧ L' = some (b1, .cells ((G 0).cells (.slice A0st (G 0).st.length c0st) (.slice A0pg (G 0).pg.length c0pg) (.slice A0mm (G 0).mm.length c0mm)).toArray 29 (0, 0)) :: s1 :: s2 :: s3 :: some (b0, .cells (ints .u8 awP).toArray 5 (0, 0)) :: L ∧ (True)) (fun K7 hK7 => ?_) ?_
      · simp only [h5_1] at hK7
        simp (maxSteps:=1000000)(dsimp:=false)(disch:=omega) only [go_sem, Φa, hP, h5_1, h5_24, hops]
        repeat' (first | refine iteB (fun hg => ?_) (fun hg => ?_) | refine iteI (fun hg => ?_) (fun hg => ?_) | ((first | refine ⟨_, Cell.at 0 rfl (show ((G 0).cells _ _ _)[17]? = some (.int .u16 (G 0).PC) from rfl), ?_⟩ | refine And.intro (by omega) ?_ | refine ⟨_, Cell.at 0 rfl rfl, ?_⟩ | refine ⟨_, Cell.at 1 rfl rfl, ?_⟩ | refine ⟨_, Cell.at 2 rfl rfl, ?_⟩ | refine ⟨_, Cell.at 3 rfl rfl, ?_⟩ | refine ⟨_, Cell.at 4 rfl rfl, ?_⟩ | fail); try (with_reducible refine stI ?_); try simp (maxSteps:=1000000)(dsimp:=false)(disch:=omega) only [go_sem, Φa, hP, h5_1, h5_24, hops]) | fail)
        all_goals
          refine hK7 () _ (some (b1, .cells ((G 0).cells (.slice A0st (G 0).st.length c0st) (.slice A0pg (G 0).pg.length c0pg) (.slice A0mm (G 0).mm.length c0mm)).toArray 29 (0, 0)) :: s1 :: s2 :: s3 :: some (b0, .cells (ints .u8 awP).toArray 5 (0, 0)) :: L) _ (by first | exact Less.refl _ | exact Less.drop _ _ | exact Less.drops (Less.drop _ _) | exact Less.drops (Less.drops (Less.drop _ _)) | exact Less.drops (Less.drops (Less.drops (Less.drop _ _))) | exact Less.drops (Less.drops (Less.drops (Less.drops (Less.drop _ _))))) ?_
          try dsimp only
          refine ⟨?_, ?_, ?_, ?_⟩
          · simp (maxSteps:=1000000)(dsimp:=false)(disch:=omega) only [go_sem, Φa, hP, h5_1, h5_24]
            first | done | exact congrArg _ (decide_eq_decide.2 (by omega)) | exact congrArg _ (decide_eq_true (by omega)).symm | exact congrArg _ (decide_eq_false (by omega)).symm
          · simp (maxSteps:=1000000)(dsimp:=false)(disch:=omega) only [go_sem, Φa, hP, h5_1, h5_24]
          · rfl
          · trivial
      · intro ss T6 L6 hI
        simp only [h5_1] at hI 
        obtain ⟨h6_30, h6_1, hL6, hinv⟩ := hI
        replace hL6 := hL6.symm
        subst hL6
        clear h5_1 h5_24 T5
        refine RX.done ?_
        simp (maxSteps:=1000000)(dsimp:=false)(disch:=omega) only [go_sem, Φa, hP, h6_30, h6_1, hops]
        refine hK4 _ _ ?_
        try clear hK4 K4
        refine SX.cond_k fun X8 Y8 hX8 hY8 => ?_
        simp (maxSteps:=1000000)(dsimp:=false)(disch:=omega) only [go_sem, Φa, hP, h6_30, h6_1, condVC]
        refine hY8 ?_
        clear hX8 hY8 X8 Y8
        refine SX.skip ?_
        try simp only [andThen_normal, andThen_ret, andThen_exit, inBlk_normal, inBlk_ret, inBlk_exit, Nat.reduceEqDiff, if_true, if_false, ↓reduceIte]
        refine hK3 _ _ ?_
        try clear hK3 K3
        refine SX.seq_k fun K9 hK9 => ?_
        refine SX.seq_k fun K10 hK10 => ?_
        refine SX.region_d [some 3] rfl (fun ops hops => ?_)
        unfold Dsts at hops
        simp (maxSteps:=1000000)(dsimp:=false)(disch:=omega) only [go_sem, Φa, hP, h6_30, h6_1, hops]
        refine hK10 _ _ ?_
        try clear hK10 K10
        refine SX.block ?_
        refine SX.less (Less.sublist (.cons_cons _ (.cons_cons _ (.cons_cons _ (.cons_cons _ (.cons _ (List.Sublist.refl _))))))) ?_
        refine SX.live [1, 3] (fun T7 hT7 => ?_)
        simp only [forall_mem_cons', forall_mem_nil', go_sem, Φa, hP, h6_30, h6_1] at hT7
        obtain ⟨h7_1, h7_3⟩ := hT7
        clear h6_30 h6_1 T6
        refine SX.loop_k (fun (ss : (Nat) × (Value) × (Value) × (Value) × (Slot) × (Slot) × (Slot)) T L' => (fun (k : Nat) (sv : Value) (pv : Value) (mv : Value) (s1 : Slot) (s2 : Slot) (s3 : Slot) => T 3 = .int .i64 (k : Int) ∧ T 1 = T7 1 ∧ L' = some (b1, .cells ((G k).cells sv pv mv).toArray 29 (0, 0)) :: s1 :: s2 :: s3 :: L ∧ (k ≤ 3 ∧ Rows (G k) sv pv mv s1 s2 s3)) (ss.1) (ss.2.1) (ss.2.2.1) (ss.2.2.2.1) (ss.2.2.2.2.1) (ss.2.2.2.2.2.1) (ss.2.2.2.2.2.2)) (fun (ss : (Nat) × (Value) × (Value) × (Value) × (Slot) × (Slot) × (Slot)) => (fun (k : Nat) (sv : Value) (pv : Value) (mv : Value) (s1 : Slot) (s2 : Slot) (s3 : Slot) => 3 - k) (ss.1) (ss.2.1) (ss.2.2.1) (ss.2.2.2.1) (ss.2.2.2.2.1) (ss.2.2.2.2.2.1) (ss.2.2.2.2.2.2)) (0, .slice A0st (G 0).st.length c0st, .slice A0pg (G 0).pg.length c0pg, .slice A0mm (G 0).mm.length c0mm, s1, s2, s3) ?_ ?_
        · try dsimp only
          refine ⟨?_, ?_, ?_, ?_⟩
          · first | exact h7_3 | (rw [h7_3]; rfl) | (rw [h7_3]; simp; done)
          · rfl
          · rfl
          · exact ⟨Nat.zero_le _, hr⟩
        · intro ss T8 L8 hI K11 hK11
          obtain ⟨k, sv, pv, mv, s1, s2, s3⟩ := ss
          try dsimp only at hI hK11
          simp only [h7_1] at hI hK11
          obtain ⟨h8_3, h8_1, hL8, ⟨hk, hr⟩⟩ := hI
          replace hL8 := hL8.symm
          subst hL8
          clear h7_1 h7_3 T7
          refine SX.seq_k fun K12 hK12 => ?_
          refine SX.seq_k fun K13 hK13 => ?_
          refine SX.region_d [some 31, some 32] rfl (fun ops hops => ?_)
          unfold Dsts at hops
          simp (maxSteps:=1000000)(dsimp:=false)(disch:=omega) only [go_sem, Φa, hP, h8_3, h8_1, hops]
          repeat' ((first | refine And.intro (by omega) ?_ | fail); try (with_reducible refine stI ?_); try simp (maxSteps:=1000000)(dsimp:=false)(disch:=omega) only [go_sem, Φa, hP, h8_3, h8_1, hops])
          refine hK13 _ _ ?_
          try clear hK13 K13
          refine SX.cond_k fun X14 Y14 hX14 hY14 => ?_
          simp (maxSteps:=1000000)(dsimp:=false)(disch:=omega) only [go_sem, Φa, hP, h8_3, h8_1, condVC]
          refine ⟨fun hc32 => hX14 ?_, fun hc32 => hY14 ?_⟩
          · clear hX14 hY14 X14 Y14
            refine SX.skip ?_
            try simp only [andThen_normal, andThen_ret, andThen_exit, inBlk_normal, inBlk_ret, inBlk_exit, Nat.reduceEqDiff, if_true, if_false, ↓reduceIte]
            refine hK12 _ _ ?_
            try clear hK12 K12
            refine SX.seq_k fun K15 hK15 => ?_
            refine SX.block ?_
            refine SX.seq_k fun K16 hK16 => ?_
            have hk3 : k < 3 := by omega
            refine SX.region_d [some 36, some 37, some 38, some 39, some 35, some 40, some 41, some 42, some 4, none, some 5, some 6] rfl (fun ops hops => ?_)
            unfold Dsts at hops
            simp (maxSteps:=1000000)(dsimp:=false)(disch:=omega) only [go_sem, Φa, hP, h8_3, h8_1, hops]
            obtain ⟨A0st, c0st, rfl, hc0st⟩ := rowShape hr.st
            obtain ⟨A0pg, c0pg, rfl, hc0pg⟩ := rowShape hr.pg
            obtain ⟨A0mm, c0mm, rfl, hc0mm⟩ := rowShape hr.mm
            refine ⟨_, Cell.at 0 rfl rfl, ?_⟩
            try with_reducible refine stI ?_
            try simp (maxSteps:=1000000)(dsimp:=false)(disch:=omega) only [go_sem, Φa, hP, h8_3, h8_1, hops]
            refine ⟨_, Cell.at 0 rfl rfl, ?_⟩
            try with_reducible refine stI ?_
            try simp (maxSteps:=1000000)(dsimp:=false)(disch:=omega) only [go_sem, Φa, hP, h8_3, h8_1, hops]
            refine ⟨_, Cell.at 0 rfl rfl, ?_⟩
            try with_reducible refine stI ?_
            try simp (maxSteps:=1000000)(dsimp:=false)(disch:=omega) only [go_sem, Φa, hP, h8_3, h8_1, hops]
            refine ⟨_, Cell.at 0 rfl rfl, ?_⟩
            try with_reducible refine stI ?_
            try simp (maxSteps:=1000000)(dsimp:=false)(disch:=omega) only [go_sem, Φa, hP, h8_3, h8_1, hops]
            refine ⟨_, Cell.at 0 rfl rfl, ?_⟩
            try with_reducible refine stI ?_
            try simp (maxSteps:=1000000)(dsimp:=false)(disch:=omega) only [go_sem, Φa, hP, h8_3, h8_1, hops]
            refine ⟨_, Cell.at 0 rfl rfl, ?_⟩
            try with_reducible refine stI ?_
            try simp (maxSteps:=1000000)(dsimp:=false)(disch:=omega) only [go_sem, Φa, hP, h8_3, h8_1, hops]
            refine ⟨_, Cell.at 0 rfl rfl, ?_⟩
            try with_reducible refine stI ?_
            try simp (maxSteps:=1000000)(dsimp:=false)(disch:=omega) only [go_sem, Φa, hP, h8_3, h8_1, hops]
            refine ⟨_, Cell.at 0 rfl rfl, ?_⟩
            try with_reducible refine stI ?_
            try simp (maxSteps:=1000000)(dsimp:=false)(disch:=omega) only [go_sem, Φa, hP, h8_3, h8_1, hops]
            refine ⟨_, Cell.at 0 rfl rfl, ?_⟩
            try with_reducible refine stI ?_
            try simp (maxSteps:=1000000)(dsimp:=false)(disch:=omega) only [go_sem, Φa, hP, h8_3, h8_1, hops]
            refine ⟨_, Cell.at 0 rfl rfl, ?_⟩
            try with_reducible refine stI ?_
            try simp (maxSteps:=1000000)(dsimp:=false)(disch:=omega) only [go_sem, Φa, hP, h8_3, h8_1, hops]
            refine ⟨_, Cell.at 0 rfl rfl, ?_⟩
            try with_reducible refine stI ?_
            try simp (maxSteps:=1000000)(dsimp:=false)(disch:=omega) only [go_sem, Φa, hP, h8_3, h8_1, hops]
            refine ⟨_, Cell.at 0 rfl rfl, ?_⟩
            try with_reducible refine stI ?_
            try simp (maxSteps:=1000000)(dsimp:=false)(disch:=omega) only [go_sem, Φa, hP, h8_3, h8_1, hops]
            refine ⟨_, Cell.at 0 rfl rfl, ?_⟩
            try with_reducible refine stI ?_
            try simp (maxSteps:=1000000)(dsimp:=false)(disch:=omega) only [go_sem, Φa, hP, h8_3, h8_1, hops]
            refine ⟨_, Cell.at 0 rfl rfl, ?_⟩
            try with_reducible refine stI ?_
            try simp (maxSteps:=1000000)(dsimp:=false)(disch:=omega) only [go_sem, Φa, hP, h8_3, h8_1, hops]
            refine ⟨_, Cell.at 0 rfl rfl, ?_⟩
            try with_reducible refine stI ?_
            try simp (maxSteps:=1000000)(dsimp:=false)(disch:=omega) only [go_sem, Φa, hP, h8_3, h8_1, hops]
            refine ⟨_, Cell.at 0 rfl rfl, ?_⟩
            try with_reducible refine stI ?_
            try simp (maxSteps:=1000000)(dsimp:=false)(disch:=omega) only [go_sem, Φa, hP, h8_3, h8_1, hops]
            refine ⟨_, Cell.at 0 rfl rfl, ?_⟩
            try with_reducible refine stI ?_
            try simp (maxSteps:=1000000)(dsimp:=false)(disch:=omega) only [go_sem, Φa, hP, h8_3, h8_1, hops]
            refine ⟨_, Cell.at 0 rfl rfl, ?_⟩
            try with_reducible refine stI ?_
            try simp (maxSteps:=1000000)(dsimp:=false)(disch:=omega) only [go_sem, Φa, hP, h8_3, h8_1, hops]
            refine ⟨_, Cell.at 0 rfl rfl, ?_⟩
            try with_reducible refine stI ?_
            try simp (maxSteps:=1000000)(dsimp:=false)(disch:=omega) only [go_sem, Φa, hP, h8_3, h8_1, hops]
            refine ⟨_, Cell.at 0 rfl rfl, ?_⟩
            try with_reducible refine stI ?_
            try simp (maxSteps:=1000000)(dsimp:=false)(disch:=omega) only [go_sem, Φa, hP, h8_3, h8_1, hops]
            refine ⟨_, Cell.at 0 rfl rfl, ?_⟩
            try with_reducible refine stI ?_
            try simp (maxSteps:=1000000)(dsimp:=false)(disch:=omega) only [go_sem, Φa, hP, h8_3, h8_1, hops]
            refine ⟨_, Cell.at 0 rfl rfl, ?_⟩
            try with_reducible refine stI ?_
            try simp (maxSteps:=1000000)(dsimp:=false)(disch:=omega) only [go_sem, Φa, hP, h8_3, h8_1, hops]
            refine ⟨_, Cell.at 0 rfl rfl, ?_⟩
            try with_reducible refine stI ?_
            try simp (maxSteps:=1000000)(dsimp:=false)(disch:=omega) only [go_sem, Φa, hP, h8_3, h8_1, hops]
            refine SCall.mono (hcall _ _ _ _ _ hk3 (RowI.sl hr.st (i := 1) rfl) (RowI.sl hr.pg (i := 2) rfl) (RowI.sl hr.mm (i := 3) rfl)) ?_
            rintro v_ L_ ⟨sv', pv', mv', s1', s2', s3', rfl, rfl, hr'⟩
            obtain ⟨A1st, c1st, rfl, hc1st⟩ := rowShape hr'.st
            obtain ⟨A1pg, c1pg, rfl, hc1pg⟩ := rowShape hr'.pg
            obtain ⟨A1mm, c1mm, rfl, hc1mm⟩ := rowShape hr'.mm
            unfold GM.cells
            try with_reducible refine stI ?_
            try simp (maxSteps:=1000000)(dsimp:=false)(disch:=omega) only [go_sem, Φa, hP, h8_3, h8_1, hops]
            intro b4
            try with_reducible refine stI ?_
            try simp (maxSteps:=1000000)(dsimp:=false)(disch:=omega) only [go_sem, Φa, hP, h8_3, h8_1, hops]
            refine ⟨0, _, _, _, rfl, by decide, .inr (by decide), ?_⟩
            try with_reducible refine stI ?_
            try simp (maxSteps:=1000000)(dsimp:=false)(disch:=omega) only [go_sem, Φa, hP, h8_3, h8_1, hops]
            refine hK16 _ _ ?_
            try clear hK16 K16
            refine SX.live [1, 3, 4, 5, 6] (fun T9 hT9 => ?_)
            simp only [forall_mem_cons', forall_mem_nil', go_sem, Φa, hP, h8_3, h8_1] at hT9
            obtain ⟨h9_1, h9_3, h9_4, h9_5, h9_6⟩ := hT9
            clear h8_3 h8_1 T8
            refine SX.seq_k fun K17 hK17 => ?_
            refine SX.seq_k fun K18 hK18 => ?_
            refine SX.region_xd [some 43, some 44, some 45, some 46, some 47, some 48] rfl (fun ops hops => ?_)
            unfold Dsts at hops
            refine RX.live [1, 3, 4, 5, 6] (fun T10 hT10 => ?_)
            simp only [forall_mem_cons', forall_mem_nil', go_sem, Φa, hP, h9_1, h9_3, h9_4, h9_5, h9_6] at hT10
            obtain ⟨h10_1, h10_3, h10_4, h10_5, h10_6⟩ := hT10
            clear h9_1 h9_3 h9_4 h9_5 h9_6 T9
            refine RX.join 6 (fun (ss : Unit) T L' => T 48 = .bool (false) ∧ T 1 = T10 1 ∧ T 3 = T10 3 ∧ T 4 = T10 4 ∧ L' = some (b4, .cells ((G (k + 1)).cells (.slice A1st (G (k + 1)).st.length c1st) (.slice A1pg (G (k + 1)).pg.length c1pg) (.slice A1mm (G (k + 1)).mm.length c1mm)).toArray 29 (0, 0)) :: s1' :: s2' :: s3' :: some (b1, .cells ((G k).cells (.slice A0st (G k).st.length c0st) (.slice A0pg (G k).pg.length c0pg) (.slice A0mm (G k).mm.length c0mm)).toArray 29 (0, 0)) :: s1 :: s2 :: s3 :: L ∧ (True)) (fun K19 hK19 => ?_) ?_
            · simp only [h10_1, h10_3, h10_4] at hK19
              simp (maxSteps:=1000000)(dsimp:=false)(disch:=omega) only [go_sem, Φa, hP, h10_1, h10_3, h10_4, h10_5, h10_6, hops]
              repeat' (first | refine iteB (fun hg => ?_) (fun hg => ?_) | refine iteI (fun hg => ?_) (fun hg => ?_) | ((first | refine And.intro (by omega) ?_ | refine ⟨_, Cell.at 0 rfl rfl, ?_⟩ | refine ⟨_, Cell.at 1 rfl rfl, ?_⟩ | refine ⟨_, Cell.at 2 rfl rfl, ?_⟩ | refine ⟨_, Cell.at 3 rfl rfl, ?_⟩ | refine ⟨_, Cell.at 4 rfl rfl, ?_⟩ | refine ⟨_, Cell.at 5 rfl rfl, ?_⟩ | refine ⟨_, Cell.at 6 rfl rfl, ?_⟩ | refine ⟨_, Cell.at 7 rfl rfl, ?_⟩ | fail); try (with_reducible refine stI ?_); try simp (maxSteps:=1000000)(dsimp:=false)(disch:=omega) only [go_sem, Φa, hP, h10_1, h10_3, h10_4, h10_5, h10_6, hops]) | fail)
              all_goals
                refine hK19 () _ (some (b4, .cells ((G (k + 1)).cells (.slice A1st (G (k + 1)).st.length c1st) (.slice A1pg (G (k + 1)).pg.length c1pg) (.slice A1mm (G (k + 1)).mm.length c1mm)).toArray 29 (0, 0)) :: s1' :: s2' :: s3' :: some (b1, .cells ((G k).cells (.slice A0st (G k).st.length c0st) (.slice A0pg (G k).pg.length c0pg) (.slice A0mm (G k).mm.length c0mm)).toArray 29 (0, 0)) :: s1 :: s2 :: s3 :: L) _ (by first | exact Less.refl _ | exact Less.drop _ _ | exact Less.drops (Less.drop _ _) | exact Less.drops (Less.drops (Less.drop _ _)) | exact Less.drops (Less.drops (Less.drops (Less.drop _ _))) | exact Less.drops (Less.drops (Less.drops (Less.drops (Less.drop _ _))))) ?_
                try dsimp only
                refine ⟨?_, ?_, ?_, ?_, ?_, ?_⟩
                · simp (maxSteps:=1000000)(dsimp:=false)(disch:=omega) only [go_sem, Φa, hP, h10_1, h10_3, h10_4, h10_5, h10_6]
                  first | done | exact congrArg _ (decide_eq_decide.2 (by omega)) | exact congrArg _ (decide_eq_true (by omega)).symm | exact congrArg _ (decide_eq_false (by omega)).symm
                · simp (maxSteps:=1000000)(dsimp:=false)(disch:=omega) only [go_sem, Φa, hP, h10_1, h10_3, h10_4, h10_5, h10_6]
                · simp (maxSteps:=1000000)(dsimp:=false)(disch:=omega) only [go_sem, Φa, hP, h10_1, h10_3, h10_4, h10_5, h10_6]
                · simp (maxSteps:=1000000)(dsimp:=false)(disch:=omega) only [go_sem, Φa, hP, h10_1, h10_3, h10_4, h10_5, h10_6]
                · rfl
                · trivial
            · intro ss T11 L11 hI
              simp only [h10_1, h10_3, h10_4] at hI 
              obtain ⟨h11_48, h11_1, h11_3, h11_4, hL11, hinv⟩ := hI
              replace hL11 := hL11.symm
              subst hL11
              clear h10_1 h10_3 h10_4 h10_5 h10_6 T10
              refine RX.done ?_
              simp (maxSteps:=1000000)(dsimp:=false)(disch:=omega) only [go_sem, Φa, hP, h11_48, h11_1, h11_3, h11_4, hops]
              refine hK18 _ _ ?_
              try clear hK18 K18
              refine SX.cond_k fun X20 Y20 hX20 hY20 => ?_
              simp (maxSteps:=1000000)(dsimp:=false)(disch:=omega) only [go_sem, Φa, hP, h11_48, h11_1, h11_3, h11_4, condVC]
              refine hY20 ?_
              clear hX20 hY20 X20 Y20
              refine SX.skip ?_
              try simp only [andThen_normal, andThen_ret, andThen_exit, inBlk_normal, inBlk_ret, inBlk_exit, Nat.reduceEqDiff, if_true, if_false, ↓reduceIte]
              refine hK17 _ _ ?_
              try clear hK17 K17
              refine SX.region_d [some 49, none] rfl (fun ops hops => ?_)
              unfold Dsts at hops
              simp (maxSteps:=1000000)(dsimp:=false)(disch:=omega) only [go_sem, Φa, hP, h11_48, h11_1, h11_3, h11_4, hops]
              refine ⟨_, Cell.at 0 rfl rfl, ?_⟩
              try with_reducible refine stI ?_
              try simp (maxSteps:=1000000)(dsimp:=false)(disch:=omega) only [go_sem, Φa, hP, h11_48, h11_1, h11_3, h11_4, hops]
              refine ⟨_, Cell.at 0 rfl rfl, ?_⟩
              try with_reducible refine stI ?_
              try simp (maxSteps:=1000000)(dsimp:=false)(disch:=omega) only [go_sem, Φa, hP, h11_48, h11_1, h11_3, h11_4, hops]
              refine ⟨_, Cell.at 0 rfl rfl, ?_⟩
              try with_reducible refine stI ?_
              try simp (maxSteps:=1000000)(dsimp:=false)(disch:=omega) only [go_sem, Φa, hP, h11_48, h11_1, h11_3, h11_4, hops]
              refine ⟨_, Cell.at 0 rfl rfl, ?_⟩
              try with_reducible refine stI ?_
              try simp (maxSteps:=1000000)(dsimp:=false)(disch:=omega) only [go_sem, Φa, hP, h11_48, h11_1, h11_3, h11_4, hops]
              refine ⟨_, Cell.at 0 rfl rfl, ?_⟩
              try with_reducible refine stI ?_
              try simp (maxSteps:=1000000)(dsimp:=false)(disch:=omega) only [go_sem, Φa, hP, h11_48, h11_1, h11_3, h11_4, hops]
              refine ⟨_, Cell.at 0 rfl rfl, ?_⟩
              try with_reducible refine stI ?_
              try simp (maxSteps:=1000000)(dsimp:=false)(disch:=omega) only [go_sem, Φa, hP, h11_48, h11_1, h11_3, h11_4, hops]
              refine ⟨_, Cell.at 0 rfl rfl, ?_⟩
              try with_reducible refine stI ?_
              try simp (maxSteps:=1000000)(dsimp:=false)(disch:=omega) only [go_sem, Φa, hP, h11_48, h11_1, h11_3, h11_4, hops]
              refine ⟨_, Cell.at 0 rfl rfl, ?_⟩
              try with_reducible refine stI ?_
              try simp (maxSteps:=1000000)(dsimp:=false)(disch:=omega) only [go_sem, Φa, hP, h11_48, h11_1, h11_3, h11_4, hops]
              refine ⟨_, Cell.at 0 rfl rfl, ?_⟩
              try with_reducible refine stI ?_
              try simp (maxSteps:=1000000)(dsimp:=false)(disch:=omega) only [go_sem, Φa, hP, h11_48, h11_1, h11_3, h11_4, hops]
              refine ⟨_, Cell.at 0 rfl rfl, ?_⟩
              try with_reducible refine stI ?_
              try simp (maxSteps:=1000000)(dsimp:=false)(disch:=omega) only [go_sem, Φa, hP, h11_48, h11_1, h11_3, h11_4, hops]
              refine ⟨_, Cell.at 0 rfl rfl, ?_⟩
              try with_reducible refine stI ?_
              try simp (maxSteps:=1000000)(dsimp:=false)(disch:=omega) only [go_sem, Φa, hP, h11_48, h11_1, h11_3, h11_4, hops]
              refine ⟨_, Cell.at 0 rfl rfl, ?_⟩
              try with_reducible refine stI ?_
              try simp (maxSteps:=1000000)(dsimp:=false)(disch:=omega) only [go_sem, Φa, hP, h11_48, h11_1, h11_3, h11_4, hops]
              refine ⟨_, Cell.at 0 rfl rfl, ?_⟩
              try with_reducible refine stI ?_
              try simp (maxSteps:=1000000)(dsimp:=false)(disch:=omega) only [go_sem, Φa, hP, h11_48, h11_1, h11_3, h11_4, hops]
              refine ⟨_, Cell.at 0 rfl rfl, ?_⟩
              try with_reducible refine stI ?_
              try simp (maxSteps:=1000000)(dsimp:=false)(disch:=omega) only [go_sem, Φa, hP, h11_48, h11_1, h11_3, h11_4, hops]
              refine ⟨_, Cell.at 0 rfl rfl, ?_⟩
              try with_reducible refine stI ?_
              try simp (maxSteps:=1000000)(dsimp:=false)(disch:=omega) only [go_sem, Φa, hP, h11_48, h11_1, h11_3, h11_4, hops]
              refine ⟨_, Cell.at 0 rfl rfl, ?_⟩
              try with_reducible refine stI ?_
              try simp (maxSteps:=1000000)(dsimp:=false)(disch:=omega) only [go_sem, Φa, hP, h11_48, h11_1, h11_3, h11_4, hops]
              refine ⟨_, Cell.at 0 rfl rfl, ?_⟩
              try with_reducible refine stI ?_
              try simp (maxSteps:=1000000)(dsimp:=false)(disch:=omega) only [go_sem, Φa, hP, h11_48, h11_1, h11_3, h11_4, hops]
              refine ⟨_, Cell.at 0 rfl rfl, ?_⟩
              try with_reducible refine stI ?_
              try simp (maxSteps:=1000000)(dsimp:=false)(disch:=omega) only [go_sem, Φa, hP, h11_48, h11_1, h11_3, h11_4, hops]
              refine ⟨_, Cell.at 0 rfl rfl, ?_⟩
              try with_reducible refine stI ?_
              try simp (maxSteps:=1000000)(dsimp:=false)(disch:=omega) only [go_sem, Φa, hP, h11_48, h11_1, h11_3, h11_4, hops]
              refine ⟨_, Cell.at 0 rfl rfl, ?_⟩
              try with_reducible refine stI ?_
              try simp (maxSteps:=1000000)(dsimp:=false)(disch:=omega) only [go_sem, Φa, hP, h11_48, h11_1, h11_3, h11_4, hops]
              refine ⟨_, Cell.at 0 rfl rfl, ?_⟩
              try with_reducible refine stI ?_
              try simp (maxSteps:=1000000)(dsimp:=false)(disch:=omega) only [go_sem, Φa, hP, h11_48, h11_1, h11_3, h11_4, hops]
              refine ⟨_, Cell.at 0 rfl rfl, ?_⟩
              try with_reducible refine stI ?_
              try simp (maxSteps:=1000000)(dsimp:=false)(disch:=omega) only [go_sem, Φa, hP, h11_48, h11_1, h11_3, h11_4, hops]
              refine ⟨_, Cell.at 0 rfl rfl, ?_⟩
              try with_reducible refine stI ?_
              try simp (maxSteps:=1000000)(dsimp:=false)(disch:=omega) only [go_sem, Φa, hP, h11_48, h11_1, h11_3, h11_4, hops]
              unfold GM.cells
              refine ⟨4, _, _, _, rfl, by simp, .inr (by decide), ?_⟩
              try with_reducible refine stI ?_
              try simp (maxSteps:=1000000)(dsimp:=false)(disch:=omega) only [go_sem, Φa, hP, h11_48, h11_1, h11_3, h11_4, hops]
              refine hK15 _ _ ?_
              try clear hK15 K15
              refine SX.region_d [some 33, some 34, some 3] rfl (fun ops hops => ?_)
              unfold Dsts at hops
              simp (maxSteps:=1000000)(dsimp:=false)(disch:=omega) only [go_sem, Φa, hP, h11_48, h11_1, h11_3, h11_4, hops]
              repeat' ((first | refine And.intro (by omega) ?_ | fail); try (with_reducible refine stI ?_); try simp (maxSteps:=1000000)(dsimp:=false)(disch:=omega) only [go_sem, Φa, hP, h11_48, h11_1, h11_3, h11_4, hops])
              refine hK11 (k + 1, .slice A1st (G (k + 1)).st.length c1st, .slice A1pg (G (k + 1)).pg.length c1pg, .slice A1mm (G (k + 1)).mm.length c1mm, s1', s2', s3') _ (some (b1, .cells ((G (k + 1)).cells (.slice A1st (G (k + 1)).st.length c1st) (.slice A1pg (G (k + 1)).pg.length c1pg) (.slice A1mm (G (k + 1)).mm.length c1mm)).toArray 29 (0, 0)) :: s1' :: s2' :: s3' :: L) _ (by exact (Less.sublist (.cons _ (.cons_cons _ (.cons_cons _ (.cons_cons _ (.cons_cons _ (.cons _ (.cons _ (.cons _ (List.Sublist.refl _)))))))))).trans (lessBox _ _ _ _ _)) ?_ ?_
              · try dsimp only
                refine ⟨?_, ?_, ?_, ?_⟩
                · simp (maxSteps:=1000000)(dsimp:=false)(disch:=omega) only [go_sem, Φa, hP, h11_48, h11_1, h11_3, h11_4]
                  first | done | rfl | skip
                · simp (maxSteps:=1000000)(dsimp:=false)(disch:=omega) only [go_sem, Φa, hP, h11_48, h11_1, h11_3, h11_4]
                · rfl
                · exact ⟨by omega, hr'⟩
              · (try dsimp only); omega
          · clear hX14 hY14 X14 Y14
            refine SX.exit ?_
            try simp only [andThen_normal, andThen_ret, andThen_exit, inBlk_normal, inBlk_ret, inBlk_exit, Nat.reduceEqDiff, if_true, if_false, ↓reduceIte]
            refine hK9 _ _ ?_
            try clear hK9 K9
            refine SX.seq_k fun K21 hK21 => ?_
            refine SX.region_xd [some 50, some 51, some 52, some 53, some 54, some 55, some 56, some 57, some 58, some 59, some 60, some 61, some 62, some 63, some 64, some 65, some 66, some 67, some 68, some 69, some 70, some 0] rfl (fun ops hops => ?_)
            unfold Dsts at hops
            refine RX.live [1] (fun T12 hT12 => ?_)
            simp only [forall_mem_cons', forall_mem_nil', go_sem, Φa, hP, h8_3, h8_1] at hT12
            have h12_1 := hT12; clear hT12
            clear h8_3 h8_1 T8
            obtain ⟨e1, e2, e15, ePC⟩ : (G k).V.getD 1 0 = 5 ∧ (G k).V.getD 2 0 = 4 ∧ (G k).V.getD 15 0 = 1 ∧ (G k).PC = 518 := by
              obtain rfl : k = 3 := by omega
              exact hend
            refine RX.join 10 (fun (ss : Unit) T L' => T 59 = .bool (true) ∧ T 1 = T12 1 ∧ L' = some (b1, .cells ((G k).cells sv pv mv).toArray 29 (0, 0)) :: s1 :: s2 :: s3 :: L ∧ (True)) (fun K22 hK22 => ?_) ?_
            · simp only [h12_1] at hK22
              simp (maxSteps:=1000000)(dsimp:=false)(disch:=omega) only [go_sem, Φa, hP, h12_1, hops]
              repeat' (first | refine iteB (fun hg => ?_) (fun hg => ?_) | refine iteI (fun hg => ?_) (fun hg => ?_) | ((first | refine ⟨_, Cell.at 0 rfl (show ((G k).cells sv pv mv)[1]? = some (.int .u8 ((G k).V.getD 1 0)) from rfl), ?_⟩ | refine ⟨_, Cell.at 0 rfl (show ((G k).cells sv pv mv)[2]? = some (.int .u8 ((G k).V.getD 2 0)) from rfl), ?_⟩ | refine ⟨_, Cell.at 0 rfl (show ((G k).cells sv pv mv)[15]? = some (.int .u8 ((G k).V.getD 15 0)) from rfl), ?_⟩ | refine ⟨_, Cell.at 0 rfl (show ((G k).cells sv pv mv)[17]? = some (.int .u16 (G k).PC) from rfl), ?_⟩ | refine And.intro (by omega) ?_ | refine ⟨_, Cell.at 0 rfl rfl, ?_⟩ | refine ⟨_, Cell.at 1 rfl rfl, ?_⟩ | refine ⟨_, Cell.at 2 rfl rfl, ?_⟩ | refine ⟨_, Cell.at 3 rfl rfl, ?_⟩ | fail); try (with_reducible refine stI ?_); try simp (maxSteps:=1000000)(dsimp:=false)(disch:=omega) only [go_sem, Φa, hP, h12_1, hops]) | fail)
              all_goals
                refine hK22 () _ (some (b1, .cells ((G k).cells sv pv mv).toArray 29 (0, 0)) :: s1 :: s2 :: s3 :: L) _ (by first | exact Less.refl _ | exact Less.drop _ _ | exact Less.drops (Less.drop _ _) | exact Less.drops (Less.drops (Less.drop _ _)) | exact Less.drops (Less.drops (Less.drops (Less.drop _ _))) | exact Less.drops (Less.drops (Less.drops (Less.drops (Less.drop _ _))))) ?_
                try dsimp only
                refine ⟨?_, ?_, ?_, ?_⟩
                · simp (maxSteps:=1000000)(dsimp:=false)(disch:=omega) only [go_sem, Φa, hP, h12_1]
                  first | done | exact congrArg _ (decide_eq_decide.2 (by omega)) | exact congrArg _ (decide_eq_true (by omega)).symm | exact congrArg _ (decide_eq_false (by omega)).symm
                · simp (maxSteps:=1000000)(dsimp:=false)(disch:=omega) only [go_sem, Φa, hP, h12_1]
                · rfl
                · trivial
            · intro ss T13 L13 hI
              simp only [h12_1] at hI 
              obtain ⟨h13_59, h13_1, hL13, hinv⟩ := hI
              replace hL13 := hL13.symm
              subst hL13
              clear h12_1 T12
              refine RX.live [1, 59] (fun T14 hT14 => ?_)
              simp only [forall_mem_cons', forall_mem_nil', go_sem, Φa, hP, h13_59, h13_1] at hT14
              obtain ⟨h14_1, h14_59⟩ := hT14
              clear h13_59 h13_1 T13
              refine RX.join 6 (fun (ss : Unit) T L' => T 65 = .bool (true) ∧ T 1 = T14 1 ∧ L' = some (b1, .cells ((G k).cells sv pv mv).toArray 29 (0, 0)) :: s1 :: s2 :: s3 :: L ∧ (True)) (fun K23 hK23 => ?_) ?_
              · simp only [h14_1] at hK23
                simp (maxSteps:=1000000)(dsimp:=false)(disch:=omega) only [go_sem, Φa, hP, h14_1, h14_59, hops]
                repeat' (first | refine iteB (fun hg => ?_) (fun hg => ?_) | refine iteI (fun hg => ?_) (fun hg => ?_) | ((first | refine ⟨_, Cell.at 0 rfl (show ((G k).cells sv pv mv)[1]? = some (.int .u8 ((G k).V.getD 1 0)) from rfl), ?_⟩ | refine ⟨_, Cell.at 0 rfl (show ((G k).cells sv pv mv)[2]? = some (.int .u8 ((G k).V.getD 2 0)) from rfl), ?_⟩ | refine ⟨_, Cell.at 0 rfl (show ((G k).cells sv pv mv)[15]? = some (.int .u8 ((G k).V.getD 15 0)) from rfl), ?_⟩ | refine ⟨_, Cell.at 0 rfl (show ((G k).cells sv pv mv)[17]? = some (.int .u16 (G k).PC) from rfl), ?_⟩ | refine And.intro (by omega) ?_ | refine ⟨_, Cell.at 0 rfl rfl, ?_⟩ | refine ⟨_, Cell.at 1 rfl rfl, ?_⟩ | refine ⟨_, Cell.at 2 rfl rfl, ?_⟩ | refine ⟨_, Cell.at 3 rfl rfl, ?_⟩ | fail); try (with_reducible refine stI ?_); try simp (maxSteps:=1000000)(dsimp:=false)(disch:=omega) only [go_sem, Φa, hP, h14_1, h14_59, hops]) | fail)
                all_goals
                  refine hK23 () _ (some (b1, .cells ((G k).cells sv pv mv).toArray 29 (0, 0)) :: s1 :: s2 :: s3 :: L) _ (by first | exact Less.refl _ | exact Less.drop _ _ | exact Less.drops (Less.drop _ _) | exact Less.drops (Less.drops (Less.drop _ _)) | exact Less.drops (Less.drops (Less.drops (Less.drop _ _))) | exact Less.drops (Less.drops (Less.drops (Less.drops (Less.drop _ _))))) ?_
                  try dsimp only
                  refine ⟨?_, ?_, ?_, ?_⟩
                  · simp (maxSteps:=1000000)(dsimp:=false)(disch:=omega) only [go_sem, Φa, hP, h14_1, h14_59]
                    first | done | exact congrArg _ (decide_eq_decide.2 (by omega)) | exact congrArg _ (decide_eq_true (by omega)).symm | exact congrArg _ (decide_eq_false (by omega)).symm
                  · simp (maxSteps:=1000000)(dsimp:=false)(disch:=omega) only [go_sem, Φa, hP, h14_1, h14_59]
                  · rfl
                  · trivial
              · intro ss T15 L15 hI
                simp only [h14_1] at hI 
                obtain ⟨h15_65, h15_1, hL15, hinv⟩ := hI
                replace hL15 := hL15.symm
                subst hL15
                clear h14_1 h14_59 T14
                refine RX.live [1, 65] (fun T16 hT16 => ?_)
                simp only [forall_mem_cons', forall_mem_nil', go_sem, Φa, hP, h15_65, h15_1] at hT16
                obtain ⟨h16_1, h16_65⟩ := hT16
                clear h15_65 h15_1 T15
                refine RX.join 5 (fun (ss : Unit) T L' => T 70 = .bool (true) ∧ L' = some (b1, .cells ((G k).cells sv pv mv).toArray 29 (0, 0)) :: s1 :: s2 :: s3 :: L ∧ (True)) (fun K24 hK24 => ?_) ?_
                · simp (maxSteps:=1000000)(dsimp:=false)(disch:=omega) only [go_sem, Φa, hP, h16_1, h16_65, hops]
                  repeat' (first | refine iteB (fun hg => ?_) (fun hg => ?_) | refine iteI (fun hg => ?_) (fun hg => ?_) | ((first | refine ⟨_, Cell.at 0 rfl (show ((G k).cells sv pv mv)[1]? = some (.int .u8 ((G k).V.getD 1 0)) from rfl), ?_⟩ | refine ⟨_, Cell.at 0 rfl (show ((G k).cells sv pv mv)[2]? = some (.int .u8 ((G k).V.getD 2 0)) from rfl), ?_⟩ | refine ⟨_, Cell.at 0 rfl (show ((G k).cells sv pv mv)[15]? = some (.int .u8 ((G k).V.getD 15 0)) from rfl), ?_⟩ | refine ⟨_, Cell.at 0 rfl (show ((G k).cells sv pv mv)[17]? = some (.int .u16 (G k).PC) from rfl), ?_⟩ | refine And.intro (by omega) ?_ | refine ⟨_, Cell.at 0 rfl rfl, ?_⟩ | refine ⟨_, Cell.at 1 rfl rfl, ?_⟩ | refine ⟨_, Cell.at 2 rfl rfl, ?_⟩ | refine ⟨_, Cell.at 3 rfl rfl, ?_⟩ | fail); try (with_reducible refine stI ?_); try simp (maxSteps:=1000000)(dsimp:=false)(disch:=omega) only [go_sem, Φa, hP, h16_1, h16_65, hops]) | fail)
                  all_goals
                    refine hK24 () _ (some (b1, .cells ((G k).cells sv pv mv).toArray 29 (0, 0)) :: s1 :: s2 :: s3 :: L) _ (by first | exact Less.refl _ | exact Less.drop _ _ | exact Less.drops (Less.drop _ _) | exact Less.drops (Less.drops (Less.drop _ _)) | exact Less.drops (Less.drops (Less.drops (Less.drop _ _))) | exact Less.drops (Less.drops (Less.drops (Less.drops (Less.drop _ _))))) ?_
                    try dsimp only
                    refine ⟨?_, ?_, ?_⟩
                    · simp (maxSteps:=1000000)(dsimp:=false)(disch:=omega) only [go_sem, Φa, hP, h16_1, h16_65]
                      first | done | exact congrArg _ (decide_eq_decide.2 (by omega)) | exact congrArg _ (decide_eq_true (by omega)).symm | exact congrArg _ (decide_eq_false (by omega)).symm
                    · rfl
                    · trivial
                · intro ss T17 L17 hI
                  obtain ⟨h17_70, hL17, hinv⟩ := hI
                  replace hL17 := hL17.symm
                  subst hL17
                  clear h16_1 h16_65 T16
                  refine RX.done ?_
                  simp (maxSteps:=1000000)(dsimp:=false)(disch:=omega) only [go_sem, Φa, hP, h17_70, hops]
                  refine hK21 _ _ ?_
                  try clear hK21 K21
                  refine SX.ret ?_
                  simp only [andThen_normal, andThen_ret, andThen_exit, inBlk_normal, inBlk_ret, inBlk_exit, Nat.reduceEqDiff, if_true, if_false, ↓reduceIte, retQ_ret]
                  try simp only [res0, res1, res2, res3, stK_e, go_sem, Φa, hP, h17_70]
                  exact ⟨_, _, Less.drops (Less.drops (Less.drops (Less.drop _ _))), rfl, rfl, rfl⟩

theorem awake_spec {Γ : Ctx} (hP : Γ.P = Try.prog) {L : Hp} : SCall Γ 11 #[] L (fun v L' => v = .bool true ∧ L' = L) :=
  awake_core (G := awG) hP aw_fine rfl aw_end (fun L v h => aw_new hP h) (fun L k sv pv mv hk hs hp hm => aw_call hP hk hs hp hm)

end Go.Proofs.Ytgioegdjeodpiaa
set_option linter.unusedVariables false
set_option linter.unusedSimpArgs false
namespace Go.Proofs.Ytgioegdjeodpiaa
open Go.RowKit Go.SX
open Go.SX renaming ia_someH → Φa
set_option maxHeartbeats 1000000 in
set_option maxRecDepth 100000 in
theorem GameNew_spec {Γ : Ctx} (hP : Γ.P = Try.prog) {L : Hp} {v : Value} {p : List Int} (hp : SlI .u8 (Cell Γ []) v p) (hb : Byte p) (hpl : p.length ≤ 9223372036854775807) :
    SCall Γ 4 #[v] L (fun v L' => v = .bool true ∧ L' = L) := by
  obtain ⟨A, c, rfl, hc, hA⟩ := id hp
  refine SCall.enter (n := 51) (res1 2) (hP ▸ Try.func4) rfl rfl (by simp) (res1_ok rfl) ?_
  refine SX.seq_k fun K1 hK1 => ?_
  refine SX.region_d [some 2] rfl (fun ops hops => ?_)
  unfold Dsts at hops
  simp (maxSteps:=1000000)(dsimp:=false)(disch:=omega) only [go_sem, Φa, hP, hops]
  refine hK1 _ _ ?_
  try clear hK1 K1
  refine SX.seq_k fun K2 hK2 => ?_
  refine SX.region_d [some 12, some 3] rfl (fun ops hops => ?_)
  unfold Dsts at hops
  simp (maxSteps:=1000000)(dsimp:=false)(disch:=omega) only [go_sem, Φa, hP, hops]
  first | (refine SCall.mono (awake_spec hP) ?_; rintro v_ L_ ⟨hv_, hL_⟩; rw [hv_, hL_]; clear hv_ hL_ v_ L_) | refine ⟨_, awake_spec hP, ?_⟩ | refine ⟨_, fun L0 hl0 => awake_spec hP, ?_⟩
  try with_reducible refine stI ?_
  try simp (maxSteps:=1000000)(dsimp:=false)(disch:=omega) only [go_sem, Φa, hP, hops]
  refine hK2 _ _ ?_
  try clear hK2 K2
  refine SX.seq_k fun K3 hK3 => ?_
  refine SX.seq_k fun K4 hK4 => ?_
  refine SX.region_d [some 13, some 14, some 15] rfl (fun ops hops => ?_)
  unfold Dsts at hops
  simp (maxSteps:=1000000)(dsimp:=false)(disch:=omega) only [go_sem, Φa, hP, hops]
  repeat' ((first | refine And.intro (by omega) ?_ | fail); try (with_reducible refine stI ?_); try simp (maxSteps:=1000000)(dsimp:=false)(disch:=omega) only [go_sem, Φa, hP, hops])
  refine hK4 _ _ ?_
  try clear hK4 K4
  refine SX.cond_k fun X5 Y5 hX5 hY5 => ?_
  simp (maxSteps:=1000000)(dsimp:=false)(disch:=omega) only [go_sem, Φa, hP, condVC]
  refine ⟨fun hc15 => hX5 ?_, fun hc15 => hY5 ?_⟩
  · clear hX5 hY5 X5 Y5
    refine SX.seq_k fun K6 hK6 => ?_
    refine SX.region_d [some 2] rfl (fun ops hops => ?_)
    unfold Dsts at hops
    simp (maxSteps:=1000000)(dsimp:=false)(disch:=omega) only [go_sem, Φa, hP, hops]
    refine hK6 _ _ ?_
    try clear hK6 K6
    refine SX.ret ?_
    simp only [andThen_normal, andThen_ret, andThen_exit, inBlk_normal, inBlk_ret, inBlk_exit, Nat.reduceEqDiff, if_true, if_false, ↓reduceIte, retQ_ret]
    try simp only [res0, res1, res2, res3, stK_e, go_sem, Φa, hP]
    exact ⟨_, _, Less.refl _, rfl, rfl, rfl⟩
  · clear hX5 hY5 X5 Y5
    refine SX.skip ?_
    try simp only [andThen_normal, andThen_ret, andThen_exit, inBlk_normal, inBlk_ret, inBlk_exit, Nat.reduceEqDiff, if_true, if_false, ↓reduceIte]
    refine hK3 _ _ ?_
    try clear hK3 K3
    refine SX.seq_k fun K7 hK7 => ?_
    have hq : p.length ≤ 2147483647 := by omega
    refine SX.region_d [some 16, some 17, some 4] rfl (fun ops hops => ?_)
    unfold Dsts at hops
    simp (maxSteps:=1000000)(dsimp:=false)(disch:=omega) only [go_sem, Φa, hP, hops]
    refine SCall.mono (lent_spec hP (SlI.any hp) hq) ?_
    rintro v_ L_ ⟨b0, rfl, rfl⟩
    try with_reducible refine stI ?_
    try simp (maxSteps:=1000000)(dsimp:=false)(disch:=omega) only [go_sem, Φa, hP, hops]
    refine hK7 _ _ ?_
    try clear hK7 K7
    refine SX.live [0, 3, 4] (fun T1 hT1 => ?_)
    simp only [forall_mem_cons', forall_mem_nil', go_sem, Φa, hP] at hT1
    obtain ⟨h1_0, h1_3, h1_4⟩ := hT1
    refine SX.seq_k fun K8 hK8 => ?_
    have hrow : ints .u8 (p ++ [161, 162, 163]) = ints .u8 p ++ ints .u8 [161, 162, 163] := ints_app _ _ _
    refine SX.region_d [some 19, some 20, some 18, some 21, some 22, some 5, none, some 6] rfl (fun ops hops => ?_)
    unfold Dsts at hops
    simp (maxSteps:=1000000)(dsimp:=false)(disch:=omega) only [go_sem, Φa, hP, h1_0, h1_3, h1_4, hops]
    refine SCall.mono (New_spec hP (SlI.row (xs := p) (junk := ints .u8 [161, 162, 163]) 0 (by rw [← hrow]; rfl) rfl (by simp)) hpl) ?_
    rintro v_ L_ ⟨sv, pv, mv, n1, n2, n3, rfl, rfl, hr⟩
    obtain ⟨A0st, c0st, rfl, hc0st⟩ := rowShape hr.st
    obtain ⟨A0pg, c0pg, rfl, hc0pg⟩ := rowShape hr.pg
    obtain ⟨A0mm, c0mm, rfl, hc0mm⟩ := rowShape hr.mm
    unfold GM.cells
    try with_reducible refine stI ?_
    try simp (maxSteps:=1000000)(dsimp:=false)(disch:=omega) only [go_sem, Φa, hP, h1_0, h1_3, h1_4, hops]
    intro b5
    try with_reducible refine stI ?_
    try simp (maxSteps:=1000000)(dsimp:=false)(disch:=omega) only [go_sem, Φa, hP, h1_0, h1_3, h1_4, hops]
    refine ⟨0, _, _, _, rfl, by decide, .inr (by decide), ?_⟩
    try with_reducible refine stI ?_
    try simp (maxSteps:=1000000)(dsimp:=false)(disch:=omega) only [go_sem, Φa, hP, h1_0, h1_3, h1_4, hops]
    refine hK8 _ _ ?_
    try clear hK8 K8
    refine SX.seq_k fun K9 hK9 => ?_
    refine SX.region_d [some 23, some 24, some 25, some 7] rfl (fun ops hops => ?_)
    unfold Dsts at hops
    simp (maxSteps:=1000000)(dsimp:=false)(disch:=omega) only [go_sem, Φa, hP, h1_0, h1_3, h1_4, hops]
    first | (refine SCall.mono (kept_spec (i := 4) hP rfl (SlI.any hp) hq) ?_; rintro v_ L_ ⟨hv_, hL_⟩; rw [hv_, hL_]; clear hv_ hL_ v_ L_) | refine ⟨_, kept_spec (i := 4) hP rfl (SlI.any hp) hq, ?_⟩ | refine ⟨_, fun L0 hl0 => kept_spec (i := 4) hP rfl (SlI.any hp) hq, ?_⟩
    try with_reducible refine stI ?_
    try simp (maxSteps:=1000000)(dsimp:=false)(disch:=omega) only [go_sem, Φa, hP, h1_0, h1_3, h1_4, hops]
    refine hK9 _ _ ?_
    try clear hK9 K9
    refine SX.live [0, 3, 5, 6, 7] (fun T2 hT2 => ?_)
    simp only [forall_mem_cons', forall_mem_nil', go_sem, Φa, hP, h1_0, h1_3, h1_4] at hT2
    obtain ⟨h2_0, h2_3, h2_5, h2_6, h2_7⟩ := hT2
    clear h1_0 h1_3 h1_4 T1
    refine SX.seq_k fun K10 hK10 => ?_
    refine SX.region_d [some 27, some 28, some 26, some 29, some 30, some 8, none, some 9] rfl (fun ops hops => ?_)
    unfold Dsts at hops
    simp (maxSteps:=1000000)(dsimp:=false)(disch:=omega) only [go_sem, Φa, hP, h2_0, h2_3, h2_5, h2_6, h2_7, hops]
    refine SCall.mono (refNew_spec hP (SlI.any hp) hpl) ?_
    rintro v_ L_ ⟨sv1, pv1, mv1, m1, m2, m3, rfl, rfl, hr1⟩
    obtain ⟨A1st, c1st, rfl, hc1st⟩ := rowShape hr1.st
    obtain ⟨A1pg, c1pg, rfl, hc1pg⟩ := rowShape hr1.pg
    obtain ⟨A1mm, c1mm, rfl, hc1mm⟩ := rowShape hr1.mm
    unfold GM.cells
    try with_reducible refine stI ?_
    try simp (maxSteps:=1000000)(dsimp:=false)(disch:=omega) only [go_sem, Φa, hP, h2_0, h2_3, h2_5, h2_6, h2_7, hops]
    intro b8
    try with_reducible refine stI ?_
    try simp (maxSteps:=1000000)(dsimp:=false)(disch:=omega) only [go_sem, Φa, hP, h2_0, h2_3, h2_5, h2_6, h2_7, hops]
    refine ⟨0, _, _, _, rfl, by decide, .inr (by decide), ?_⟩
    try with_reducible refine stI ?_
    try simp (maxSteps:=1000000)(dsimp:=false)(disch:=omega) only [go_sem, Φa, hP, h2_0, h2_3, h2_5, h2_6, h2_7, hops]
    refine hK10 _ _ ?_
    try clear hK10 K10
    refine SX.seq_k fun K11 hK11 => ?_
    have hok := newG_ok hb
    have hst : (newG p).1.st.length ≤ 2147483647 := by unfold newG; split <;> exact Nat.zero_le _
    refine SX.region_d [some 31, some 32, some 33, some 10] rfl (fun ops hops => ?_)
    unfold Dsts at hops
    simp (maxSteps:=1000000)(dsimp:=false)(disch:=omega) only [go_sem, Φa, hP, h2_0, h2_3, h2_5, h2_6, h2_7, hops]
    refine ⟨_, Cell.at 4 rfl rfl, ?_⟩
    try with_reducible refine stI ?_
    try simp (maxSteps:=1000000)(dsimp:=false)(disch:=omega) only [go_sem, Φa, hP, h2_0, h2_3, h2_5, h2_6, h2_7, hops]
    refine ⟨_, Cell.at 4 rfl rfl, ?_⟩
    try with_reducible refine stI ?_
    try simp (maxSteps:=1000000)(dsimp:=false)(disch:=omega) only [go_sem, Φa, hP, h2_0, h2_3, h2_5, h2_6, h2_7, hops]
    refine ⟨_, Cell.at 4 rfl rfl, ?_⟩
    try with_reducible refine stI ?_
    try simp (maxSteps:=1000000)(dsimp:=false)(disch:=omega) only [go_sem, Φa, hP, h2_0, h2_3, h2_5, h2_6, h2_7, hops]
    refine ⟨_, Cell.at 4 rfl rfl, ?_⟩
    try with_reducible refine stI ?_
    try simp (maxSteps:=1000000)(dsimp:=false)(disch:=omega) only [go_sem, Φa, hP, h2_0, h2_3, h2_5, h2_6, h2_7, hops]
    refine ⟨_, Cell.at 4 rfl rfl, ?_⟩
    try with_reducible refine stI ?_
    try simp (maxSteps:=1000000)(dsimp:=false)(disch:=omega) only [go_sem, Φa, hP, h2_0, h2_3, h2_5, h2_6, h2_7, hops]
    refine ⟨_, Cell.at 4 rfl rfl, ?_⟩
    try with_reducible refine stI ?_
    try simp (maxSteps:=1000000)(dsimp:=false)(disch:=omega) only [go_sem, Φa, hP, h2_0, h2_3, h2_5, h2_6, h2_7, hops]
    refine ⟨_, Cell.at 4 rfl rfl, ?_⟩
    try with_reducible refine stI ?_
    try simp (maxSteps:=1000000)(dsimp:=false)(disch:=omega) only [go_sem, Φa, hP, h2_0, h2_3, h2_5, h2_6, h2_7, hops]
    refine ⟨_, Cell.at 4 rfl rfl, ?_⟩
    try with_reducible refine stI ?_
    try simp (maxSteps:=1000000)(dsimp:=false)(disch:=omega) only [go_sem, Φa, hP, h2_0, h2_3, h2_5, h2_6, h2_7, hops]
    refine ⟨_, Cell.at 4 rfl rfl, ?_⟩
    try with_reducible refine stI ?_
    try simp (maxSteps:=1000000)(dsimp:=false)(disch:=omega) only [go_sem, Φa, hP, h2_0, h2_3, h2_5, h2_6, h2_7, hops]
    refine ⟨_, Cell.at 4 rfl rfl, ?_⟩
    try with_reducible refine stI ?_
    try simp (maxSteps:=1000000)(dsimp:=false)(disch:=omega) only [go_sem, Φa, hP, h2_0, h2_3, h2_5, h2_6, h2_7, hops]
    refine ⟨_, Cell.at 4 rfl rfl, ?_⟩
    try with_reducible refine stI ?_
    try simp (maxSteps:=1000000)(dsimp:=false)(disch:=omega) only [go_sem, Φa, hP, h2_0, h2_3, h2_5, h2_6, h2_7, hops]
    refine ⟨_, Cell.at 4 rfl rfl, ?_⟩
    try with_reducible refine stI ?_
    try simp (maxSteps:=1000000)(dsimp:=false)(disch:=omega) only [go_sem, Φa, hP, h2_0, h2_3, h2_5, h2_6, h2_7, hops]
    refine ⟨_, Cell.at 4 rfl rfl, ?_⟩
    try with_reducible refine stI ?_
    try simp (maxSteps:=1000000)(dsimp:=false)(disch:=omega) only [go_sem, Φa, hP, h2_0, h2_3, h2_5, h2_6, h2_7, hops]
    refine ⟨_, Cell.at 4 rfl rfl, ?_⟩
    try with_reducible refine stI ?_
    try simp (maxSteps:=1000000)(dsimp:=false)(disch:=omega) only [go_sem, Φa, hP, h2_0, h2_3, h2_5, h2_6, h2_7, hops]
    refine ⟨_, Cell.at 4 rfl rfl, ?_⟩
    try with_reducible refine stI ?_
    try simp (maxSteps:=1000000)(dsimp:=false)(disch:=omega) only [go_sem, Φa, hP, h2_0, h2_3, h2_5, h2_6, h2_7, hops]
    refine ⟨_, Cell.at 4 rfl rfl, ?_⟩
    try with_reducible refine stI ?_
    try simp (maxSteps:=1000000)(dsimp:=false)(disch:=omega) only [go_sem, Φa, hP, h2_0, h2_3, h2_5, h2_6, h2_7, hops]
    refine ⟨_, Cell.at 4 rfl rfl, ?_⟩
    try with_reducible refine stI ?_
    try simp (maxSteps:=1000000)(dsimp:=false)(disch:=omega) only [go_sem, Φa, hP, h2_0, h2_3, h2_5, h2_6, h2_7, hops]
    refine ⟨_, Cell.at 4 rfl rfl, ?_⟩
    try with_reducible refine stI ?_
    try simp (maxSteps:=1000000)(dsimp:=false)(disch:=omega) only [go_sem, Φa, hP, h2_0, h2_3, h2_5, h2_6, h2_7, hops]
    refine ⟨_, Cell.at 4 rfl rfl, ?_⟩
    try with_reducible refine stI ?_
    try simp (maxSteps:=1000000)(dsimp:=false)(disch:=omega) only [go_sem, Φa, hP, h2_0, h2_3, h2_5, h2_6, h2_7, hops]
    refine ⟨_, Cell.at 4 rfl rfl, ?_⟩
    try with_reducible refine stI ?_
    try simp (maxSteps:=1000000)(dsimp:=false)(disch:=omega) only [go_sem, Φa, hP, h2_0, h2_3, h2_5, h2_6, h2_7, hops]
    refine ⟨_, Cell.at 4 rfl rfl, ?_⟩
    try with_reducible refine stI ?_
    try simp (maxSteps:=1000000)(dsimp:=false)(disch:=omega) only [go_sem, Φa, hP, h2_0, h2_3, h2_5, h2_6, h2_7, hops]
    refine ⟨_, Cell.at 4 rfl rfl, ?_⟩
    try with_reducible refine stI ?_
    try simp (maxSteps:=1000000)(dsimp:=false)(disch:=omega) only [go_sem, Φa, hP, h2_0, h2_3, h2_5, h2_6, h2_7, hops]
    refine ⟨_, Cell.at 4 rfl rfl, ?_⟩
    try with_reducible refine stI ?_
    try simp (maxSteps:=1000000)(dsimp:=false)(disch:=omega) only [go_sem, Φa, hP, h2_0, h2_3, h2_5, h2_6, h2_7, hops]
    refine ⟨_, Cell.at 0 rfl rfl, ?_⟩
    try with_reducible refine stI ?_
    try simp (maxSteps:=1000000)(dsimp:=false)(disch:=omega) only [go_sem, Φa, hP, h2_0, h2_3, h2_5, h2_6, h2_7, hops]
    refine ⟨_, Cell.at 0 rfl rfl, ?_⟩
    try with_reducible refine stI ?_
    try simp (maxSteps:=1000000)(dsimp:=false)(disch:=omega) only [go_sem, Φa, hP, h2_0, h2_3, h2_5, h2_6, h2_7, hops]
    refine ⟨_, Cell.at 0 rfl rfl, ?_⟩
    try with_reducible refine stI ?_
    try simp (maxSteps:=1000000)(dsimp:=false)(disch:=omega) only [go_sem, Φa, hP, h2_0, h2_3, h2_5, h2_6, h2_7, hops]
    refine ⟨_, Cell.at 0 rfl rfl, ?_⟩
    try with_reducible refine stI ?_
    try simp (maxSteps:=1000000)(dsimp:=false)(disch:=omega) only [go_sem, Φa, hP, h2_0, h2_3, h2_5, h2_6, h2_7, hops]
    refine ⟨_, Cell.at 0 rfl rfl, ?_⟩
    try with_reducible refine stI ?_
    try simp (maxSteps:=1000000)(dsimp:=false)(disch:=omega) only [go_sem, Φa, hP, h2_0, h2_3, h2_5, h2_6, h2_7, hops]
    refine ⟨_, Cell.at 0 rfl rfl, ?_⟩
    try with_reducible refine stI ?_
    try simp (maxSteps:=1000000)(dsimp:=false)(disch:=omega) only [go_sem, Φa, hP, h2_0, h2_3, h2_5, h2_6, h2_7, hops]
    refine ⟨_, Cell.at 0 rfl rfl, ?_⟩
    try with_reducible refine stI ?_
    try simp (maxSteps:=1000000)(dsimp:=false)(disch:=omega) only [go_sem, Φa, hP, h2_0, h2_3, h2_5, h2_6, h2_7, hops]
    refine ⟨_, Cell.at 0 rfl rfl, ?_⟩
    try with_reducible refine stI ?_
    try simp (maxSteps:=1000000)(dsimp:=false)(disch:=omega) only [go_sem, Φa, hP, h2_0, h2_3, h2_5, h2_6, h2_7, hops]
    refine ⟨_, Cell.at 0 rfl rfl, ?_⟩
    try with_reducible refine stI ?_
    try simp (maxSteps:=1000000)(dsimp:=false)(disch:=omega) only [go_sem, Φa, hP, h2_0, h2_3, h2_5, h2_6, h2_7, hops]
    refine ⟨_, Cell.at 0 rfl rfl, ?_⟩
    try with_reducible refine stI ?_
    try simp (maxSteps:=1000000)(dsimp:=false)(disch:=omega) only [go_sem, Φa, hP, h2_0, h2_3, h2_5, h2_6, h2_7, hops]
    refine ⟨_, Cell.at 0 rfl rfl, ?_⟩
    try with_reducible refine stI ?_
    try simp (maxSteps:=1000000)(dsimp:=false)(disch:=omega) only [go_sem, Φa, hP, h2_0, h2_3, h2_5, h2_6, h2_7, hops]
    refine ⟨_, Cell.at 0 rfl rfl, ?_⟩
    try with_reducible refine stI ?_
    try simp (maxSteps:=1000000)(dsimp:=false)(disch:=omega) only [go_sem, Φa, hP, h2_0, h2_3, h2_5, h2_6, h2_7, hops]
    refine ⟨_, Cell.at 0 rfl rfl, ?_⟩
    try with_reducible refine stI ?_
    try simp (maxSteps:=1000000)(dsimp:=false)(disch:=omega) only [go_sem, Φa, hP, h2_0, h2_3, h2_5, h2_6, h2_7, hops]
    refine ⟨_, Cell.at 0 rfl rfl, ?_⟩
    try with_reducible refine stI ?_
    try simp (maxSteps:=1000000)(dsimp:=false)(disch:=omega) only [go_sem, Φa, hP, h2_0, h2_3, h2_5, h2_6, h2_7, hops]
    refine ⟨_, Cell.at 0 rfl rfl, ?_⟩
    try with_reducible refine stI ?_
    try simp (maxSteps:=1000000)(dsimp:=false)(disch:=omega) only [go_sem, Φa, hP, h2_0, h2_3, h2_5, h2_6, h2_7, hops]
    refine ⟨_, Cell.at 0 rfl rfl, ?_⟩
    try with_reducible refine stI ?_
    try simp (maxSteps:=1000000)(dsimp:=false)(disch:=omega) only [go_sem, Φa, hP, h2_0, h2_3, h2_5, h2_6, h2_7, hops]
    refine ⟨_, Cell.at 0 rfl rfl, ?_⟩
    try with_reducible refine stI ?_
    try simp (maxSteps:=1000000)(dsimp:=false)(disch:=omega) only [go_sem, Φa, hP, h2_0, h2_3, h2_5, h2_6, h2_7, hops]
    refine ⟨_, Cell.at 0 rfl rfl, ?_⟩
    try with_reducible refine stI ?_
    try simp (maxSteps:=1000000)(dsimp:=false)(disch:=omega) only [go_sem, Φa, hP, h2_0, h2_3, h2_5, h2_6, h2_7, hops]
    refine ⟨_, Cell.at 0 rfl rfl, ?_⟩
    try with_reducible refine stI ?_
    try simp (maxSteps:=1000000)(dsimp:=false)(disch:=omega) only [go_sem, Φa, hP, h2_0, h2_3, h2_5, h2_6, h2_7, hops]
    refine ⟨_, Cell.at 0 rfl rfl, ?_⟩
    try with_reducible refine stI ?_
    try simp (maxSteps:=1000000)(dsimp:=false)(disch:=omega) only [go_sem, Φa, hP, h2_0, h2_3, h2_5, h2_6, h2_7, hops]
    refine ⟨_, Cell.at 0 rfl rfl, ?_⟩
    try with_reducible refine stI ?_
    try simp (maxSteps:=1000000)(dsimp:=false)(disch:=omega) only [go_sem, Φa, hP, h2_0, h2_3, h2_5, h2_6, h2_7, hops]
    refine ⟨_, Cell.at 0 rfl rfl, ?_⟩
    try with_reducible refine stI ?_
    try simp (maxSteps:=1000000)(dsimp:=false)(disch:=omega) only [go_sem, Φa, hP, h2_0, h2_3, h2_5, h2_6, h2_7, hops]
    refine ⟨_, Cell.at 0 rfl rfl, ?_⟩
    try with_reducible refine stI ?_
    try simp (maxSteps:=1000000)(dsimp:=false)(disch:=omega) only [go_sem, Φa, hP, h2_0, h2_3, h2_5, h2_6, h2_7, hops]
    first | (refine SCall.mono (Same_spec (a := (newG p).1) (b := (newG p).1) hP hok hok (RowI.sl hr.st (i := 5) rfl) (RowI.sl hr.pg (i := 6) rfl) (RowI.sl hr.mm (i := 7) rfl) (RowI.sl hr1.st (i := 1) rfl) (RowI.sl hr1.pg (i := 2) rfl) (RowI.sl hr1.mm (i := 3) rfl) hst hst) ?_; rintro v_ L_ ⟨hv_, hL_⟩; rw [hv_, hL_]; clear hv_ hL_ v_ L_) | refine ⟨_, Same_spec (a := (newG p).1) (b := (newG p).1) hP hok hok (RowI.sl hr.st (i := 5) rfl) (RowI.sl hr.pg (i := 6) rfl) (RowI.sl hr.mm (i := 7) rfl) (RowI.sl hr1.st (i := 1) rfl) (RowI.sl hr1.pg (i := 2) rfl) (RowI.sl hr1.mm (i := 3) rfl) hst hst, ?_⟩ | refine ⟨_, fun L0 hl0 => Same_spec (a := (newG p).1) (b := (newG p).1) hP hok hok (RowI.sl hr.st (i := 5) rfl) (RowI.sl hr.pg (i := 6) rfl) (RowI.sl hr.mm (i := 7) rfl) (RowI.sl hr1.st (i := 1) rfl) (RowI.sl hr1.pg (i := 2) rfl) (RowI.sl hr1.mm (i := 3) rfl) hst hst, ?_⟩
    rw [sameB_self]
    try with_reducible refine stI ?_
    try simp (maxSteps:=1000000)(dsimp:=false)(disch:=omega) only [go_sem, Φa, hP, h2_0, h2_3, h2_5, h2_6, h2_7, hops]
    refine hK11 _ _ ?_
    try clear hK11 K11
    refine SX.live [3, 5, 6, 7, 9, 10] (fun T3 hT3 => ?_)
    simp only [forall_mem_cons', forall_mem_nil', go_sem, Φa, hP, h2_0, h2_3, h2_5, h2_6, h2_7] at hT3
    obtain ⟨h3_3, h3_5, h3_6, h3_7, h3_9, h3_10⟩ := hT3
    clear h2_0 h2_3 h2_5 h2_6 h2_7 T2
    refine SX.seq_k fun K12 hK12 => ?_
    have hst : (newG p).1.st.length ≤ 4611686018427387903 := by unfold newG; split <;> exact Nat.zero_le _
    refine SX.region_d [some 34, some 35, some 11] rfl (fun ops hops => ?_)
    unfold Dsts at hops
    simp (maxSteps:=1000000)(dsimp:=false)(disch:=omega) only [go_sem, Φa, hP, h3_3, h3_5, h3_6, h3_7, h3_9, h3_10, hops]
    refine ⟨_, Cell.at 4 rfl rfl, ?_⟩
    try with_reducible refine stI ?_
    try simp (maxSteps:=1000000)(dsimp:=false)(disch:=omega) only [go_sem, Φa, hP, h3_3, h3_5, h3_6, h3_7, h3_9, h3_10, hops]
    refine ⟨_, Cell.at 4 rfl rfl, ?_⟩
    try with_reducible refine stI ?_
    try simp (maxSteps:=1000000)(dsimp:=false)(disch:=omega) only [go_sem, Φa, hP, h3_3, h3_5, h3_6, h3_7, h3_9, h3_10, hops]
    refine ⟨_, Cell.at 4 rfl rfl, ?_⟩
    try with_reducible refine stI ?_
    try simp (maxSteps:=1000000)(dsimp:=false)(disch:=omega) only [go_sem, Φa, hP, h3_3, h3_5, h3_6, h3_7, h3_9, h3_10, hops]
    refine ⟨_, Cell.at 4 rfl rfl, ?_⟩
    try with_reducible refine stI ?_
    try simp (maxSteps:=1000000)(dsimp:=false)(disch:=omega) only [go_sem, Φa, hP, h3_3, h3_5, h3_6, h3_7, h3_9, h3_10, hops]
    refine ⟨_, Cell.at 4 rfl rfl, ?_⟩
    try with_reducible refine stI ?_
    try simp (maxSteps:=1000000)(dsimp:=false)(disch:=omega) only [go_sem, Φa, hP, h3_3, h3_5, h3_6, h3_7, h3_9, h3_10, hops]
    refine ⟨_, Cell.at 4 rfl rfl, ?_⟩
    try with_reducible refine stI ?_
    try simp (maxSteps:=1000000)(dsimp:=false)(disch:=omega) only [go_sem, Φa, hP, h3_3, h3_5, h3_6, h3_7, h3_9, h3_10, hops]
    refine ⟨_, Cell.at 4 rfl rfl, ?_⟩
    try with_reducible refine stI ?_
    try simp (maxSteps:=1000000)(dsimp:=false)(disch:=omega) only [go_sem, Φa, hP, h3_3, h3_5, h3_6, h3_7, h3_9, h3_10, hops]
    refine ⟨_, Cell.at 4 rfl rfl, ?_⟩
    try with_reducible refine stI ?_
    try simp (maxSteps:=1000000)(dsimp:=false)(disch:=omega) only [go_sem, Φa, hP, h3_3, h3_5, h3_6, h3_7, h3_9, h3_10, hops]
    refine ⟨_, Cell.at 4 rfl rfl, ?_⟩
    try with_reducible refine stI ?_
    try simp (maxSteps:=1000000)(dsimp:=false)(disch:=omega) only [go_sem, Φa, hP, h3_3, h3_5, h3_6, h3_7, h3_9, h3_10, hops]
    refine ⟨_, Cell.at 4 rfl rfl, ?_⟩
    try with_reducible refine stI ?_
    try simp (maxSteps:=1000000)(dsimp:=false)(disch:=omega) only [go_sem, Φa, hP, h3_3, h3_5, h3_6, h3_7, h3_9, h3_10, hops]
    refine ⟨_, Cell.at 4 rfl rfl, ?_⟩
    try with_reducible refine stI ?_
    try simp (maxSteps:=1000000)(dsimp:=false)(disch:=omega) only [go_sem, Φa, hP, h3_3, h3_5, h3_6, h3_7, h3_9, h3_10, hops]
    refine ⟨_, Cell.at 4 rfl rfl, ?_⟩
    try with_reducible refine stI ?_
    try simp (maxSteps:=1000000)(dsimp:=false)(disch:=omega) only [go_sem, Φa, hP, h3_3, h3_5, h3_6, h3_7, h3_9, h3_10, hops]
    refine ⟨_, Cell.at 4 rfl rfl, ?_⟩
    try with_reducible refine stI ?_
    try simp (maxSteps:=1000000)(dsimp:=false)(disch:=omega) only [go_sem, Φa, hP, h3_3, h3_5, h3_6, h3_7, h3_9, h3_10, hops]
    refine ⟨_, Cell.at 4 rfl rfl, ?_⟩
    try with_reducible refine stI ?_
    try simp (maxSteps:=1000000)(dsimp:=false)(disch:=omega) only [go_sem, Φa, hP, h3_3, h3_5, h3_6, h3_7, h3_9, h3_10, hops]
    refine ⟨_, Cell.at 4 rfl rfl, ?_⟩
    try with_reducible refine stI ?_
    try simp (maxSteps:=1000000)(dsimp:=false)(disch:=omega) only [go_sem, Φa, hP, h3_3, h3_5, h3_6, h3_7, h3_9, h3_10, hops]
    refine ⟨_, Cell.at 4 rfl rfl, ?_⟩
    try with_reducible refine stI ?_
    try simp (maxSteps:=1000000)(dsimp:=false)(disch:=omega) only [go_sem, Φa, hP, h3_3, h3_5, h3_6, h3_7, h3_9, h3_10, hops]
    refine ⟨_, Cell.at 4 rfl rfl, ?_⟩
    try with_reducible refine stI ?_
    try simp (maxSteps:=1000000)(dsimp:=false)(disch:=omega) only [go_sem, Φa, hP, h3_3, h3_5, h3_6, h3_7, h3_9, h3_10, hops]
    refine ⟨_, Cell.at 4 rfl rfl, ?_⟩
    try with_reducible refine stI ?_
    try simp (maxSteps:=1000000)(dsimp:=false)(disch:=omega) only [go_sem, Φa, hP, h3_3, h3_5, h3_6, h3_7, h3_9, h3_10, hops]
    refine ⟨_, Cell.at 4 rfl rfl, ?_⟩
    try with_reducible refine stI ?_
    try simp (maxSteps:=1000000)(dsimp:=false)(disch:=omega) only [go_sem, Φa, hP, h3_3, h3_5, h3_6, h3_7, h3_9, h3_10, hops]
    refine ⟨_, Cell.at 4 rfl rfl, ?_⟩
    try with_reducible refine stI ?_
    try simp (maxSteps:=1000000)(dsimp:=false)(disch:=omega) only [go_sem, Φa, hP, h3_3, h3_5, h3_6, h3_7, h3_9, h3_10, hops]
    refine ⟨_, Cell.at 4 rfl rfl, ?_⟩
    try with_reducible refine stI ?_
    try simp (maxSteps:=1000000)(dsimp:=false)(disch:=omega) only [go_sem, Φa, hP, h3_3, h3_5, h3_6, h3_7, h3_9, h3_10, hops]
    refine ⟨_, Cell.at 4 rfl rfl, ?_⟩
    try with_reducible refine stI ?_
    try simp (maxSteps:=1000000)(dsimp:=false)(disch:=omega) only [go_sem, Φa, hP, h3_3, h3_5, h3_6, h3_7, h3_9, h3_10, hops]
    refine ⟨_, Cell.at 4 rfl rfl, ?_⟩
    try with_reducible refine stI ?_
    try simp (maxSteps:=1000000)(dsimp:=false)(disch:=omega) only [go_sem, Φa, hP, h3_3, h3_5, h3_6, h3_7, h3_9, h3_10, hops]
    first | (refine SCall.mono (SCall.of_less (Less.sublist (.cons _ (.cons _ (.cons _ (.cons _ (.cons _ (.cons_cons _ (.cons_cons _ (.cons_cons _ (.cons _ (List.Sublist.refl _))))))))))) (spread_spec (g := (newG p).1) hP hr hst)) ?_; rintro v_ L_ ⟨hv_, hL_⟩; rw [hv_, hL_]; clear hv_ hL_ v_ L_) | refine ⟨_, SCall.of_less (Less.sublist (.cons _ (.cons _ (.cons _ (.cons _ (.cons _ (.cons_cons _ (.cons_cons _ (.cons_cons _ (.cons _ (List.Sublist.refl _))))))))))) (spread_spec (g := (newG p).1) hP hr hst), ?_⟩ | refine ⟨_, fun L0 hl0 => SCall.of_less (Less.sublist (.cons _ (.cons _ (.cons _ (.cons _ (.cons _ (.cons_cons _ (.cons_cons _ (.cons_cons _ (.cons _ (List.Sublist.refl _))))))))))) (spread_spec (g := (newG p).1) hP hr hst), ?_⟩
    try with_reducible refine stI ?_
    try simp (maxSteps:=1000000)(dsimp:=false)(disch:=omega) only [go_sem, Φa, hP, h3_3, h3_5, h3_6, h3_7, h3_9, h3_10, hops]
    refine hK12 _ _ ?_
    try clear hK12 K12
    refine SX.seq_k fun K13 hK13 => ?_
    refine SX.region_xd [some 36, some 37, some 38, some 39, some 40, some 41, some 42, some 43, some 44, some 45, some 46, some 47, some 48, some 49, some 50, some 2] rfl (fun ops hops => ?_)
    unfold Dsts at hops
    refine RX.live [3, 6, 7, 9, 10, 11] (fun T4 hT4 => ?_)
    simp only [forall_mem_cons', forall_mem_nil', go_sem, Φa, hP, h3_3, h3_5, h3_6, h3_7, h3_9, h3_10] at hT4
    obtain ⟨h4_3, h4_6, h4_7, h4_9, h4_10, h4_11⟩ := hT4
    clear h3_3 h3_5 h3_6 h3_7 h3_9 h3_10 T3
    refine RX.join 4 (fun (ss : Unit) T L' => T 39 = .bool (true) ∧ T 6 = T4 6 ∧ T 9 = T4 9 ∧ T 10 = T4 10 ∧ T 11 = T4 11 ∧ L' = L ∧ (True)) (fun K14 hK14 => ?_) ?_
    · simp only [h4_6, h4_9, h4_10, h4_11] at hK14
      simp (maxSteps:=1000000)(dsimp:=false)(disch:=omega) only [go_sem, Φa, hP, h4_3, h4_6, h4_7, h4_9, h4_10, h4_11, hops]
      repeat' (first | refine iteB (fun hg => ?_) (fun hg => ?_) | refine iteI (fun hg => ?_) (fun hg => ?_) | ((first | refine And.intro (by omega) ?_ | fail); try (with_reducible refine stI ?_); try simp (maxSteps:=1000000)(dsimp:=false)(disch:=omega) only [go_sem, Φa, hP, h4_3, h4_6, h4_7, h4_9, h4_10, h4_11, hops]) | fail)
      all_goals
        refine hK14 () _ (L) _ (by first | exact Less.refl _ | exact Less.drop _ _ | exact Less.drops (Less.drop _ _) | exact Less.drops (Less.drops (Less.drop _ _)) | exact Less.drops (Less.drops (Less.drops (Less.drop _ _))) | exact Less.drops (Less.drops (Less.drops (Less.drops (Less.drop _ _))))) ?_
        try dsimp only
        refine ⟨?_, ?_, ?_, ?_, ?_, ?_, ?_⟩
        · simp (maxSteps:=1000000)(dsimp:=false)(disch:=omega) only [go_sem, Φa, hP, h4_3, h4_6, h4_7, h4_9, h4_10, h4_11]
          first | done | exact congrArg _ (decide_eq_decide.2 (by omega)) | exact congrArg _ (decide_eq_true (by omega)).symm | exact congrArg _ (decide_eq_false (by omega)).symm
        · simp (maxSteps:=1000000)(dsimp:=false)(disch:=omega) only [go_sem, Φa, hP, h4_3, h4_6, h4_7, h4_9, h4_10, h4_11]
        · simp (maxSteps:=1000000)(dsimp:=false)(disch:=omega) only [go_sem, Φa, hP, h4_3, h4_6, h4_7, h4_9, h4_10, h4_11]
        · simp (maxSteps:=1000000)(dsimp:=false)(disch:=omega) only [go_sem, Φa, hP, h4_3, h4_6, h4_7, h4_9, h4_10, h4_11]
        · simp (maxSteps:=1000000)(dsimp:=false)(disch:=omega) only [go_sem, Φa, hP, h4_3, h4_6, h4_7, h4_9, h4_10, h4_11]
        · rfl
        · trivial
    · intro ss T5 L5 hI
      simp only [h4_6, h4_9, h4_10, h4_11] at hI 
      obtain ⟨h5_39, h5_6, h5_9, h5_10, h5_11, hL5, hinv⟩ := hI
      replace hL5 := hL5.symm
      subst hL5
      clear h4_3 h4_6 h4_7 h4_9 h4_10 h4_11 T4
      refine RX.live [6, 9, 10, 11, 39] (fun T6 hT6 => ?_)
      simp only [forall_mem_cons', forall_mem_nil', go_sem, Φa, hP, h5_39, h5_6, h5_9, h5_10, h5_11] at hT6
      obtain ⟨h6_6, h6_9, h6_10, h6_11, h6_39⟩ := hT6
      clear h5_39 h5_6 h5_9 h5_10 h5_11 T5
      refine RX.join 3 (fun (ss : Unit) T L' => T 42 = .bool (true) ∧ T 6 = T6 6 ∧ T 9 = T6 9 ∧ T 11 = T6 11 ∧ L' = L ∧ (True)) (fun K15 hK15 => ?_) ?_
      · simp only [h6_6, h6_9, h6_11] at hK15
        simp (maxSteps:=1000000)(dsimp:=false)(disch:=omega) only [go_sem, Φa, hP, h6_6, h6_9, h6_10, h6_11, h6_39, hops]
        repeat' (first | refine iteB (fun hg => ?_) (fun hg => ?_) | refine iteI (fun hg => ?_) (fun hg => ?_) | ((first | refine And.intro (by omega) ?_ | fail); try (with_reducible refine stI ?_); try simp (maxSteps:=1000000)(dsimp:=false)(disch:=omega) only [go_sem, Φa, hP, h6_6, h6_9, h6_10, h6_11, h6_39, hops]) | fail)
        all_goals
          refine hK15 () _ (L) _ (by first | exact Less.refl _ | exact Less.drop _ _ | exact Less.drops (Less.drop _ _) | exact Less.drops (Less.drops (Less.drop _ _)) | exact Less.drops (Less.drops (Less.drops (Less.drop _ _))) | exact Less.drops (Less.drops (Less.drops (Less.drops (Less.drop _ _))))) ?_
          try dsimp only
          refine ⟨?_, ?_, ?_, ?_, ?_, ?_⟩
          · simp (maxSteps:=1000000)(dsimp:=false)(disch:=omega) only [go_sem, Φa, hP, h6_6, h6_9, h6_10, h6_11, h6_39]
            first | done | exact congrArg _ (decide_eq_decide.2 (by omega)) | exact congrArg _ (decide_eq_true (by omega)).symm | exact congrArg _ (decide_eq_false (by omega)).symm
          · simp (maxSteps:=1000000)(dsimp:=false)(disch:=omega) only [go_sem, Φa, hP, h6_6, h6_9, h6_10, h6_11, h6_39]
          · simp (maxSteps:=1000000)(dsimp:=false)(disch:=omega) only [go_sem, Φa, hP, h6_6, h6_9, h6_10, h6_11, h6_39]
          · simp (maxSteps:=1000000)(dsimp:=false)(disch:=omega) only [go_sem, Φa, hP, h6_6, h6_9, h6_10, h6_11, h6_39]
          · rfl
          · trivial
      · intro ss T7 L7 hI
        simp only [h6_6, h6_9, h6_11] at hI 
        obtain ⟨h7_42, h7_6, h7_9, h7_11, hL7, hinv⟩ := hI
        replace hL7 := hL7.symm
        subst hL7
        clear h6_6 h6_9 h6_10 h6_11 h6_39 T6
        refine RX.live [6, 9, 11, 42] (fun T8 hT8 => ?_)
        simp only [forall_mem_cons', forall_mem_nil', go_sem, Φa, hP, h7_42, h7_6, h7_9, h7_11] at hT8
        obtain ⟨h8_6, h8_9, h8_11, h8_42⟩ := hT8
        clear h7_42 h7_6 h7_9 h7_11 T7
        refine RX.join 3 (fun (ss : Unit) T L' => T 45 = .bool (true) ∧ T 6 = T8 6 ∧ T 9 = T8 9 ∧ L' = L ∧ (True)) (fun K16 hK16 => ?_) ?_
        · simp only [h8_6, h8_9] at hK16
          simp (maxSteps:=1000000)(dsimp:=false)(disch:=omega) only [go_sem, Φa, hP, h8_6, h8_9, h8_11, h8_42, hops]
          repeat' (first | refine iteB (fun hg => ?_) (fun hg => ?_) | refine iteI (fun hg => ?_) (fun hg => ?_) | ((first | refine And.intro (by omega) ?_ | fail); try (with_reducible refine stI ?_); try simp (maxSteps:=1000000)(dsimp:=false)(disch:=omega) only [go_sem, Φa, hP, h8_6, h8_9, h8_11, h8_42, hops]) | fail)
          all_goals
            refine hK16 () _ (L) _ (by first | exact Less.refl _ | exact Less.drop _ _ | exact Less.drops (Less.drop _ _) | exact Less.drops (Less.drops (Less.drop _ _)) | exact Less.drops (Less.drops (Less.drops (Less.drop _ _))) | exact Less.drops (Less.drops (Less.drops (Less.drops (Less.drop _ _))))) ?_
            try dsimp only
            refine ⟨?_, ?_, ?_, ?_, ?_⟩
            · simp (maxSteps:=1000000)(dsimp:=false)(disch:=omega) only [go_sem, Φa, hP, h8_6, h8_9, h8_11, h8_42]
              first | done | exact congrArg _ (decide_eq_decide.2 (by omega)) | exact congrArg _ (decide_eq_true (by omega)).symm | exact congrArg _ (decide_eq_false (by omega)).symm
            · simp (maxSteps:=1000000)(dsimp:=false)(disch:=omega) only [go_sem, Φa, hP, h8_6, h8_9, h8_11, h8_42]
            · simp (maxSteps:=1000000)(dsimp:=false)(disch:=omega) only [go_sem, Φa, hP, h8_6, h8_9, h8_11, h8_42]
            · rfl
            · trivial
        · intro ss T9 L9 hI
          simp only [h8_6, h8_9] at hI 
          obtain ⟨h9_45, h9_6, h9_9, hL9, hinv⟩ := hI
          replace hL9 := hL9.symm
          subst hL9
          clear h8_6 h8_9 h8_11 h8_42 T8
          refine RX.live [6, 9, 45] (fun T10 hT10 => ?_)
          simp only [forall_mem_cons', forall_mem_nil', go_sem, Φa, hP, h9_45, h9_6, h9_9] at hT10
          obtain ⟨h10_6, h10_9, h10_45⟩ := hT10
          clear h9_45 h9_6 h9_9 T9
          refine RX.join 5 (fun (ss : Unit) T L' => T 50 = .bool (true) ∧ L' = L ∧ (True)) (fun K17 hK17 => ?_) ?_
          · simp (maxSteps:=1000000)(dsimp:=false)(disch:=omega) only [go_sem, Φa, hP, h10_6, h10_9, h10_45, hops]
            repeat' (first | refine iteB (fun hg => ?_) (fun hg => ?_) | refine iteI (fun hg => ?_) (fun hg => ?_) | ((first | refine And.intro (by omega) ?_ | fail); try (with_reducible refine stI ?_); try simp (maxSteps:=1000000)(dsimp:=false)(disch:=omega) only [go_sem, Φa, hP, h10_6, h10_9, h10_45, hops]) | fail)
            all_goals
              refine hK17 () _ (L) _ (by first | exact Less.refl _ | exact Less.drop _ _ | exact Less.drops (Less.drop _ _) | exact Less.drops (Less.drops (Less.drop _ _)) | exact Less.drops (Less.drops (Less.drops (Less.drop _ _))) | exact Less.drops (Less.drops (Less.drops (Less.drops (Less.drop _ _))))) ?_
              try dsimp only
              refine ⟨?_, ?_, ?_⟩
              · simp (maxSteps:=1000000)(dsimp:=false)(disch:=omega) only [go_sem, Φa, hP, h10_6, h10_9, h10_45]
                first | done | exact congrArg _ (decide_eq_decide.2 (by omega)) | exact congrArg _ (decide_eq_true (by omega)).symm | exact congrArg _ (decide_eq_false (by omega)).symm
              · rfl
              · trivial
          · intro ss T11 L11 hI
            obtain ⟨h11_50, hL11, hinv⟩ := hI
            replace hL11 := hL11.symm
            subst hL11
            clear h10_6 h10_9 h10_45 T10
            refine RX.done ?_
            simp (maxSteps:=1000000)(dsimp:=false)(disch:=omega) only [go_sem, Φa, hP, h11_50, hops]
            refine hK13 _ _ ?_
            try clear hK13 K13
            refine SX.ret ?_
            simp only [andThen_normal, andThen_ret, andThen_exit, inBlk_normal, inBlk_ret, inBlk_exit, Nat.reduceEqDiff, if_true, if_false, ↓reduceIte, retQ_ret]
            try simp only [res0, res1, res2, res3, stK_e, go_sem, Φa, hP, h11_50]
            exact ⟨_, _, Less.refl _, rfl, rfl, rfl⟩

end Go.Proofs.Ytgioegdjeodpiaa
set_option linter.unusedVariables false
namespace Go.Proofs.Ytgioegdjeodpiaa
open Go.ChangeShapes Go.WideShapes Go.ChangeAt Go.RowKit Go.SX
theorem own : ownKnob Try.prog.godebug = none := by kernel_rfl
theorem laidOut : laidOutB Try.prog = true := by kernel_rfl
theorem cells5 : Try.prog.cellsOf 5 = 1 := by kernel_rfl
theorem cells26 : Try.prog.cellsOf 26 = 1 := by kernel_rfl
end Go.Proofs.Ytgioegdjeodpiaa
set_option linter.unusedVariables false
namespace Go.Proofs.Ytgioegdjeodpiaa
open Go.ChangeShapes Go.WideShapes Go.ChangeAt Go.RowKit Go.SX
set_option maxRecDepth 100000 in
theorem gameNew_lifted (os : Os) (started : os.Started) (H : Type) (enc : TypeId × Value → H) :
    ReturnsInHanded {} Try.checked os 4 .any (Rows.gameNewSpec.pre6 enc Try.prog Try.f4 Rows.gameNewRow.domain false) (Rows.gameNewSpec.post enc Try.prog Try.f4 false true false false) := by
  refine law_lifted (C := Try.checked) (tb := 4) own started (by kernel_rfl) Try.func4
    (ChangeSpec.witness6 (enc := enc) (C := Try.checked) false ⟨#[], #[.slice none 0 0], []⟩ 8 (by kernel_rfl) (by kernel_rfl) (by kernel_rfl) (by kernel_rfl)) rfl laidOut (by kernel_rfl) rfl Try.underlying4 ?_ ?_
  · intro ds hl
    match ds, hl with
    | [d0], _ => rfl
  · intro W base args ds p hval hA
    rw [Try.params4] at hA hval
    obtain ⟨v0, d0, rfl, rfl, h0⟩ := trodAll_one hA
    have k0 := hval 0 23 v0 rfl rfl
    obtain ⟨xs, hx, hw, hl⟩ := open_sl Try.underlying23 Try.underlying5 cells5 k0 h0
    have hm : (maxLen : Nat) = 9223372036854775807 := rfl
    exact SCall.below (GameNew_spec rfl hx (fun n hn => bounds_u8 (hw n hn)) (by omega))
theorem gameNew_said : Rows.GameNewSaid :=
  OpenClaim.holds_of_wide 4 Try.f4 rfl rfl rfl rfl rfl rfl rfl ⟨rfl, rfl, rfl, rfl, rfl⟩ rfl rfl rfl rfl rfl (by kernel_rfl) Try.func4 (by kernel_rfl)
    (of_decide_eq_true (by kernel_rfl)) (by unfold Func.isWrapper; first | (rw [if_pos (by decide +kernel)]; kernel_rfl) | (rw [if_neg (by decide +kernel)]; exact ⟨rfl, rfl⟩))
    (fun os started H enc _ => gameNew_lifted os started H enc)
#print axioms gameNew_said
end Go.Proofs.Ytgioegdjeodpiaa
