/- A part of the proof of OpsLinesCardSaid. -/
import Derived.Test.YthhogfnghaikaaaDoorCD7
import Derived.Test.YthhogfnghaikaaaDoorCSxShape
import Derived.Test.YthhogfnghaikaaaDoorCTrydShelf
set_option linter.unusedVariables false
set_option linter.unusedSimpArgs false
namespace Go.Proofs.YthhogfnghaikaaaDoor
open Go.RowKit Go.SX Go.Proofs

/-! Parse -/
def sp : ByteArray := ⟨#[32]⟩
def words (s : ByteArray) : List ByteArray := Lib.splitB sp 0 (Lib.countB s sp) s
theorem words_length (s : ByteArray) : (words s).length = Lib.countB s sp + 1 := Lib.splitB_all sp (by decide) 0 _ s rfl
def HasM (Γ : Ctx) : Prop := 0 ∉ Γ.own ∧ ∃ m, Γ.w0.cell? ⟨0, 0, none⟩ = some (.int .i64 m)
theorem Split_spec {Γ : Ctx} (hP : Γ.P = Tryd.prog) (hM : HasM Γ) {L : Hp} {s : ByteArray} (hs : s.size < 4294967281) :
    SCall Γ 19 #[.string s, .string ⟨#[32]⟩] L (fun v L' => ∃ b, v = .slice (some ⟨b, 0, none⟩) (words s).length (words s).length ∧ L' = some (b, .cells ((words s).map Value.string).toArray 9 (0, 0)) :: L) := by
  obtain ⟨ho, m, hm⟩ := hM
  rw [words_length]
  refine SCall.of_alloc fun w hi => ?_
  rw [hP]
  exact Tryd.strings_Split s sp m w hs (Cell.w0 ho hm hi) (by decide)
def trimP (s p : ByteArray) : ByteArray := ⟨(Lib.trimPrefix s.data.toList p.data.toList).toArray⟩
theorem TrimPrefix_spec {Γ : Ctx} (hP : Γ.P = Tryd.prog) {L : Hp} (s p : ByteArray) : SCall Γ 21 #[.string s, .string p] L (fun v L' => v = .string (trimP s p) ∧ L' = L) :=
  SCall.of_calls_eq fun w hi => by rw [hP]; exact Tryd.strings_TrimPrefix s p w
def parT (ws : List ByteArray) (r : RowT) : Nat → Ord
  | 0 => ⟨r.op, 0, 0, 0, 0, 0⟩
  | j + 1 => match r.fs[j]? with
    | some f => f.into (parT ws r j) ((numS (trimP (ws.getD (j + 1) ⟨#[]⟩) f.ahead)).getD 0)
    | none => parT ws r j
def parO (ws : List ByteArray) (r : RowT) : Ord := parT ws r r.fs.length
theorem parT_succ {ws : List ByteArray} {r : RowT} {j : Nat} {f : Fd} (h : r.fs[j]? = some f) : parT ws r (j + 1) = f.into (parT ws r j) ((numS (trimP (ws.getD (j + 1) ⟨#[]⟩) f.ahead)).getD 0) := by
  rw [parT, h]
theorem parT_ok {ws : List ByteArray} {r : RowT} (hr : r.op < 256) : ∀ j, OkO (parT ws r j)
  | 0 => ⟨hr, Nat.zero_lt_succ _, Nat.zero_lt_succ _, Nat.zero_lt_succ _, Nat.zero_lt_succ _, Nat.zero_lt_succ _⟩
  | j + 1 => by
    have h := parT_ok (ws := ws) hr j
    rw [parT]
    split
    · exact Fd.into_ok h _ _
    · exact h
def tryRow (s : ByteArray) (r : RowT) : Option Ord := if r.name = (words s).getD 0 ⟨#[]⟩ ∧ (words s).length = 1 + r.fs.length ∧ print (parO (words s) r) = some s then some (parO (words s) r) else none
def parse (s : ByteArray) : Option Ord := table.findSome? (tryRow s)
def parseR (s : ByteArray) : Value := match parse s with
  | some o => .tuple #[.agg o.cells.toArray, .int .i64 0]
  | none => .tuple #[.agg zeroO.cells.toArray, .int .i64 161]
theorem parse_some {s : ByteArray} {k : Nat} {r : RowT} {o : Ord} (hk : table[k]? = some r) (hp : tryRow s r = some o) (hl : ∀ j, j < k → ∀ r', table[j]? = some r' → tryRow s r' = none) : parse s = some o := by
  unfold parse
  obtain ⟨h1, h2⟩ := List.getElem?_eq_some_iff.1 hk
  have e : table = table.take k ++ r :: table.drop (k + 1) := by rw [← h2, ← List.drop_eq_getElem_cons h1, List.take_append_drop]
  rw [e, List.findSome?_append, List.findSome?_eq_none_iff.2, Option.none_or, List.findSome?_cons, hp]
  intro r' hr'
  obtain ⟨j, hj⟩ := List.mem_iff_getElem?.1 hr'
  rw [List.getElem?_take] at hj
  split at hj
  · rename_i hjk
    exact hl j hjk r' hj
  · cases hj
theorem parse_none {s : ByteArray} (hl : ∀ j, j < 31 → ∀ r', table[j]? = some r' → tryRow s r' = none) : parse s = none := by
  unfold parse
  rw [List.findSome?_eq_none_iff]
  intro r hr
  obtain ⟨j, hj⟩ := List.mem_iff_getElem?.1 hr
  exact hl j (by have := (List.getElem?_eq_some_iff.1 hj).1; exact this) r hj
theorem get_mid2 (H : Hp) (a b : Slot) (L : Hp) : (H ++ a :: b :: L)[H.length + 1]? = some b := by simp
theorem set_mid2 (H : Hp) (a b c : Slot) (L : Hp) : (H ++ a :: b :: L).set (H.length + 1) c = H ++ a :: c :: L := by simp [List.set_append_right]
theorem word_at {ws : List ByteArray} {i : Nat} (h : i < ws.length) : (ws.map Value.string)[i]? = some (.string (ws.getD i ⟨#[]⟩)) := by
  rw [List.getElem?_map, List.getD_eq_getElem?_getD, List.getElem?_eq_getElem h]
  rfl
set_option maxHeartbeats 1000000 in
set_option maxRecDepth 100000 in
theorem Parse_spec {Γ : Ctx} (hP : Γ.P = Tryd.prog) {L : Hp} {s : ByteArray} (hM : HasM Γ) (hs : s.size < 4294967281) :
    SCall Γ 11 #[(.string s)] L (fun v L' => v = parseR s ∧ L' = L) := by
  refine SCall.enter (n := 80) (resX Γ [.cell 2 25, .tmp 3]) (hP ▸ Tryd.func11) rfl rfl (by simp) (resX_ok rfl) ?_
  refine SX.seq_k fun K1 hK1 => ?_
  refine SX.region_d [some 2, some 3] rfl (fun ops hops => ?_)
  unfold Dsts at hops
  simp (maxSteps := 1000000) (dsimp := false) (disch := omega) only [go_sem, add_addS, ia_someH, wu8, wu16, w32, wu32, wu64, w64, Nat.reduceEqDiff, Nat.reduceBEq, ↓reduceIte, reduceCtorEq, Int.reduceEq, Nat.reduceLT, Nat.reduceLeDiff, Nat.reduceAdd, Nat.reduceMul, Nat.reduceSub, Int.reduceToNat, Int.reduceLT, Int.reduceLE, Int.reduceAdd, Int.reduceSub, Int.reduceMul, Int.reduceNeg, Nat.reducePow, Int.reducePow, hP, ltT, ltF, leT, leF, eqT, eqF, hops]
  intro g0
  try with_reducible refine stI ?_
  try simp (maxSteps := 1000000) (dsimp := false) (disch := omega) only [go_sem, add_addS, ia_someH, wu8, wu16, w32, wu32, wu64, w64, Nat.reduceEqDiff, Nat.reduceBEq, ↓reduceIte, reduceCtorEq, Int.reduceEq, Nat.reduceLT, Nat.reduceLeDiff, Nat.reduceAdd, Nat.reduceMul, Nat.reduceSub, Int.reduceToNat, Int.reduceLT, Int.reduceLE, Int.reduceAdd, Int.reduceSub, Int.reduceMul, Int.reduceNeg, Nat.reducePow, Int.reducePow, hP, ltT, ltF, leT, leF, eqT, eqF, hops]
  refine hK1 _ _ ?_
  try clear hK1 K1
  refine SX.seq_k fun K2 hK2 => ?_
  refine SX.region_d [some 14, some 15, some 4] rfl (fun ops hops => ?_)
  unfold Dsts at hops
  simp (maxSteps := 1000000) (dsimp := false) (disch := omega) only [go_sem, add_addS, ia_someH, wu8, wu16, w32, wu32, wu64, w64, Nat.reduceEqDiff, Nat.reduceBEq, ↓reduceIte, reduceCtorEq, Int.reduceEq, Nat.reduceLT, Nat.reduceLeDiff, Nat.reduceAdd, Nat.reduceMul, Nat.reduceSub, Int.reduceToNat, Int.reduceLT, Int.reduceLE, Int.reduceAdd, Int.reduceSub, Int.reduceMul, Int.reduceNeg, Nat.reducePow, Int.reducePow, hP, ltT, ltF, leT, leF, eqT, eqF, hops]
  refine SCall.mono (Split_spec hP hM hs) ?_
  rintro v_ L_ ⟨gs, rfl, rfl⟩
  try with_reducible refine stI ?_
  try simp (maxSteps := 1000000) (dsimp := false) (disch := omega) only [go_sem, add_addS, ia_someH, wu8, wu16, w32, wu32, wu64, w64, Nat.reduceEqDiff, Nat.reduceBEq, ↓reduceIte, reduceCtorEq, Int.reduceEq, Nat.reduceLT, Nat.reduceLeDiff, Nat.reduceAdd, Nat.reduceMul, Nat.reduceSub, Int.reduceToNat, Int.reduceLT, Int.reduceLE, Int.reduceAdd, Int.reduceSub, Int.reduceMul, Int.reduceNeg, Nat.reducePow, Int.reducePow, hP, ltT, ltF, leT, leF, eqT, eqF, hops]
  refine hK2 _ _ ?_
  try clear hK2 K2
  refine SX.seq_k fun K3 hK3 => ?_
  refine SX.seq_k fun K4 hK4 => ?_
  refine SX.region_d [some 16, some 17, some 18] rfl (fun ops hops => ?_)
  unfold Dsts at hops
  simp (maxSteps := 1000000) (dsimp := false) (disch := omega) only [go_sem, add_addS, ia_someH, wu8, wu16, w32, wu32, wu64, w64, Nat.reduceEqDiff, Nat.reduceBEq, ↓reduceIte, reduceCtorEq, Int.reduceEq, Nat.reduceLT, Nat.reduceLeDiff, Nat.reduceAdd, Nat.reduceMul, Nat.reduceSub, Int.reduceToNat, Int.reduceLT, Int.reduceLE, Int.reduceAdd, Int.reduceSub, Int.reduceMul, Int.reduceNeg, Nat.reducePow, Int.reducePow, hP, ltT, ltF, leT, leF, eqT, eqF, hops]
  refine SCall.mono (rows_spec hP) ?_
  rintro v_ L_ ⟨H, a, rfl, rfl, hrow⟩
  try with_reducible refine stI ?_
  try simp (maxSteps := 1000000) (dsimp := false) (disch := omega) only [go_sem, add_addS, ia_someH, wu8, wu16, w32, wu32, wu64, w64, Nat.reduceEqDiff, Nat.reduceBEq, ↓reduceIte, reduceCtorEq, Int.reduceEq, Nat.reduceLT, Nat.reduceLeDiff, Nat.reduceAdd, Nat.reduceMul, Nat.reduceSub, Int.reduceToNat, Int.reduceLT, Int.reduceLE, Int.reduceAdd, Int.reduceSub, Int.reduceMul, Int.reduceNeg, Nat.reducePow, Int.reducePow, hP, ltT, ltF, leT, leF, eqT, eqF, hops]
  refine hK4 _ _ ?_
  try clear hK4 K4
  refine SX.block ?_
  have hwl : 1 ≤ (words s).length := by rw [words_length]; omega
  refine SX.live [0, 2, 4, 16, 17, 18] (fun T1 hT1 => ?_)
  simp only [forall_mem_cons', forall_mem_nil', go_sem, add_addS, ia_someH, wu8, wu16, w32, wu32, wu64, w64, Nat.reduceEqDiff, Nat.reduceBEq, ↓reduceIte, reduceCtorEq, Int.reduceEq, Nat.reduceLT, Nat.reduceLeDiff, Nat.reduceAdd, Nat.reduceMul, Nat.reduceSub, Int.reduceToNat, Int.reduceLT, Int.reduceLE, Int.reduceAdd, Int.reduceSub, Int.reduceMul, Int.reduceNeg, Nat.reducePow, Int.reducePow, hP, ltT, ltF, leT, leF, eqT, eqF] at hT1
  obtain ⟨h1_0, h1_2, h1_4, h1_16, h1_17, h1_18⟩ := hT1
  refine SX.loop_k (fun (ss : (Nat)) T L' => (fun (k : Nat) => T 18 = .int .i64 (k : Int) ∧ T 0 = T1 0 ∧ T 2 = T1 2 ∧ T 4 = T1 4 ∧ T 16 = T1 16 ∧ T 17 = T1 17 ∧ L' = H ++ some (gs, .cells ((words s).map Value.string).toArray 9 (0, 0)) :: some (g0, .cells zeroO.cells.toArray 25 (0, 0)) :: L ∧ (k ≤ 31 ∧ ∀ i, i < k → ∀ r', table[i]? = some r' → tryRow s r' = none)) (ss)) (fun (ss : (Nat)) => (fun (k : Nat) => 31 - k) (ss)) 0 ?_ ?_
  · try dsimp only
    refine ⟨?_, ?_, ?_, ?_, ?_, ?_, ?_, ?_⟩
    · first | exact h1_18 | (rw [h1_18]; rfl) | (rw [h1_18]; simp; done)
    · rfl
    · rfl
    · rfl
    · rfl
    · rfl
    · rfl
    · exact ⟨Nat.zero_le _, fun j hj => absurd hj (Nat.not_lt_zero _)⟩
  · intro k T2 L2 hI K5 hK5
    try dsimp only at hI hK5
    simp only [h1_0, h1_2, h1_4, h1_16, h1_17] at hI hK5
    obtain ⟨h2_18, h2_0, h2_2, h2_4, h2_16, h2_17, hL2, ⟨hk, hno⟩⟩ := hI
    replace hL2 := hL2.symm
    subst hL2
    clear h1_0 h1_2 h1_4 h1_16 h1_17 h1_18 T1
    refine SX.seq_k fun K6 hK6 => ?_
    refine SX.region_d [some 19] rfl (fun ops hops => ?_)
    unfold Dsts at hops
    simp (maxSteps := 1000000) (dsimp := false) (disch := omega) only [go_sem, add_addS, ia_someH, wu8, wu16, w32, wu32, wu64, w64, Nat.reduceEqDiff, Nat.reduceBEq, ↓reduceIte, reduceCtorEq, Int.reduceEq, Nat.reduceLT, Nat.reduceLeDiff, Nat.reduceAdd, Nat.reduceMul, Nat.reduceSub, Int.reduceToNat, Int.reduceLT, Int.reduceLE, Int.reduceAdd, Int.reduceSub, Int.reduceMul, Int.reduceNeg, Nat.reducePow, Int.reducePow, hP, h2_18, h2_0, h2_2, h2_4, h2_16, h2_17, ltT, ltF, leT, leF, eqT, eqF, hops]
    repeat' ((first | refine And.intro (by omega) ?_ | fail); try (with_reducible refine stI ?_); try simp (maxSteps := 1000000) (dsimp := false) (disch := omega) only [go_sem, add_addS, ia_someH, wu8, wu16, w32, wu32, wu64, w64, Nat.reduceEqDiff, Nat.reduceBEq, ↓reduceIte, reduceCtorEq, Int.reduceEq, Nat.reduceLT, Nat.reduceLeDiff, Nat.reduceAdd, Nat.reduceMul, Nat.reduceSub, Int.reduceToNat, Int.reduceLT, Int.reduceLE, Int.reduceAdd, Int.reduceSub, Int.reduceMul, Int.reduceNeg, Nat.reducePow, Int.reducePow, hP, h2_18, h2_0, h2_2, h2_4, h2_16, h2_17, ltT, ltF, leT, leF, eqT, eqF, hops])
    refine hK6 _ _ ?_
    try clear hK6 K6
    refine SX.seq_k fun K7 hK7 => ?_
    refine SX.cond_k fun X8 Y8 hX8 hY8 => ?_
    simp (maxSteps := 1000000) (dsimp := false) (disch := omega) only [go_sem, add_addS, ia_someH, wu8, wu16, w32, wu32, wu64, w64, Nat.reduceEqDiff, Nat.reduceBEq, ↓reduceIte, reduceCtorEq, Int.reduceEq, Nat.reduceLT, Nat.reduceLeDiff, Nat.reduceAdd, Nat.reduceMul, Nat.reduceSub, Int.reduceToNat, Int.reduceLT, Int.reduceLE, Int.reduceAdd, Int.reduceSub, Int.reduceMul, Int.reduceNeg, Nat.reducePow, Int.reducePow, hP, h2_18, h2_0, h2_2, h2_4, h2_16, h2_17, ltT, ltF, leT, leF, eqT, eqF, condVC]
    refine ⟨fun hc19 => hX8 ?_, fun hc19 => hY8 ?_⟩
    · clear hX8 hY8 X8 Y8
      refine SX.skip ?_
      try simp only [andThen_normal, andThen_ret, andThen_exit, inBlk_normal, inBlk_ret, inBlk_exit, Nat.reduceEqDiff, if_true, if_false, ↓reduceIte]
      refine hK7 _ _ ?_
      try clear hK7 K7
      refine SX.seq_k fun K9 hK9 => ?_
      refine SX.block ?_
      refine SX.seq_k fun K10 hK10 => ?_
      have hkl : k < 31 := by omega
      have hk0 : table[k]? = some table[k] := List.getElem?_eq_getElem hkl
      obtain ⟨fv, hfv⟩ := hrow k _ hk0
      have hti := table_in hk0
      generalize table[k] = r at hk0 hfv hti
      obtain ⟨c0, c1, c2, c3, c4, hfs⟩ := hfv (some (gs, .cells ((words s).map Value.string).toArray 9 (0, 0)) :: some (g0, .cells zeroO.cells.toArray 25 (0, 0)) :: L)
      obtain ⟨FA, fc, hfe, hfc, hfA⟩ := id hfs
      subst hfe
      simp only [add_addS] at c1 c2 c3 c4
      have hw0 := word_at (ws := words s) hwl
      refine SX.region_d [some 20, some 21, some 6, none] rfl (fun ops hops => ?_)
      unfold Dsts at hops
      simp (maxSteps := 1000000) (dsimp := false) (disch := omega) only [go_sem, add_addS, ia_someH, wu8, wu16, w32, wu32, wu64, w64, Nat.reduceEqDiff, Nat.reduceBEq, ↓reduceIte, reduceCtorEq, Int.reduceEq, Nat.reduceLT, Nat.reduceLeDiff, Nat.reduceAdd, Nat.reduceMul, Nat.reduceSub, Int.reduceToNat, Int.reduceLT, Int.reduceLE, Int.reduceAdd, Int.reduceSub, Int.reduceMul, Int.reduceNeg, Nat.reducePow, Int.reducePow, hP, h2_18, h2_0, h2_2, h2_4, h2_16, h2_17, ltT, ltF, leT, leF, eqT, eqF, hops]
      refine ⟨_, c0, _, c1, _, c2, _, c3, _, c4, ?_⟩
      try with_reducible refine stI ?_
      try simp (maxSteps := 1000000) (dsimp := false) (disch := omega) only [go_sem, add_addS, ia_someH, wu8, wu16, w32, wu32, wu64, w64, Nat.reduceEqDiff, Nat.reduceBEq, ↓reduceIte, reduceCtorEq, Int.reduceEq, Nat.reduceLT, Nat.reduceLeDiff, Nat.reduceAdd, Nat.reduceMul, Nat.reduceSub, Int.reduceToNat, Int.reduceLT, Int.reduceLE, Int.reduceAdd, Int.reduceSub, Int.reduceMul, Int.reduceNeg, Nat.reducePow, Int.reducePow, hP, h2_18, h2_0, h2_2, h2_4, h2_16, h2_17, ltT, ltF, leT, leF, eqT, eqF, hops]
      intro g4
      try with_reducible refine stI ?_
      try simp (maxSteps := 1000000) (dsimp := false) (disch := omega) only [go_sem, add_addS, ia_someH, wu8, wu16, w32, wu32, wu64, w64, Nat.reduceEqDiff, Nat.reduceBEq, ↓reduceIte, reduceCtorEq, Int.reduceEq, Nat.reduceLT, Nat.reduceLeDiff, Nat.reduceAdd, Nat.reduceMul, Nat.reduceSub, Int.reduceToNat, Int.reduceLT, Int.reduceLE, Int.reduceAdd, Int.reduceSub, Int.reduceMul, Int.reduceNeg, Nat.reducePow, Int.reducePow, hP, h2_18, h2_0, h2_2, h2_4, h2_16, h2_17, ltT, ltF, leT, leF, eqT, eqF, hops]
      refine ⟨0, _, _, _, rfl, by decide, .inr (by decide), ?_⟩
      try with_reducible refine stI ?_
      try simp (maxSteps := 1000000) (dsimp := false) (disch := omega) only [go_sem, add_addS, ia_someH, wu8, wu16, w32, wu32, wu64, w64, Nat.reduceEqDiff, Nat.reduceBEq, ↓reduceIte, reduceCtorEq, Int.reduceEq, Nat.reduceLT, Nat.reduceLeDiff, Nat.reduceAdd, Nat.reduceMul, Nat.reduceSub, Int.reduceToNat, Int.reduceLT, Int.reduceLE, Int.reduceAdd, Int.reduceSub, Int.reduceMul, Int.reduceNeg, Nat.reducePow, Int.reducePow, hP, h2_18, h2_0, h2_2, h2_4, h2_16, h2_17, ltT, ltF, leT, leF, eqT, eqF, hops]
      refine hK10 _ _ ?_
      try clear hK10 K10
      refine SX.seq_k fun K11 hK11 => ?_
      refine SX.seq_k fun K12 hK12 => ?_
      refine SX.quiet_xd (hP ▸ T.mixed) (by kernel_rfl) [some 22, some 23, some 24, some 25, some 26, some 27, some 28, some 29, some 30, some 31, some 32, some 33, some 34, some 35, some 36] rfl (fun ops hops => ?_)
      unfold Dsts at hops
      refine QX.live [0, 2, 4, 6, 16, 17, 18] (fun T3 hT3 => ?_)
      simp only [forall_mem_cons', forall_mem_nil', go_sem, add_addS, ia_someH, wu8, wu16, w32, wu32, wu64, w64, Nat.reduceEqDiff, Nat.reduceBEq, ↓reduceIte, reduceCtorEq, Int.reduceEq, Nat.reduceLT, Nat.reduceLeDiff, Nat.reduceAdd, Nat.reduceMul, Nat.reduceSub, Int.reduceToNat, Int.reduceLT, Int.reduceLE, Int.reduceAdd, Int.reduceSub, Int.reduceMul, Int.reduceNeg, Nat.reducePow, Int.reducePow, hP, h2_18, h2_0, h2_2, h2_4, h2_16, h2_17, ltT, ltF, leT, leF, eqT, eqF] at hT3
      obtain ⟨h3_0, h3_2, h3_4, h3_6, h3_16, h3_17, h3_18⟩ := hT3
      clear h2_18 h2_0 h2_2 h2_4 h2_16 h2_17 T2
      refine QX.join 15 (fun (ss : Unit) T L' => T 36 = .bool (decide (¬ (r.name = (words s).getD 0 ⟨#[]⟩ ∧ (words s).length = 1 + r.fs.length))) ∧ T 0 = T3 0 ∧ T 2 = T3 2 ∧ T 4 = T3 4 ∧ T 6 = T3 6 ∧ T 16 = T3 16 ∧ T 17 = T3 17 ∧ T 18 = T3 18 ∧ L' = some (g4, .cells [.int .u8 (r.op : Int), .int .u16 (r.mask : Int), .int .u16 (r.word : Int), .string r.name, .slice FA r.fs.length fc].toArray 58 (0, 0)) :: (H ++ some (gs, .cells ((words s).map Value.string).toArray 9 (0, 0)) :: some (g0, .cells zeroO.cells.toArray 25 (0, 0)) :: L) ∧ (True)) (fun K13 hK13 => ?_) ?_
      · simp only [h3_0, h3_2, h3_4, h3_6, h3_16, h3_17, h3_18] at hK13
        simp (maxSteps := 1000000) (dsimp := false) (disch := omega) only [go_sem, add_addS, ia_someH, wu8, wu16, w32, wu32, wu64, w64, Nat.reduceEqDiff, Nat.reduceBEq, ↓reduceIte, reduceCtorEq, Int.reduceEq, Nat.reduceLT, Nat.reduceLeDiff, Nat.reduceAdd, Nat.reduceMul, Nat.reduceSub, Int.reduceToNat, Int.reduceLT, Int.reduceLE, Int.reduceAdd, Int.reduceSub, Int.reduceMul, Int.reduceNeg, Nat.reducePow, Int.reducePow, hP, h3_0, h3_2, h3_4, h3_6, h3_16, h3_17, h3_18, ltT, ltF, leT, leF, eqT, eqF, hops]
        repeat' (first | refine iteB (fun hg => ?_) (fun hg => ?_) | refine iteI (fun hg => ?_) (fun hg => ?_) | ((first | refine ⟨_, Cell.at 0 rfl rfl, ?_⟩ | refine ⟨_, Cell.at (H.length + 1) (by simp only [List.getElem?_cons_succ]; exact get_mid _ _ _) (hw0), ?_⟩ | refine And.intro (by omega) ?_ | refine ⟨_, Cell.at 0 rfl rfl, ?_⟩ | refine ⟨_, Cell.at 1 rfl rfl, ?_⟩ | refine ⟨_, Cell.at 2 rfl rfl, ?_⟩ | fail); try (with_reducible refine stI ?_); try simp (maxSteps := 1000000) (dsimp := false) (disch := omega) only [go_sem, add_addS, ia_someH, wu8, wu16, w32, wu32, wu64, w64, Nat.reduceEqDiff, Nat.reduceBEq, ↓reduceIte, reduceCtorEq, Int.reduceEq, Nat.reduceLT, Nat.reduceLeDiff, Nat.reduceAdd, Nat.reduceMul, Nat.reduceSub, Int.reduceToNat, Int.reduceLT, Int.reduceLE, Int.reduceAdd, Int.reduceSub, Int.reduceMul, Int.reduceNeg, Nat.reducePow, Int.reducePow, hP, h3_0, h3_2, h3_4, h3_6, h3_16, h3_17, h3_18, ltT, ltF, leT, leF, eqT, eqF, hops]) | fail)
        all_goals
          refine hK13 () _ (some (g4, .cells [.int .u8 (r.op : Int), .int .u16 (r.mask : Int), .int .u16 (r.word : Int), .string r.name, .slice FA r.fs.length fc].toArray 58 (0, 0)) :: (H ++ some (gs, .cells ((words s).map Value.string).toArray 9 (0, 0)) :: some (g0, .cells zeroO.cells.toArray 25 (0, 0)) :: L)) _ (by rfl) ?_
          try dsimp only
          refine ⟨?_, ?_, ?_, ?_, ?_, ?_, ?_, ?_, ?_, ?_⟩
          · simp (maxSteps := 1000000) (dsimp := false) (disch := omega) only [go_sem, add_addS, ia_someH, wu8, wu16, w32, wu32, wu64, w64, Nat.reduceEqDiff, Nat.reduceBEq, ↓reduceIte, reduceCtorEq, Int.reduceEq, Nat.reduceLT, Nat.reduceLeDiff, Nat.reduceAdd, Nat.reduceMul, Nat.reduceSub, Int.reduceToNat, Int.reduceLT, Int.reduceLE, Int.reduceAdd, Int.reduceSub, Int.reduceMul, Int.reduceNeg, Nat.reducePow, Int.reducePow, hP, h3_0, h3_2, h3_4, h3_6, h3_16, h3_17, h3_18, ltT, ltF, leT, leF, eqT, eqF]
            first | done | rfl | (refine congrArg Value.bool (Bool.eq_iff_iff.2 ?_); simp only [Bool.not_eq_true', decide_eq_true_eq, decide_eq_false_iff_not, true_iff, false_iff, Bool.false_eq_true, hg, true_and, false_and, not_true_eq_false, not_false_eq_true, iff_true, iff_false]; try omega)
          · simp (maxSteps := 1000000) (dsimp := false) (disch := omega) only [go_sem, add_addS, ia_someH, wu8, wu16, w32, wu32, wu64, w64, Nat.reduceEqDiff, Nat.reduceBEq, ↓reduceIte, reduceCtorEq, Int.reduceEq, Nat.reduceLT, Nat.reduceLeDiff, Nat.reduceAdd, Nat.reduceMul, Nat.reduceSub, Int.reduceToNat, Int.reduceLT, Int.reduceLE, Int.reduceAdd, Int.reduceSub, Int.reduceMul, Int.reduceNeg, Nat.reducePow, Int.reducePow, hP, h3_0, h3_2, h3_4, h3_6, h3_16, h3_17, h3_18, ltT, ltF, leT, leF, eqT, eqF]
          · simp (maxSteps := 1000000) (dsimp := false) (disch := omega) only [go_sem, add_addS, ia_someH, wu8, wu16, w32, wu32, wu64, w64, Nat.reduceEqDiff, Nat.reduceBEq, ↓reduceIte, reduceCtorEq, Int.reduceEq, Nat.reduceLT, Nat.reduceLeDiff, Nat.reduceAdd, Nat.reduceMul, Nat.reduceSub, Int.reduceToNat, Int.reduceLT, Int.reduceLE, Int.reduceAdd, Int.reduceSub, Int.reduceMul, Int.reduceNeg, Nat.reducePow, Int.reducePow, hP, h3_0, h3_2, h3_4, h3_6, h3_16, h3_17, h3_18, ltT, ltF, leT, leF, eqT, eqF]
          · simp (maxSteps := 1000000) (dsimp := false) (disch := omega) only [go_sem, add_addS, ia_someH, wu8, wu16, w32, wu32, wu64, w64, Nat.reduceEqDiff, Nat.reduceBEq, ↓reduceIte, reduceCtorEq, Int.reduceEq, Nat.reduceLT, Nat.reduceLeDiff, Nat.reduceAdd, Nat.reduceMul, Nat.reduceSub, Int.reduceToNat, Int.reduceLT, Int.reduceLE, Int.reduceAdd, Int.reduceSub, Int.reduceMul, Int.reduceNeg, Nat.reducePow, Int.reducePow, hP, h3_0, h3_2, h3_4, h3_6, h3_16, h3_17, h3_18, ltT, ltF, leT, leF, eqT, eqF]
          · simp (maxSteps := 1000000) (dsimp := false) (disch := omega) only [go_sem, add_addS, ia_someH, wu8, wu16, w32, wu32, wu64, w64, Nat.reduceEqDiff, Nat.reduceBEq, ↓reduceIte, reduceCtorEq, Int.reduceEq, Nat.reduceLT, Nat.reduceLeDiff, Nat.reduceAdd, Nat.reduceMul, Nat.reduceSub, Int.reduceToNat, Int.reduceLT, Int.reduceLE, Int.reduceAdd, Int.reduceSub, Int.reduceMul, Int.reduceNeg, Nat.reducePow, Int.reducePow, hP, h3_0, h3_2, h3_4, h3_6, h3_16, h3_17, h3_18, ltT, ltF, leT, leF, eqT, eqF]
          · simp (maxSteps := 1000000) (dsimp := false) (disch := omega) only [go_sem, add_addS, ia_someH, wu8, wu16, w32, wu32, wu64, w64, Nat.reduceEqDiff, Nat.reduceBEq, ↓reduceIte, reduceCtorEq, Int.reduceEq, Nat.reduceLT, Nat.reduceLeDiff, Nat.reduceAdd, Nat.reduceMul, Nat.reduceSub, Int.reduceToNat, Int.reduceLT, Int.reduceLE, Int.reduceAdd, Int.reduceSub, Int.reduceMul, Int.reduceNeg, Nat.reducePow, Int.reducePow, hP, h3_0, h3_2, h3_4, h3_6, h3_16, h3_17, h3_18, ltT, ltF, leT, leF, eqT, eqF]
          · simp (maxSteps := 1000000) (dsimp := false) (disch := omega) only [go_sem, add_addS, ia_someH, wu8, wu16, w32, wu32, wu64, w64, Nat.reduceEqDiff, Nat.reduceBEq, ↓reduceIte, reduceCtorEq, Int.reduceEq, Nat.reduceLT, Nat.reduceLeDiff, Nat.reduceAdd, Nat.reduceMul, Nat.reduceSub, Int.reduceToNat, Int.reduceLT, Int.reduceLE, Int.reduceAdd, Int.reduceSub, Int.reduceMul, Int.reduceNeg, Nat.reducePow, Int.reducePow, hP, h3_0, h3_2, h3_4, h3_6, h3_16, h3_17, h3_18, ltT, ltF, leT, leF, eqT, eqF]
          · simp (maxSteps := 1000000) (dsimp := false) (disch := omega) only [go_sem, add_addS, ia_someH, wu8, wu16, w32, wu32, wu64, w64, Nat.reduceEqDiff, Nat.reduceBEq, ↓reduceIte, reduceCtorEq, Int.reduceEq, Nat.reduceLT, Nat.reduceLeDiff, Nat.reduceAdd, Nat.reduceMul, Nat.reduceSub, Int.reduceToNat, Int.reduceLT, Int.reduceLE, Int.reduceAdd, Int.reduceSub, Int.reduceMul, Int.reduceNeg, Nat.reducePow, Int.reducePow, hP, h3_0, h3_2, h3_4, h3_6, h3_16, h3_17, h3_18, ltT, ltF, leT, leF, eqT, eqF]
          · rfl
          · trivial
      · intro ss T4 L4 hE4 hI
        simp only [h3_0, h3_2, h3_4, h3_6, h3_16, h3_17, h3_18] at hI 
        obtain ⟨h4_36, h4_0, h4_2, h4_4, h4_6, h4_16, h4_17, h4_18, hL4, hinv⟩ := hI
        replace hL4 := hL4.symm
        subst hL4
        clear h3_0 h3_2 h3_4 h3_6 h3_16 h3_17 h3_18 T3
        clear hE4
        refine QX.done ?_
        simp (maxSteps := 1000000) (dsimp := false) (disch := omega) only [go_sem, add_addS, ia_someH, wu8, wu16, w32, wu32, wu64, w64, Nat.reduceEqDiff, Nat.reduceBEq, ↓reduceIte, reduceCtorEq, Int.reduceEq, Nat.reduceLT, Nat.reduceLeDiff, Nat.reduceAdd, Nat.reduceMul, Nat.reduceSub, Int.reduceToNat, Int.reduceLT, Int.reduceLE, Int.reduceAdd, Int.reduceSub, Int.reduceMul, Int.reduceNeg, Nat.reducePow, Int.reducePow, hP, h4_36, h4_0, h4_2, h4_4, h4_6, h4_16, h4_17, h4_18, ltT, ltF, leT, leF, eqT, eqF, hops]
        refine hK12 _ _ ?_
        try clear hK12 K12
        refine SX.cond_k fun X14 Y14 hX14 hY14 => ?_
        simp (maxSteps := 1000000) (dsimp := false) (disch := omega) only [go_sem, add_addS, ia_someH, wu8, wu16, w32, wu32, wu64, w64, Nat.reduceEqDiff, Nat.reduceBEq, ↓reduceIte, reduceCtorEq, Int.reduceEq, Nat.reduceLT, Nat.reduceLeDiff, Nat.reduceAdd, Nat.reduceMul, Nat.reduceSub, Int.reduceToNat, Int.reduceLT, Int.reduceLE, Int.reduceAdd, Int.reduceSub, Int.reduceMul, Int.reduceNeg, Nat.reducePow, Int.reducePow, hP, h4_36, h4_0, h4_2, h4_4, h4_6, h4_16, h4_17, h4_18, ltT, ltF, leT, leF, eqT, eqF, condVC]
        refine ⟨fun hc36 => hX14 ?_, fun hc36 => hY14 ?_⟩
        · clear hX14 hY14 X14 Y14
          refine SX.exit ?_
          try simp only [andThen_normal, andThen_ret, andThen_exit, inBlk_normal, inBlk_ret, inBlk_exit, Nat.reduceEqDiff, if_true, if_false, ↓reduceIte]
          refine hK9 _ _ ?_
          try clear hK9 K9
          refine SX.region_d [some 78, some 18] rfl (fun ops hops => ?_)
          unfold Dsts at hops
          simp (maxSteps := 1000000) (dsimp := false) (disch := omega) only [go_sem, add_addS, ia_someH, wu8, wu16, w32, wu32, wu64, w64, Nat.reduceEqDiff, Nat.reduceBEq, ↓reduceIte, reduceCtorEq, Int.reduceEq, Nat.reduceLT, Nat.reduceLeDiff, Nat.reduceAdd, Nat.reduceMul, Nat.reduceSub, Int.reduceToNat, Int.reduceLT, Int.reduceLE, Int.reduceAdd, Int.reduceSub, Int.reduceMul, Int.reduceNeg, Nat.reducePow, Int.reducePow, hP, h4_36, h4_0, h4_2, h4_4, h4_6, h4_16, h4_17, h4_18, ltT, ltF, leT, leF, eqT, eqF, hops]
          repeat' ((first | refine And.intro (by omega) ?_ | fail); try (with_reducible refine stI ?_); try simp (maxSteps := 1000000) (dsimp := false) (disch := omega) only [go_sem, add_addS, ia_someH, wu8, wu16, w32, wu32, wu64, w64, Nat.reduceEqDiff, Nat.reduceBEq, ↓reduceIte, reduceCtorEq, Int.reduceEq, Nat.reduceLT, Nat.reduceLeDiff, Nat.reduceAdd, Nat.reduceMul, Nat.reduceSub, Int.reduceToNat, Int.reduceLT, Int.reduceLE, Int.reduceAdd, Int.reduceSub, Int.reduceMul, Int.reduceNeg, Nat.reducePow, Int.reducePow, hP, h4_36, h4_0, h4_2, h4_4, h4_6, h4_16, h4_17, h4_18, ltT, ltF, leT, leF, eqT, eqF, hops])
          refine hK5 (k + 1) _ (H ++ some (gs, .cells ((words s).map Value.string).toArray 9 (0, 0)) :: some (g0, .cells zeroO.cells.toArray 25 (0, 0)) :: L) _ (by first | exact Less.refl _ | exact Less.drop _ _ | exact Less.drops (Less.drop _ _) | exact Less.drops (Less.drops (Less.drop _ _)) | exact Less.drops (Less.drops (Less.drops (Less.drop _ _))) | exact Less.drops (Less.drops (Less.drops (Less.drops (Less.drop _ _))))) ?_ ?_
          · try dsimp only
            refine ⟨?_, ?_, ?_, ?_, ?_, ?_, ?_, ?_⟩
            · simp (maxSteps := 1000000) (dsimp := false) (disch := omega) only [go_sem, add_addS, ia_someH, wu8, wu16, w32, wu32, wu64, w64, Nat.reduceEqDiff, Nat.reduceBEq, ↓reduceIte, reduceCtorEq, Int.reduceEq, Nat.reduceLT, Nat.reduceLeDiff, Nat.reduceAdd, Nat.reduceMul, Nat.reduceSub, Int.reduceToNat, Int.reduceLT, Int.reduceLE, Int.reduceAdd, Int.reduceSub, Int.reduceMul, Int.reduceNeg, Nat.reducePow, Int.reducePow, hP, h4_36, h4_0, h4_2, h4_4, h4_6, h4_16, h4_17, h4_18, ltT, ltF, leT, leF, eqT, eqF]
              rfl
            · simp (maxSteps := 1000000) (dsimp := false) (disch := omega) only [go_sem, add_addS, ia_someH, wu8, wu16, w32, wu32, wu64, w64, Nat.reduceEqDiff, Nat.reduceBEq, ↓reduceIte, reduceCtorEq, Int.reduceEq, Nat.reduceLT, Nat.reduceLeDiff, Nat.reduceAdd, Nat.reduceMul, Nat.reduceSub, Int.reduceToNat, Int.reduceLT, Int.reduceLE, Int.reduceAdd, Int.reduceSub, Int.reduceMul, Int.reduceNeg, Nat.reducePow, Int.reducePow, hP, h4_36, h4_0, h4_2, h4_4, h4_6, h4_16, h4_17, h4_18, ltT, ltF, leT, leF, eqT, eqF]
            · simp (maxSteps := 1000000) (dsimp := false) (disch := omega) only [go_sem, add_addS, ia_someH, wu8, wu16, w32, wu32, wu64, w64, Nat.reduceEqDiff, Nat.reduceBEq, ↓reduceIte, reduceCtorEq, Int.reduceEq, Nat.reduceLT, Nat.reduceLeDiff, Nat.reduceAdd, Nat.reduceMul, Nat.reduceSub, Int.reduceToNat, Int.reduceLT, Int.reduceLE, Int.reduceAdd, Int.reduceSub, Int.reduceMul, Int.reduceNeg, Nat.reducePow, Int.reducePow, hP, h4_36, h4_0, h4_2, h4_4, h4_6, h4_16, h4_17, h4_18, ltT, ltF, leT, leF, eqT, eqF]
            · simp (maxSteps := 1000000) (dsimp := false) (disch := omega) only [go_sem, add_addS, ia_someH, wu8, wu16, w32, wu32, wu64, w64, Nat.reduceEqDiff, Nat.reduceBEq, ↓reduceIte, reduceCtorEq, Int.reduceEq, Nat.reduceLT, Nat.reduceLeDiff, Nat.reduceAdd, Nat.reduceMul, Nat.reduceSub, Int.reduceToNat, Int.reduceLT, Int.reduceLE, Int.reduceAdd, Int.reduceSub, Int.reduceMul, Int.reduceNeg, Nat.reducePow, Int.reducePow, hP, h4_36, h4_0, h4_2, h4_4, h4_6, h4_16, h4_17, h4_18, ltT, ltF, leT, leF, eqT, eqF]
            · simp (maxSteps := 1000000) (dsimp := false) (disch := omega) only [go_sem, add_addS, ia_someH, wu8, wu16, w32, wu32, wu64, w64, Nat.reduceEqDiff, Nat.reduceBEq, ↓reduceIte, reduceCtorEq, Int.reduceEq, Nat.reduceLT, Nat.reduceLeDiff, Nat.reduceAdd, Nat.reduceMul, Nat.reduceSub, Int.reduceToNat, Int.reduceLT, Int.reduceLE, Int.reduceAdd, Int.reduceSub, Int.reduceMul, Int.reduceNeg, Nat.reducePow, Int.reducePow, hP, h4_36, h4_0, h4_2, h4_4, h4_6, h4_16, h4_17, h4_18, ltT, ltF, leT, leF, eqT, eqF]
            · simp (maxSteps := 1000000) (dsimp := false) (disch := omega) only [go_sem, add_addS, ia_someH, wu8, wu16, w32, wu32, wu64, w64, Nat.reduceEqDiff, Nat.reduceBEq, ↓reduceIte, reduceCtorEq, Int.reduceEq, Nat.reduceLT, Nat.reduceLeDiff, Nat.reduceAdd, Nat.reduceMul, Nat.reduceSub, Int.reduceToNat, Int.reduceLT, Int.reduceLE, Int.reduceAdd, Int.reduceSub, Int.reduceMul, Int.reduceNeg, Nat.reducePow, Int.reducePow, hP, h4_36, h4_0, h4_2, h4_4, h4_6, h4_16, h4_17, h4_18, ltT, ltF, leT, leF, eqT, eqF]
            · rfl
            · refine ⟨by omega, fun i hi r' hr' => ?_⟩
              rcases Nat.lt_succ_iff_lt_or_eq.1 hi with h | rfl
              · exact hno i h r' hr'
              · rw [hk0] at hr'; cases hr'; exact if_neg fun h => hc36 ⟨h.1, h.2.1⟩
          · (try dsimp only); omega
        · clear hX14 hY14 X14 Y14
          refine SX.skip ?_
          try simp only [andThen_normal, andThen_ret, andThen_exit, inBlk_normal, inBlk_ret, inBlk_exit, Nat.reduceEqDiff, if_true, if_false, ↓reduceIte]
          refine hK11 _ _ ?_
          try clear hK11 K11
          refine SX.seq_k fun K15 hK15 => ?_
          refine SX.region_d [some 37, some 38, some 39, some 7, none] rfl (fun ops hops => ?_)
          unfold Dsts at hops
          simp (maxSteps := 1000000) (dsimp := false) (disch := omega) only [go_sem, add_addS, ia_someH, wu8, wu16, w32, wu32, wu64, w64, Nat.reduceEqDiff, Nat.reduceBEq, ↓reduceIte, reduceCtorEq, Int.reduceEq, Nat.reduceLT, Nat.reduceLeDiff, Nat.reduceAdd, Nat.reduceMul, Nat.reduceSub, Int.reduceToNat, Int.reduceLT, Int.reduceLE, Int.reduceAdd, Int.reduceSub, Int.reduceMul, Int.reduceNeg, Nat.reducePow, Int.reducePow, hP, h4_36, h4_0, h4_2, h4_4, h4_6, h4_16, h4_17, h4_18, ltT, ltF, leT, leF, eqT, eqF, hops]
          refine ⟨_, Cell.at 0 rfl rfl, ?_⟩
          try with_reducible refine stI ?_
          try simp (maxSteps := 1000000) (dsimp := false) (disch := omega) only [go_sem, add_addS, ia_someH, wu8, wu16, w32, wu32, wu64, w64, Nat.reduceEqDiff, Nat.reduceBEq, ↓reduceIte, reduceCtorEq, Int.reduceEq, Nat.reduceLT, Nat.reduceLeDiff, Nat.reduceAdd, Nat.reduceMul, Nat.reduceSub, Int.reduceToNat, Int.reduceLT, Int.reduceLE, Int.reduceAdd, Int.reduceSub, Int.reduceMul, Int.reduceNeg, Nat.reducePow, Int.reducePow, hP, h4_36, h4_0, h4_2, h4_4, h4_6, h4_16, h4_17, h4_18, ltT, ltF, leT, leF, eqT, eqF, hops]
          intro g6
          try with_reducible refine stI ?_
          try simp (maxSteps := 1000000) (dsimp := false) (disch := omega) only [go_sem, add_addS, ia_someH, wu8, wu16, w32, wu32, wu64, w64, Nat.reduceEqDiff, Nat.reduceBEq, ↓reduceIte, reduceCtorEq, Int.reduceEq, Nat.reduceLT, Nat.reduceLeDiff, Nat.reduceAdd, Nat.reduceMul, Nat.reduceSub, Int.reduceToNat, Int.reduceLT, Int.reduceLE, Int.reduceAdd, Int.reduceSub, Int.reduceMul, Int.reduceNeg, Nat.reducePow, Int.reducePow, hP, h4_36, h4_0, h4_2, h4_4, h4_6, h4_16, h4_17, h4_18, ltT, ltF, leT, leF, eqT, eqF, hops]
          refine ⟨0, _, _, _, rfl, by decide, .inr (by decide), ?_⟩
          try with_reducible refine stI ?_
          try simp (maxSteps := 1000000) (dsimp := false) (disch := omega) only [go_sem, add_addS, ia_someH, wu8, wu16, w32, wu32, wu64, w64, Nat.reduceEqDiff, Nat.reduceBEq, ↓reduceIte, reduceCtorEq, Int.reduceEq, Nat.reduceLT, Nat.reduceLeDiff, Nat.reduceAdd, Nat.reduceMul, Nat.reduceSub, Int.reduceToNat, Int.reduceLT, Int.reduceLE, Int.reduceAdd, Int.reduceSub, Int.reduceMul, Int.reduceNeg, Nat.reducePow, Int.reducePow, hP, h4_36, h4_0, h4_2, h4_4, h4_6, h4_16, h4_17, h4_18, ltT, ltF, leT, leF, eqT, eqF, hops]
          refine hK15 _ _ ?_
          try clear hK15 K15
          refine SX.seq_k fun K16 hK16 => ?_
          refine SX.seq_k fun K17 hK17 => ?_
          refine SX.region_d [some 40, some 41, some 42, some 43] rfl (fun ops hops => ?_)
          unfold Dsts at hops
          simp (maxSteps := 1000000) (dsimp := false) (disch := omega) only [go_sem, add_addS, ia_someH, wu8, wu16, w32, wu32, wu64, w64, Nat.reduceEqDiff, Nat.reduceBEq, ↓reduceIte, reduceCtorEq, Int.reduceEq, Nat.reduceLT, Nat.reduceLeDiff, Nat.reduceAdd, Nat.reduceMul, Nat.reduceSub, Int.reduceToNat, Int.reduceLT, Int.reduceLE, Int.reduceAdd, Int.reduceSub, Int.reduceMul, Int.reduceNeg, Nat.reducePow, Int.reducePow, hP, h4_36, h4_0, h4_2, h4_4, h4_6, h4_16, h4_17, h4_18, ltT, ltF, leT, leF, eqT, eqF, hops]
          repeat' ((first | refine ⟨_, Cell.at 0 rfl rfl, ?_⟩ | refine ⟨_, Cell.at 1 rfl rfl, ?_⟩ | refine And.intro (by omega) ?_ | fail); try (with_reducible refine stI ?_); try simp (maxSteps := 1000000) (dsimp := false) (disch := omega) only [go_sem, add_addS, ia_someH, wu8, wu16, w32, wu32, wu64, w64, Nat.reduceEqDiff, Nat.reduceBEq, ↓reduceIte, reduceCtorEq, Int.reduceEq, Nat.reduceLT, Nat.reduceLeDiff, Nat.reduceAdd, Nat.reduceMul, Nat.reduceSub, Int.reduceToNat, Int.reduceLT, Int.reduceLE, Int.reduceAdd, Int.reduceSub, Int.reduceMul, Int.reduceNeg, Nat.reducePow, Int.reducePow, hP, h4_36, h4_0, h4_2, h4_4, h4_6, h4_16, h4_17, h4_18, ltT, ltF, leT, leF, eqT, eqF, hops])
          refine hK17 _ _ ?_
          try clear hK17 K17
          refine SX.block ?_
          have hcm : r.name = (words s).getD 0 ⟨#[]⟩ ∧ (words s).length = 1 + r.fs.length := by first | exact hc36 | exact Decidable.not_not.1 hc36 | omega
          refine SX.live [0, 2, 4, 7, 16, 17, 18, 41, 42, 43] (fun T5 hT5 => ?_)
          simp only [forall_mem_cons', forall_mem_nil', go_sem, add_addS, ia_someH, wu8, wu16, w32, wu32, wu64, w64, Nat.reduceEqDiff, Nat.reduceBEq, ↓reduceIte, reduceCtorEq, Int.reduceEq, Nat.reduceLT, Nat.reduceLeDiff, Nat.reduceAdd, Nat.reduceMul, Nat.reduceSub, Int.reduceToNat, Int.reduceLT, Int.reduceLE, Int.reduceAdd, Int.reduceSub, Int.reduceMul, Int.reduceNeg, Nat.reducePow, Int.reducePow, hP, h4_36, h4_0, h4_2, h4_4, h4_6, h4_16, h4_17, h4_18, ltT, ltF, leT, leF, eqT, eqF] at hT5
          obtain ⟨h5_0, h5_2, h5_4, h5_7, h5_16, h5_17, h5_18, h5_41, h5_42, h5_43⟩ := hT5
          clear h4_36 h4_0 h4_2 h4_4 h4_6 h4_16 h4_17 h4_18 T4
          refine SX.loop_k (fun (ss : (Nat)) T L' => (fun (j : Nat) => T 43 = .int .i64 (j : Int) ∧ T 0 = T5 0 ∧ T 2 = T5 2 ∧ T 4 = T5 4 ∧ T 7 = T5 7 ∧ T 16 = T5 16 ∧ T 17 = T5 17 ∧ T 18 = T5 18 ∧ T 41 = T5 41 ∧ T 42 = T5 42 ∧ L' = some (g6, .cells (parT (words s) r j).cells.toArray 25 (0, 0)) :: some (g4, .cells [.int .u8 (r.op : Int), .int .u16 (r.mask : Int), .int .u16 (r.word : Int), .string r.name, .slice FA r.fs.length fc].toArray 58 (0, 0)) :: (H ++ some (gs, .cells ((words s).map Value.string).toArray 9 (0, 0)) :: some (g0, .cells zeroO.cells.toArray 25 (0, 0)) :: L) ∧ (j ≤ r.fs.length)) (ss)) (fun (ss : (Nat)) => (fun (j : Nat) => r.fs.length - j) (ss)) 0 ?_ ?_
          · try dsimp only
            refine ⟨?_, ?_, ?_, ?_, ?_, ?_, ?_, ?_, ?_, ?_, ?_, ?_⟩
            · first | exact h5_43 | (rw [h5_43]; rfl) | (rw [h5_43]; simp; done)
            · rfl
            · rfl
            · rfl
            · rfl
            · rfl
            · rfl
            · rfl
            · rfl
            · rfl
            · rfl
            · exact Nat.zero_le _
          · intro j T6 L6 hI K18 hK18
            try dsimp only at hI hK18
            simp only [h5_0, h5_2, h5_4, h5_7, h5_16, h5_17, h5_18, h5_41, h5_42] at hI hK18
            obtain ⟨h6_43, h6_0, h6_2, h6_4, h6_7, h6_16, h6_17, h6_18, h6_41, h6_42, hL6, hj⟩ := hI
            replace hL6 := hL6.symm
            subst hL6
            clear h5_0 h5_2 h5_4 h5_7 h5_16 h5_17 h5_18 h5_41 h5_42 h5_43 T5
            refine SX.seq_k fun K19 hK19 => ?_
            refine SX.region_d [some 44] rfl (fun ops hops => ?_)
            unfold Dsts at hops
            simp (maxSteps := 1000000) (dsimp := false) (disch := omega) only [go_sem, add_addS, ia_someH, wu8, wu16, w32, wu32, wu64, w64, Nat.reduceEqDiff, Nat.reduceBEq, ↓reduceIte, reduceCtorEq, Int.reduceEq, Nat.reduceLT, Nat.reduceLeDiff, Nat.reduceAdd, Nat.reduceMul, Nat.reduceSub, Int.reduceToNat, Int.reduceLT, Int.reduceLE, Int.reduceAdd, Int.reduceSub, Int.reduceMul, Int.reduceNeg, Nat.reducePow, Int.reducePow, hP, h6_43, h6_0, h6_2, h6_4, h6_7, h6_16, h6_17, h6_18, h6_41, h6_42, ltT, ltF, leT, leF, eqT, eqF, hops]
            repeat' ((first | refine And.intro (by omega) ?_ | fail); try (with_reducible refine stI ?_); try simp (maxSteps := 1000000) (dsimp := false) (disch := omega) only [go_sem, add_addS, ia_someH, wu8, wu16, w32, wu32, wu64, w64, Nat.reduceEqDiff, Nat.reduceBEq, ↓reduceIte, reduceCtorEq, Int.reduceEq, Nat.reduceLT, Nat.reduceLeDiff, Nat.reduceAdd, Nat.reduceMul, Nat.reduceSub, Int.reduceToNat, Int.reduceLT, Int.reduceLE, Int.reduceAdd, Int.reduceSub, Int.reduceMul, Int.reduceNeg, Nat.reducePow, Int.reducePow, hP, h6_43, h6_0, h6_2, h6_4, h6_7, h6_16, h6_17, h6_18, h6_41, h6_42, ltT, ltF, leT, leF, eqT, eqF, hops])
            refine hK19 _ _ ?_
            try clear hK19 K19
            refine SX.seq_k fun K20 hK20 => ?_
            refine SX.cond_k fun X21 Y21 hX21 hY21 => ?_
            simp (maxSteps := 1000000) (dsimp := false) (disch := omega) only [go_sem, add_addS, ia_someH, wu8, wu16, w32, wu32, wu64, w64, Nat.reduceEqDiff, Nat.reduceBEq, ↓reduceIte, reduceCtorEq, Int.reduceEq, Nat.reduceLT, Nat.reduceLeDiff, Nat.reduceAdd, Nat.reduceMul, Nat.reduceSub, Int.reduceToNat, Int.reduceLT, Int.reduceLE, Int.reduceAdd, Int.reduceSub, Int.reduceMul, Int.reduceNeg, Nat.reducePow, Int.reducePow, hP, h6_43, h6_0, h6_2, h6_4, h6_7, h6_16, h6_17, h6_18, h6_41, h6_42, ltT, ltF, leT, leF, eqT, eqF, condVC]
            refine ⟨fun hc44 => hX21 ?_, fun hc44 => hY21 ?_⟩
            · clear hX21 hY21 X21 Y21
              refine SX.skip ?_
              try simp only [andThen_normal, andThen_ret, andThen_exit, inBlk_normal, inBlk_ret, inBlk_exit, Nat.reduceEqDiff, if_true, if_false, ↓reduceIte]
              refine hK20 _ _ ?_
              try clear hK20 K20
              refine SX.seq_k fun K22 hK22 => ?_
              refine SX.block ?_
              refine SX.seq_k fun K23 hK23 => ?_
              have hjl : j < r.fs.length := by omega
              have hf0 : r.fs[j]? = some r.fs[j] := List.getElem?_eq_getElem hjl
              obtain ⟨fa, rfl, hcl0⟩ := hfA j _ hf0
              generalize r.fs[j] = f at hf0 hcl0
              have hcl : ∀ i u, f.cells[i]? = some u → Cell Γ (some (g6, .cells (parT (words s) r j).cells.toArray 25 (0, 0)) :: some (g4, .cells [.int .u8 (r.op : Int), .int .u16 (r.mask : Int), .int .u16 (r.word : Int), .string r.name, .slice (some fa) r.fs.length fc].toArray 58 (0, 0)) :: (H ++ some (gs, .cells ((words s).map Value.string).toArray 9 (0, 0)) :: some (g0, .cells zeroO.cells.toArray 25 (0, 0)) :: L)) (fa.add (j * 5 + i)) u := fun i u h => by rw [← add_addS]; exact Cell.cons _ (Cell.cons _ (hcl0 i u h))
              have hwj := word_at (ws := words s) (i := j + 1) (by omega)
              refine SX.region_d [some 45, some 46, some 47, some 9, some 8, none] rfl (fun ops hops => ?_)
              unfold Dsts at hops
              simp (maxSteps := 1000000) (dsimp := false) (disch := omega) only [go_sem, add_addS, ia_someH, wu8, wu16, w32, wu32, wu64, w64, Nat.reduceEqDiff, Nat.reduceBEq, ↓reduceIte, reduceCtorEq, Int.reduceEq, Nat.reduceLT, Nat.reduceLeDiff, Nat.reduceAdd, Nat.reduceMul, Nat.reduceSub, Int.reduceToNat, Int.reduceLT, Int.reduceLE, Int.reduceAdd, Int.reduceSub, Int.reduceMul, Int.reduceNeg, Nat.reducePow, Int.reducePow, hP, h6_43, h6_0, h6_2, h6_4, h6_7, h6_16, h6_17, h6_18, h6_41, h6_42, ltT, ltF, leT, leF, eqT, eqF, hops]
              refine ⟨_, hcl 0 _ rfl, _, hcl 1 _ rfl, _, hcl 2 _ rfl, _, hcl 3 _ rfl, _, hcl 4 _ rfl, ?_⟩
              try with_reducible refine stI ?_
              try simp (maxSteps := 1000000) (dsimp := false) (disch := omega) only [go_sem, add_addS, ia_someH, wu8, wu16, w32, wu32, wu64, w64, Nat.reduceEqDiff, Nat.reduceBEq, ↓reduceIte, reduceCtorEq, Int.reduceEq, Nat.reduceLT, Nat.reduceLeDiff, Nat.reduceAdd, Nat.reduceMul, Nat.reduceSub, Int.reduceToNat, Int.reduceLT, Int.reduceLE, Int.reduceAdd, Int.reduceSub, Int.reduceMul, Int.reduceNeg, Nat.reducePow, Int.reducePow, hP, h6_43, h6_0, h6_2, h6_4, h6_7, h6_16, h6_17, h6_18, h6_41, h6_42, ltT, ltF, leT, leF, eqT, eqF, hops]
              intro g9
              try with_reducible refine stI ?_
              try simp (maxSteps := 1000000) (dsimp := false) (disch := omega) only [go_sem, add_addS, ia_someH, wu8, wu16, w32, wu32, wu64, w64, Nat.reduceEqDiff, Nat.reduceBEq, ↓reduceIte, reduceCtorEq, Int.reduceEq, Nat.reduceLT, Nat.reduceLeDiff, Nat.reduceAdd, Nat.reduceMul, Nat.reduceSub, Int.reduceToNat, Int.reduceLT, Int.reduceLE, Int.reduceAdd, Int.reduceSub, Int.reduceMul, Int.reduceNeg, Nat.reducePow, Int.reducePow, hP, h6_43, h6_0, h6_2, h6_4, h6_7, h6_16, h6_17, h6_18, h6_41, h6_42, ltT, ltF, leT, leF, eqT, eqF, hops]
              refine ⟨0, _, _, _, rfl, by simp, .inr (by decide), ?_⟩
              try with_reducible refine stI ?_
              try simp (maxSteps := 1000000) (dsimp := false) (disch := omega) only [go_sem, add_addS, ia_someH, wu8, wu16, w32, wu32, wu64, w64, Nat.reduceEqDiff, Nat.reduceBEq, ↓reduceIte, reduceCtorEq, Int.reduceEq, Nat.reduceLT, Nat.reduceLeDiff, Nat.reduceAdd, Nat.reduceMul, Nat.reduceSub, Int.reduceToNat, Int.reduceLT, Int.reduceLE, Int.reduceAdd, Int.reduceSub, Int.reduceMul, Int.reduceNeg, Nat.reducePow, Int.reducePow, hP, h6_43, h6_0, h6_2, h6_4, h6_7, h6_16, h6_17, h6_18, h6_41, h6_42, ltT, ltF, leT, leF, eqT, eqF, hops]
              refine hK23 _ _ ?_
              try clear hK23 K23
              refine SX.seq_k fun K24 hK24 => ?_
              have hj1 : ((j : Int) + 1).toNat = j + 1 := by omega
              refine SX.quiet_d (hP ▸ T.mixed) (by kernel_rfl) [some 49, some 50, some 51, some 52, some 53, some 54, some 55, some 56, some 57, some 48, some 58, some 59, some 10, some 11] rfl (fun ops hops => ?_)
              unfold Dsts at hops
              simp (maxSteps := 1000000) (dsimp := false) (disch := omega) only [go_sem, add_addS, ia_someH, wu8, wu16, w32, wu32, wu64, w64, Nat.reduceEqDiff, Nat.reduceBEq, ↓reduceIte, reduceCtorEq, Int.reduceEq, Nat.reduceLT, Nat.reduceLeDiff, Nat.reduceAdd, Nat.reduceMul, Nat.reduceSub, Int.reduceToNat, Int.reduceLT, Int.reduceLE, Int.reduceAdd, Int.reduceSub, Int.reduceMul, Int.reduceNeg, Nat.reducePow, Int.reducePow, hP, h6_43, h6_0, h6_2, h6_4, h6_7, h6_16, h6_17, h6_18, h6_41, h6_42, ltT, ltF, leT, leF, eqT, eqF, hops, hj1, numR]
              repeat' ((first | refine ⟨_, fun L0 hl0 => TrimPrefix_spec hP _ _, ?_⟩ | refine ⟨_, fun L0 hl0 => Number_spec hP _, ?_⟩ | refine ⟨_, Cell.at (H.length + 3) (by simp only [List.getElem?_cons_succ]; exact get_mid _ _ _) (hwj), ?_⟩ | refine ⟨_, TrimPrefix_spec hP _ _, ?_⟩ | refine ⟨_, Number_spec hP _, ?_⟩ | refine ⟨_, Cell.at 0 rfl rfl, ?_⟩ | refine ⟨_, Cell.at 1 rfl rfl, ?_⟩ | refine And.intro (by omega) ?_ | fail); try (with_reducible refine stI ?_); try simp (maxSteps := 1000000) (dsimp := false) (disch := omega) only [go_sem, add_addS, ia_someH, wu8, wu16, w32, wu32, wu64, w64, Nat.reduceEqDiff, Nat.reduceBEq, ↓reduceIte, reduceCtorEq, Int.reduceEq, Nat.reduceLT, Nat.reduceLeDiff, Nat.reduceAdd, Nat.reduceMul, Nat.reduceSub, Int.reduceToNat, Int.reduceLT, Int.reduceLE, Int.reduceAdd, Int.reduceSub, Int.reduceMul, Int.reduceNeg, Nat.reducePow, Int.reducePow, hP, h6_43, h6_0, h6_2, h6_4, h6_7, h6_16, h6_17, h6_18, h6_41, h6_42, ltT, ltF, leT, leF, eqT, eqF, hops, hj1, numR])
              refine hK24 _ _ ?_
              try clear hK24 K24
              refine SX.live [0, 2, 4, 7, 9, 10, 16, 17, 18, 41, 42, 43] (fun T7 hT7 => ?_)
              simp only [forall_mem_cons', forall_mem_nil', go_sem, add_addS, ia_someH, wu8, wu16, w32, wu32, wu64, w64, Nat.reduceEqDiff, Nat.reduceBEq, ↓reduceIte, reduceCtorEq, Int.reduceEq, Nat.reduceLT, Nat.reduceLeDiff, Nat.reduceAdd, Nat.reduceMul, Nat.reduceSub, Int.reduceToNat, Int.reduceLT, Int.reduceLE, Int.reduceAdd, Int.reduceSub, Int.reduceMul, Int.reduceNeg, Nat.reducePow, Int.reducePow, hP, h6_43, h6_0, h6_2, h6_4, h6_7, h6_16, h6_17, h6_18, h6_41, h6_42, ltT, ltF, leT, leF, eqT, eqF] at hT7
              obtain ⟨h7_0, h7_2, h7_4, h7_7, h7_9, h7_10, h7_16, h7_17, h7_18, h7_41, h7_42, h7_43⟩ := hT7
              clear h6_43 h6_0 h6_2 h6_4 h6_7 h6_16 h6_17 h6_18 h6_41 h6_42 T6
              refine SX.region_d [some 60, some 61, some 62, some 63] rfl (fun ops hops => ?_)
              unfold Dsts at hops
              simp (maxSteps := 1000000) (dsimp := false) (disch := omega) only [go_sem, add_addS, ia_someH, wu8, wu16, w32, wu32, wu64, w64, Nat.reduceEqDiff, Nat.reduceBEq, ↓reduceIte, reduceCtorEq, Int.reduceEq, Nat.reduceLT, Nat.reduceLeDiff, Nat.reduceAdd, Nat.reduceMul, Nat.reduceSub, Int.reduceToNat, Int.reduceLT, Int.reduceLE, Int.reduceAdd, Int.reduceSub, Int.reduceMul, Int.reduceNeg, Nat.reducePow, Int.reducePow, hP, h7_0, h7_2, h7_4, h7_7, h7_9, h7_10, h7_16, h7_17, h7_18, h7_41, h7_42, h7_43, ltT, ltF, leT, leF, eqT, eqF, hops, callable_put]
              refine ⟨_, Cell.at 0 rfl rfl, ?_⟩
              try with_reducible refine stI ?_
              try simp (maxSteps := 1000000) (dsimp := false) (disch := omega) only [go_sem, add_addS, ia_someH, wu8, wu16, w32, wu32, wu64, w64, Nat.reduceEqDiff, Nat.reduceBEq, ↓reduceIte, reduceCtorEq, Int.reduceEq, Nat.reduceLT, Nat.reduceLeDiff, Nat.reduceAdd, Nat.reduceMul, Nat.reduceSub, Int.reduceToNat, Int.reduceLT, Int.reduceLE, Int.reduceAdd, Int.reduceSub, Int.reduceMul, Int.reduceNeg, Nat.reducePow, Int.reducePow, hP, h7_0, h7_2, h7_4, h7_7, h7_9, h7_10, h7_16, h7_17, h7_18, h7_41, h7_42, h7_43, ltT, ltF, leT, leF, eqT, eqF, hops, callable_put]
              refine SCall.mono (put_spec (i := 1) hP f rfl) ?_
              rintro v_ L_ ⟨hv_, hL_⟩
              rw [hv_, hL_]
              clear hv_ hL_ v_ L_
              try with_reducible refine stI ?_
              try simp (maxSteps := 1000000) (dsimp := false) (disch := omega) only [go_sem, add_addS, ia_someH, wu8, wu16, w32, wu32, wu64, w64, Nat.reduceEqDiff, Nat.reduceBEq, ↓reduceIte, reduceCtorEq, Int.reduceEq, Nat.reduceLT, Nat.reduceLeDiff, Nat.reduceAdd, Nat.reduceMul, Nat.reduceSub, Int.reduceToNat, Int.reduceLT, Int.reduceLE, Int.reduceAdd, Int.reduceSub, Int.reduceMul, Int.reduceNeg, Nat.reducePow, Int.reducePow, hP, h7_0, h7_2, h7_4, h7_7, h7_9, h7_10, h7_16, h7_17, h7_18, h7_41, h7_42, h7_43, ltT, ltF, leT, leF, eqT, eqF, hops, callable_put]
              refine hK22 _ _ ?_
              try clear hK22 K22
              refine SX.region_d [some 64, some 43] rfl (fun ops hops => ?_)
              unfold Dsts at hops
              simp (maxSteps := 1000000) (dsimp := false) (disch := omega) only [go_sem, add_addS, ia_someH, wu8, wu16, w32, wu32, wu64, w64, Nat.reduceEqDiff, Nat.reduceBEq, ↓reduceIte, reduceCtorEq, Int.reduceEq, Nat.reduceLT, Nat.reduceLeDiff, Nat.reduceAdd, Nat.reduceMul, Nat.reduceSub, Int.reduceToNat, Int.reduceLT, Int.reduceLE, Int.reduceAdd, Int.reduceSub, Int.reduceMul, Int.reduceNeg, Nat.reducePow, Int.reducePow, hP, h7_0, h7_2, h7_4, h7_7, h7_9, h7_10, h7_16, h7_17, h7_18, h7_41, h7_42, h7_43, ltT, ltF, leT, leF, eqT, eqF, hops]
              repeat' ((first | refine And.intro (by omega) ?_ | fail); try (with_reducible refine stI ?_); try simp (maxSteps := 1000000) (dsimp := false) (disch := omega) only [go_sem, add_addS, ia_someH, wu8, wu16, w32, wu32, wu64, w64, Nat.reduceEqDiff, Nat.reduceBEq, ↓reduceIte, reduceCtorEq, Int.reduceEq, Nat.reduceLT, Nat.reduceLeDiff, Nat.reduceAdd, Nat.reduceMul, Nat.reduceSub, Int.reduceToNat, Int.reduceLT, Int.reduceLE, Int.reduceAdd, Int.reduceSub, Int.reduceMul, Int.reduceNeg, Nat.reducePow, Int.reducePow, hP, h7_0, h7_2, h7_4, h7_7, h7_9, h7_10, h7_16, h7_17, h7_18, h7_41, h7_42, h7_43, ltT, ltF, leT, leF, eqT, eqF, hops])
              refine hK18 (j + 1) _ (some (g6, .cells (f.into (parT (words s) r j) ((numS (trimP ((words s).getD (j + 1) ⟨#[]⟩) f.ahead)).getD 0)).cells.toArray 25 (0, 0)) :: some (g4, .cells [.int .u8 (r.op : Int), .int .u16 (r.mask : Int), .int .u16 (r.word : Int), .string r.name, .slice (some fa) r.fs.length fc].toArray 58 (0, 0)) :: (H ++ some (gs, .cells ((words s).map Value.string).toArray 9 (0, 0)) :: some (g0, .cells zeroO.cells.toArray 25 (0, 0)) :: L)) _ (by first | exact Less.refl _ | exact Less.drop _ _ | exact Less.drops (Less.drop _ _) | exact Less.drops (Less.drops (Less.drop _ _)) | exact Less.drops (Less.drops (Less.drops (Less.drop _ _))) | exact Less.drops (Less.drops (Less.drops (Less.drops (Less.drop _ _))))) ?_ ?_
              · try dsimp only
                refine ⟨?_, ?_, ?_, ?_, ?_, ?_, ?_, ?_, ?_, ?_, ?_, ?_⟩
                · simp (maxSteps := 1000000) (dsimp := false) (disch := omega) only [go_sem, add_addS, ia_someH, wu8, wu16, w32, wu32, wu64, w64, Nat.reduceEqDiff, Nat.reduceBEq, ↓reduceIte, reduceCtorEq, Int.reduceEq, Nat.reduceLT, Nat.reduceLeDiff, Nat.reduceAdd, Nat.reduceMul, Nat.reduceSub, Int.reduceToNat, Int.reduceLT, Int.reduceLE, Int.reduceAdd, Int.reduceSub, Int.reduceMul, Int.reduceNeg, Nat.reducePow, Int.reducePow, hP, h7_0, h7_2, h7_4, h7_7, h7_9, h7_10, h7_16, h7_17, h7_18, h7_41, h7_42, h7_43, ltT, ltF, leT, leF, eqT, eqF]
                  rfl
                · simp (maxSteps := 1000000) (dsimp := false) (disch := omega) only [go_sem, add_addS, ia_someH, wu8, wu16, w32, wu32, wu64, w64, Nat.reduceEqDiff, Nat.reduceBEq, ↓reduceIte, reduceCtorEq, Int.reduceEq, Nat.reduceLT, Nat.reduceLeDiff, Nat.reduceAdd, Nat.reduceMul, Nat.reduceSub, Int.reduceToNat, Int.reduceLT, Int.reduceLE, Int.reduceAdd, Int.reduceSub, Int.reduceMul, Int.reduceNeg, Nat.reducePow, Int.reducePow, hP, h7_0, h7_2, h7_4, h7_7, h7_9, h7_10, h7_16, h7_17, h7_18, h7_41, h7_42, h7_43, ltT, ltF, leT, leF, eqT, eqF]
                · simp (maxSteps := 1000000) (dsimp := false) (disch := omega) only [go_sem, add_addS, ia_someH, wu8, wu16, w32, wu32, wu64, w64, Nat.reduceEqDiff, Nat.reduceBEq, ↓reduceIte, reduceCtorEq, Int.reduceEq, Nat.reduceLT, Nat.reduceLeDiff, Nat.reduceAdd, Nat.reduceMul, Nat.reduceSub, Int.reduceToNat, Int.reduceLT, Int.reduceLE, Int.reduceAdd, Int.reduceSub, Int.reduceMul, Int.reduceNeg, Nat.reducePow, Int.reducePow, hP, h7_0, h7_2, h7_4, h7_7, h7_9, h7_10, h7_16, h7_17, h7_18, h7_41, h7_42, h7_43, ltT, ltF, leT, leF, eqT, eqF]
                · simp (maxSteps := 1000000) (dsimp := false) (disch := omega) only [go_sem, add_addS, ia_someH, wu8, wu16, w32, wu32, wu64, w64, Nat.reduceEqDiff, Nat.reduceBEq, ↓reduceIte, reduceCtorEq, Int.reduceEq, Nat.reduceLT, Nat.reduceLeDiff, Nat.reduceAdd, Nat.reduceMul, Nat.reduceSub, Int.reduceToNat, Int.reduceLT, Int.reduceLE, Int.reduceAdd, Int.reduceSub, Int.reduceMul, Int.reduceNeg, Nat.reducePow, Int.reducePow, hP, h7_0, h7_2, h7_4, h7_7, h7_9, h7_10, h7_16, h7_17, h7_18, h7_41, h7_42, h7_43, ltT, ltF, leT, leF, eqT, eqF]
                · simp (maxSteps := 1000000) (dsimp := false) (disch := omega) only [go_sem, add_addS, ia_someH, wu8, wu16, w32, wu32, wu64, w64, Nat.reduceEqDiff, Nat.reduceBEq, ↓reduceIte, reduceCtorEq, Int.reduceEq, Nat.reduceLT, Nat.reduceLeDiff, Nat.reduceAdd, Nat.reduceMul, Nat.reduceSub, Int.reduceToNat, Int.reduceLT, Int.reduceLE, Int.reduceAdd, Int.reduceSub, Int.reduceMul, Int.reduceNeg, Nat.reducePow, Int.reducePow, hP, h7_0, h7_2, h7_4, h7_7, h7_9, h7_10, h7_16, h7_17, h7_18, h7_41, h7_42, h7_43, ltT, ltF, leT, leF, eqT, eqF]
                · simp (maxSteps := 1000000) (dsimp := false) (disch := omega) only [go_sem, add_addS, ia_someH, wu8, wu16, w32, wu32, wu64, w64, Nat.reduceEqDiff, Nat.reduceBEq, ↓reduceIte, reduceCtorEq, Int.reduceEq, Nat.reduceLT, Nat.reduceLeDiff, Nat.reduceAdd, Nat.reduceMul, Nat.reduceSub, Int.reduceToNat, Int.reduceLT, Int.reduceLE, Int.reduceAdd, Int.reduceSub, Int.reduceMul, Int.reduceNeg, Nat.reducePow, Int.reducePow, hP, h7_0, h7_2, h7_4, h7_7, h7_9, h7_10, h7_16, h7_17, h7_18, h7_41, h7_42, h7_43, ltT, ltF, leT, leF, eqT, eqF]
                · simp (maxSteps := 1000000) (dsimp := false) (disch := omega) only [go_sem, add_addS, ia_someH, wu8, wu16, w32, wu32, wu64, w64, Nat.reduceEqDiff, Nat.reduceBEq, ↓reduceIte, reduceCtorEq, Int.reduceEq, Nat.reduceLT, Nat.reduceLeDiff, Nat.reduceAdd, Nat.reduceMul, Nat.reduceSub, Int.reduceToNat, Int.reduceLT, Int.reduceLE, Int.reduceAdd, Int.reduceSub, Int.reduceMul, Int.reduceNeg, Nat.reducePow, Int.reducePow, hP, h7_0, h7_2, h7_4, h7_7, h7_9, h7_10, h7_16, h7_17, h7_18, h7_41, h7_42, h7_43, ltT, ltF, leT, leF, eqT, eqF]
                · simp (maxSteps := 1000000) (dsimp := false) (disch := omega) only [go_sem, add_addS, ia_someH, wu8, wu16, w32, wu32, wu64, w64, Nat.reduceEqDiff, Nat.reduceBEq, ↓reduceIte, reduceCtorEq, Int.reduceEq, Nat.reduceLT, Nat.reduceLeDiff, Nat.reduceAdd, Nat.reduceMul, Nat.reduceSub, Int.reduceToNat, Int.reduceLT, Int.reduceLE, Int.reduceAdd, Int.reduceSub, Int.reduceMul, Int.reduceNeg, Nat.reducePow, Int.reducePow, hP, h7_0, h7_2, h7_4, h7_7, h7_9, h7_10, h7_16, h7_17, h7_18, h7_41, h7_42, h7_43, ltT, ltF, leT, leF, eqT, eqF]
                · simp (maxSteps := 1000000) (dsimp := false) (disch := omega) only [go_sem, add_addS, ia_someH, wu8, wu16, w32, wu32, wu64, w64, Nat.reduceEqDiff, Nat.reduceBEq, ↓reduceIte, reduceCtorEq, Int.reduceEq, Nat.reduceLT, Nat.reduceLeDiff, Nat.reduceAdd, Nat.reduceMul, Nat.reduceSub, Int.reduceToNat, Int.reduceLT, Int.reduceLE, Int.reduceAdd, Int.reduceSub, Int.reduceMul, Int.reduceNeg, Nat.reducePow, Int.reducePow, hP, h7_0, h7_2, h7_4, h7_7, h7_9, h7_10, h7_16, h7_17, h7_18, h7_41, h7_42, h7_43, ltT, ltF, leT, leF, eqT, eqF]
                · simp (maxSteps := 1000000) (dsimp := false) (disch := omega) only [go_sem, add_addS, ia_someH, wu8, wu16, w32, wu32, wu64, w64, Nat.reduceEqDiff, Nat.reduceBEq, ↓reduceIte, reduceCtorEq, Int.reduceEq, Nat.reduceLT, Nat.reduceLeDiff, Nat.reduceAdd, Nat.reduceMul, Nat.reduceSub, Int.reduceToNat, Int.reduceLT, Int.reduceLE, Int.reduceAdd, Int.reduceSub, Int.reduceMul, Int.reduceNeg, Nat.reducePow, Int.reducePow, hP, h7_0, h7_2, h7_4, h7_7, h7_9, h7_10, h7_16, h7_17, h7_18, h7_41, h7_42, h7_43, ltT, ltF, leT, leF, eqT, eqF]
                · rw [parT_succ hf0]
                · omega
              · (try dsimp only); omega
            · clear hX21 hY21 X21 Y21
              refine SX.exit ?_
              try simp only [andThen_normal, andThen_ret, andThen_exit, inBlk_normal, inBlk_ret, inBlk_exit, Nat.reduceEqDiff, if_true, if_false, ↓reduceIte]
              refine hK16 _ _ ?_
              try clear hK16 K16
              refine SX.seq_k fun K25 hK25 => ?_
              obtain rfl : j = r.fs.length := by omega
              refine SX.region_d [some 66, some 67, some 65, some 68, some 69, some 12, some 13] rfl (fun ops hops => ?_)
              unfold Dsts at hops
              simp (maxSteps := 1000000) (dsimp := false) (disch := omega) only [go_sem, add_addS, ia_someH, wu8, wu16, w32, wu32, wu64, w64, Nat.reduceEqDiff, Nat.reduceBEq, ↓reduceIte, reduceCtorEq, Int.reduceEq, Nat.reduceLT, Nat.reduceLeDiff, Nat.reduceAdd, Nat.reduceMul, Nat.reduceSub, Int.reduceToNat, Int.reduceLT, Int.reduceLE, Int.reduceAdd, Int.reduceSub, Int.reduceMul, Int.reduceNeg, Nat.reducePow, Int.reducePow, hP, h6_43, h6_0, h6_2, h6_4, h6_7, h6_16, h6_17, h6_18, h6_41, h6_42, ltT, ltF, leT, leF, eqT, eqF, hops]
              refine ⟨_, Cell.at 0 rfl (show (Ord.cells _)[0]? = _ from rfl), _, Cell.at 0 rfl (show (Ord.cells _)[1]? = _ from rfl), _, Cell.at 0 rfl (show (Ord.cells _)[2]? = _ from rfl), _, Cell.at 0 rfl (show (Ord.cells _)[3]? = _ from rfl), _, Cell.at 0 rfl (show (Ord.cells _)[4]? = _ from rfl), _, Cell.at 0 rfl (show (Ord.cells _)[5]? = _ from rfl), ?_⟩
              try with_reducible refine stI ?_
              try simp (maxSteps := 1000000) (dsimp := false) (disch := omega) only [go_sem, add_addS, ia_someH, wu8, wu16, w32, wu32, wu64, w64, Nat.reduceEqDiff, Nat.reduceBEq, ↓reduceIte, reduceCtorEq, Int.reduceEq, Nat.reduceLT, Nat.reduceLeDiff, Nat.reduceAdd, Nat.reduceMul, Nat.reduceSub, Int.reduceToNat, Int.reduceLT, Int.reduceLE, Int.reduceAdd, Int.reduceSub, Int.reduceMul, Int.reduceNeg, Nat.reducePow, Int.reducePow, hP, h6_43, h6_0, h6_2, h6_4, h6_7, h6_16, h6_17, h6_18, h6_41, h6_42, ltT, ltF, leT, leF, eqT, eqF, hops]
              refine SCall.mono (Print_spec (o := parT (words s) r r.fs.length) hP (parT_ok hti.1 _)) ?_
              rintro v_ L_ ⟨hv_, hL_⟩
              rw [hv_, hL_]
              clear hv_ hL_ v_ L_
              unfold printR
              rcases hpr : print (parT (words s) r r.fs.length) with _ | q
              · skip
                try with_reducible refine stI ?_
                dsimp only
                try with_reducible refine stI ?_
                try simp (maxSteps := 1000000) (dsimp := false) (disch := omega) only [go_sem, add_addS, ia_someH, wu8, wu16, w32, wu32, wu64, w64, Nat.reduceEqDiff, Nat.reduceBEq, ↓reduceIte, reduceCtorEq, Int.reduceEq, Nat.reduceLT, Nat.reduceLeDiff, Nat.reduceAdd, Nat.reduceMul, Nat.reduceSub, Int.reduceToNat, Int.reduceLT, Int.reduceLE, Int.reduceAdd, Int.reduceSub, Int.reduceMul, Int.reduceNeg, Nat.reducePow, Int.reducePow, hP, h6_43, h6_0, h6_2, h6_4, h6_7, h6_16, h6_17, h6_18, h6_41, h6_42, ltT, ltF, leT, leF, eqT, eqF, hops]
                refine hK25 _ _ ?_
                try clear hK25 K25
                refine SX.seq_k fun K26 hK26 => ?_
                refine SX.region_d [some 70, some 71, some 72, some 73, some 74, some 75, some 76] rfl (fun ops hops => ?_)
                unfold Dsts at hops
                simp (maxSteps := 1000000) (dsimp := false) (disch := omega) only [go_sem, add_addS, ia_someH, wu8, wu16, w32, wu32, wu64, w64, Nat.reduceEqDiff, Nat.reduceBEq, ↓reduceIte, reduceCtorEq, Int.reduceEq, Nat.reduceLT, Nat.reduceLeDiff, Nat.reduceAdd, Nat.reduceMul, Nat.reduceSub, Int.reduceToNat, Int.reduceLT, Int.reduceLE, Int.reduceAdd, Int.reduceSub, Int.reduceMul, Int.reduceNeg, Nat.reducePow, Int.reducePow, hP, h6_43, h6_0, h6_2, h6_4, h6_7, h6_16, h6_17, h6_18, h6_41, h6_42, ltT, ltF, leT, leF, eqT, eqF, hops]
                repeat' ((first | refine And.intro (by omega) ?_ | fail); try (with_reducible refine stI ?_); try simp (maxSteps := 1000000) (dsimp := false) (disch := omega) only [go_sem, add_addS, ia_someH, wu8, wu16, w32, wu32, wu64, w64, Nat.reduceEqDiff, Nat.reduceBEq, ↓reduceIte, reduceCtorEq, Int.reduceEq, Nat.reduceLT, Nat.reduceLeDiff, Nat.reduceAdd, Nat.reduceMul, Nat.reduceSub, Int.reduceToNat, Int.reduceLT, Int.reduceLE, Int.reduceAdd, Int.reduceSub, Int.reduceMul, Int.reduceNeg, Nat.reducePow, Int.reducePow, hP, h6_43, h6_0, h6_2, h6_4, h6_7, h6_16, h6_17, h6_18, h6_41, h6_42, ltT, ltF, leT, leF, eqT, eqF, hops])
                refine hK26 _ _ ?_
                try clear hK26 K26
                refine SX.live [0, 2, 4, 7, 16, 17, 18, 76] (fun T8 hT8 => ?_)
                simp only [forall_mem_cons', forall_mem_nil', go_sem, add_addS, ia_someH, wu8, wu16, w32, wu32, wu64, w64, Nat.reduceEqDiff, Nat.reduceBEq, ↓reduceIte, reduceCtorEq, Int.reduceEq, Nat.reduceLT, Nat.reduceLeDiff, Nat.reduceAdd, Nat.reduceMul, Nat.reduceSub, Int.reduceToNat, Int.reduceLT, Int.reduceLE, Int.reduceAdd, Int.reduceSub, Int.reduceMul, Int.reduceNeg, Nat.reducePow, Int.reducePow, hP, h6_43, h6_0, h6_2, h6_4, h6_7, h6_16, h6_17, h6_18, h6_41, h6_42, ltT, ltF, leT, leF, eqT, eqF] at hT8
                obtain ⟨h8_0, h8_2, h8_4, h8_7, h8_16, h8_17, h8_18, h8_76⟩ := hT8
                clear h6_43 h6_0 h6_2 h6_4 h6_7 h6_16 h6_17 h6_18 h6_41 h6_42 T6
                refine SX.cond_k fun X27 Y27 hX27 hY27 => ?_
                simp (maxSteps := 1000000) (dsimp := false) (disch := omega) only [go_sem, add_addS, ia_someH, wu8, wu16, w32, wu32, wu64, w64, Nat.reduceEqDiff, Nat.reduceBEq, ↓reduceIte, reduceCtorEq, Int.reduceEq, Nat.reduceLT, Nat.reduceLeDiff, Nat.reduceAdd, Nat.reduceMul, Nat.reduceSub, Int.reduceToNat, Int.reduceLT, Int.reduceLE, Int.reduceAdd, Int.reduceSub, Int.reduceMul, Int.reduceNeg, Nat.reducePow, Int.reducePow, hP, h8_0, h8_2, h8_4, h8_7, h8_16, h8_17, h8_18, h8_76, ltT, ltF, leT, leF, eqT, eqF, condVC]
                refine hY27 ?_
                clear hX27 hY27 X27 Y27
                refine SX.skip ?_
                try simp only [andThen_normal, andThen_ret, andThen_exit, inBlk_normal, inBlk_ret, inBlk_exit, Nat.reduceEqDiff, if_true, if_false, ↓reduceIte]
                refine hK9 _ _ ?_
                try clear hK9 K9
                refine SX.region_d [some 78, some 18] rfl (fun ops hops => ?_)
                unfold Dsts at hops
                simp (maxSteps := 1000000) (dsimp := false) (disch := omega) only [go_sem, add_addS, ia_someH, wu8, wu16, w32, wu32, wu64, w64, Nat.reduceEqDiff, Nat.reduceBEq, ↓reduceIte, reduceCtorEq, Int.reduceEq, Nat.reduceLT, Nat.reduceLeDiff, Nat.reduceAdd, Nat.reduceMul, Nat.reduceSub, Int.reduceToNat, Int.reduceLT, Int.reduceLE, Int.reduceAdd, Int.reduceSub, Int.reduceMul, Int.reduceNeg, Nat.reducePow, Int.reducePow, hP, h8_0, h8_2, h8_4, h8_7, h8_16, h8_17, h8_18, h8_76, ltT, ltF, leT, leF, eqT, eqF, hops]
                repeat' ((first | refine And.intro (by omega) ?_ | fail); try (with_reducible refine stI ?_); try simp (maxSteps := 1000000) (dsimp := false) (disch := omega) only [go_sem, add_addS, ia_someH, wu8, wu16, w32, wu32, wu64, w64, Nat.reduceEqDiff, Nat.reduceBEq, ↓reduceIte, reduceCtorEq, Int.reduceEq, Nat.reduceLT, Nat.reduceLeDiff, Nat.reduceAdd, Nat.reduceMul, Nat.reduceSub, Int.reduceToNat, Int.reduceLT, Int.reduceLE, Int.reduceAdd, Int.reduceSub, Int.reduceMul, Int.reduceNeg, Nat.reducePow, Int.reducePow, hP, h8_0, h8_2, h8_4, h8_7, h8_16, h8_17, h8_18, h8_76, ltT, ltF, leT, leF, eqT, eqF, hops])
                refine hK5 (k + 1) _ (H ++ some (gs, .cells ((words s).map Value.string).toArray 9 (0, 0)) :: some (g0, .cells zeroO.cells.toArray 25 (0, 0)) :: L) _ (by first | exact Less.refl _ | exact Less.drop _ _ | exact Less.drops (Less.drop _ _) | exact Less.drops (Less.drops (Less.drop _ _)) | exact Less.drops (Less.drops (Less.drops (Less.drop _ _))) | exact Less.drops (Less.drops (Less.drops (Less.drops (Less.drop _ _))))) ?_ ?_
                · try dsimp only
                  refine ⟨?_, ?_, ?_, ?_, ?_, ?_, ?_, ?_⟩
                  · simp (maxSteps := 1000000) (dsimp := false) (disch := omega) only [go_sem, add_addS, ia_someH, wu8, wu16, w32, wu32, wu64, w64, Nat.reduceEqDiff, Nat.reduceBEq, ↓reduceIte, reduceCtorEq, Int.reduceEq, Nat.reduceLT, Nat.reduceLeDiff, Nat.reduceAdd, Nat.reduceMul, Nat.reduceSub, Int.reduceToNat, Int.reduceLT, Int.reduceLE, Int.reduceAdd, Int.reduceSub, Int.reduceMul, Int.reduceNeg, Nat.reducePow, Int.reducePow, hP, h8_0, h8_2, h8_4, h8_7, h8_16, h8_17, h8_18, h8_76, ltT, ltF, leT, leF, eqT, eqF]
                    rfl
                  · simp (maxSteps := 1000000) (dsimp := false) (disch := omega) only [go_sem, add_addS, ia_someH, wu8, wu16, w32, wu32, wu64, w64, Nat.reduceEqDiff, Nat.reduceBEq, ↓reduceIte, reduceCtorEq, Int.reduceEq, Nat.reduceLT, Nat.reduceLeDiff, Nat.reduceAdd, Nat.reduceMul, Nat.reduceSub, Int.reduceToNat, Int.reduceLT, Int.reduceLE, Int.reduceAdd, Int.reduceSub, Int.reduceMul, Int.reduceNeg, Nat.reducePow, Int.reducePow, hP, h8_0, h8_2, h8_4, h8_7, h8_16, h8_17, h8_18, h8_76, ltT, ltF, leT, leF, eqT, eqF]
                  · simp (maxSteps := 1000000) (dsimp := false) (disch := omega) only [go_sem, add_addS, ia_someH, wu8, wu16, w32, wu32, wu64, w64, Nat.reduceEqDiff, Nat.reduceBEq, ↓reduceIte, reduceCtorEq, Int.reduceEq, Nat.reduceLT, Nat.reduceLeDiff, Nat.reduceAdd, Nat.reduceMul, Nat.reduceSub, Int.reduceToNat, Int.reduceLT, Int.reduceLE, Int.reduceAdd, Int.reduceSub, Int.reduceMul, Int.reduceNeg, Nat.reducePow, Int.reducePow, hP, h8_0, h8_2, h8_4, h8_7, h8_16, h8_17, h8_18, h8_76, ltT, ltF, leT, leF, eqT, eqF]
                  · simp (maxSteps := 1000000) (dsimp := false) (disch := omega) only [go_sem, add_addS, ia_someH, wu8, wu16, w32, wu32, wu64, w64, Nat.reduceEqDiff, Nat.reduceBEq, ↓reduceIte, reduceCtorEq, Int.reduceEq, Nat.reduceLT, Nat.reduceLeDiff, Nat.reduceAdd, Nat.reduceMul, Nat.reduceSub, Int.reduceToNat, Int.reduceLT, Int.reduceLE, Int.reduceAdd, Int.reduceSub, Int.reduceMul, Int.reduceNeg, Nat.reducePow, Int.reducePow, hP, h8_0, h8_2, h8_4, h8_7, h8_16, h8_17, h8_18, h8_76, ltT, ltF, leT, leF, eqT, eqF]
                  · simp (maxSteps := 1000000) (dsimp := false) (disch := omega) only [go_sem, add_addS, ia_someH, wu8, wu16, w32, wu32, wu64, w64, Nat.reduceEqDiff, Nat.reduceBEq, ↓reduceIte, reduceCtorEq, Int.reduceEq, Nat.reduceLT, Nat.reduceLeDiff, Nat.reduceAdd, Nat.reduceMul, Nat.reduceSub, Int.reduceToNat, Int.reduceLT, Int.reduceLE, Int.reduceAdd, Int.reduceSub, Int.reduceMul, Int.reduceNeg, Nat.reducePow, Int.reducePow, hP, h8_0, h8_2, h8_4, h8_7, h8_16, h8_17, h8_18, h8_76, ltT, ltF, leT, leF, eqT, eqF]
                  · simp (maxSteps := 1000000) (dsimp := false) (disch := omega) only [go_sem, add_addS, ia_someH, wu8, wu16, w32, wu32, wu64, w64, Nat.reduceEqDiff, Nat.reduceBEq, ↓reduceIte, reduceCtorEq, Int.reduceEq, Nat.reduceLT, Nat.reduceLeDiff, Nat.reduceAdd, Nat.reduceMul, Nat.reduceSub, Int.reduceToNat, Int.reduceLT, Int.reduceLE, Int.reduceAdd, Int.reduceSub, Int.reduceMul, Int.reduceNeg, Nat.reducePow, Int.reducePow, hP, h8_0, h8_2, h8_4, h8_7, h8_16, h8_17, h8_18, h8_76, ltT, ltF, leT, leF, eqT, eqF]
                  · rfl
                  · refine ⟨by omega, fun i hi r' hr' => ?_⟩
                    rcases Nat.lt_succ_iff_lt_or_eq.1 hi with h | rfl
                    · exact hno i h r' hr'
                    · rw [hk0] at hr'; cases hr'; exact if_neg fun h => by unfold parO at h; rw [hpr] at h; cases h.2.2
                · (try dsimp only); omega
              · skip
                try with_reducible refine stI ?_
                dsimp only
                try with_reducible refine stI ?_
                try simp (maxSteps := 1000000) (dsimp := false) (disch := omega) only [go_sem, add_addS, ia_someH, wu8, wu16, w32, wu32, wu64, w64, Nat.reduceEqDiff, Nat.reduceBEq, ↓reduceIte, reduceCtorEq, Int.reduceEq, Nat.reduceLT, Nat.reduceLeDiff, Nat.reduceAdd, Nat.reduceMul, Nat.reduceSub, Int.reduceToNat, Int.reduceLT, Int.reduceLE, Int.reduceAdd, Int.reduceSub, Int.reduceMul, Int.reduceNeg, Nat.reducePow, Int.reducePow, hP, h6_43, h6_0, h6_2, h6_4, h6_7, h6_16, h6_17, h6_18, h6_41, h6_42, ltT, ltF, leT, leF, eqT, eqF, hops]
                refine hK25 _ _ ?_
                try clear hK25 K25
                refine SX.seq_k fun K28 hK28 => ?_
                refine SX.region_d [some 70, some 71, some 72, some 73, some 74, some 75, some 76] rfl (fun ops hops => ?_)
                unfold Dsts at hops
                simp (maxSteps := 1000000) (dsimp := false) (disch := omega) only [go_sem, add_addS, ia_someH, wu8, wu16, w32, wu32, wu64, w64, Nat.reduceEqDiff, Nat.reduceBEq, ↓reduceIte, reduceCtorEq, Int.reduceEq, Nat.reduceLT, Nat.reduceLeDiff, Nat.reduceAdd, Nat.reduceMul, Nat.reduceSub, Int.reduceToNat, Int.reduceLT, Int.reduceLE, Int.reduceAdd, Int.reduceSub, Int.reduceMul, Int.reduceNeg, Nat.reducePow, Int.reducePow, hP, h6_43, h6_0, h6_2, h6_4, h6_7, h6_16, h6_17, h6_18, h6_41, h6_42, ltT, ltF, leT, leF, eqT, eqF, hops]
                repeat' ((first | refine And.intro (by omega) ?_ | fail); try (with_reducible refine stI ?_); try simp (maxSteps := 1000000) (dsimp := false) (disch := omega) only [go_sem, add_addS, ia_someH, wu8, wu16, w32, wu32, wu64, w64, Nat.reduceEqDiff, Nat.reduceBEq, ↓reduceIte, reduceCtorEq, Int.reduceEq, Nat.reduceLT, Nat.reduceLeDiff, Nat.reduceAdd, Nat.reduceMul, Nat.reduceSub, Int.reduceToNat, Int.reduceLT, Int.reduceLE, Int.reduceAdd, Int.reduceSub, Int.reduceMul, Int.reduceNeg, Nat.reducePow, Int.reducePow, hP, h6_43, h6_0, h6_2, h6_4, h6_7, h6_16, h6_17, h6_18, h6_41, h6_42, ltT, ltF, leT, leF, eqT, eqF, hops])
                refine hK28 _ _ ?_
                try clear hK28 K28
                refine SX.live [0, 2, 4, 7, 16, 17, 18, 76] (fun T9 hT9 => ?_)
                simp only [forall_mem_cons', forall_mem_nil', go_sem, add_addS, ia_someH, wu8, wu16, w32, wu32, wu64, w64, Nat.reduceEqDiff, Nat.reduceBEq, ↓reduceIte, reduceCtorEq, Int.reduceEq, Nat.reduceLT, Nat.reduceLeDiff, Nat.reduceAdd, Nat.reduceMul, Nat.reduceSub, Int.reduceToNat, Int.reduceLT, Int.reduceLE, Int.reduceAdd, Int.reduceSub, Int.reduceMul, Int.reduceNeg, Nat.reducePow, Int.reducePow, hP, h6_43, h6_0, h6_2, h6_4, h6_7, h6_16, h6_17, h6_18, h6_41, h6_42, ltT, ltF, leT, leF, eqT, eqF] at hT9
                obtain ⟨h9_0, h9_2, h9_4, h9_7, h9_16, h9_17, h9_18, h9_76⟩ := hT9
                clear h6_43 h6_0 h6_2 h6_4 h6_7 h6_16 h6_17 h6_18 h6_41 h6_42 T6
                refine SX.cond_k fun X29 Y29 hX29 hY29 => ?_
                simp (maxSteps := 1000000) (dsimp := false) (disch := omega) only [go_sem, add_addS, ia_someH, wu8, wu16, w32, wu32, wu64, w64, Nat.reduceEqDiff, Nat.reduceBEq, ↓reduceIte, reduceCtorEq, Int.reduceEq, Nat.reduceLT, Nat.reduceLeDiff, Nat.reduceAdd, Nat.reduceMul, Nat.reduceSub, Int.reduceToNat, Int.reduceLT, Int.reduceLE, Int.reduceAdd, Int.reduceSub, Int.reduceMul, Int.reduceNeg, Nat.reducePow, Int.reducePow, hP, h9_0, h9_2, h9_4, h9_7, h9_16, h9_17, h9_18, h9_76, ltT, ltF, leT, leF, eqT, eqF, condVC]
                refine ⟨fun hc76 => hX29 ?_, fun hc76 => hY29 ?_⟩
                · clear hX29 hY29 X29 Y29
                  refine SX.seq_k fun K30 hK30 => ?_
                  refine SX.region_d [some 77, none, some 3] rfl (fun ops hops => ?_)
                  unfold Dsts at hops
                  simp (maxSteps := 1000000) (dsimp := false) (disch := omega) only [go_sem, add_addS, ia_someH, wu8, wu16, w32, wu32, wu64, w64, Nat.reduceEqDiff, Nat.reduceBEq, ↓reduceIte, reduceCtorEq, Int.reduceEq, Nat.reduceLT, Nat.reduceLeDiff, Nat.reduceAdd, Nat.reduceMul, Nat.reduceSub, Int.reduceToNat, Int.reduceLT, Int.reduceLE, Int.reduceAdd, Int.reduceSub, Int.reduceMul, Int.reduceNeg, Nat.reducePow, Int.reducePow, hP, h9_0, h9_2, h9_4, h9_7, h9_16, h9_17, h9_18, h9_76, ltT, ltF, leT, leF, eqT, eqF, hops]
                  refine ⟨_, Cell.at 0 rfl (show (Ord.cells _)[0]? = _ from rfl), _, Cell.at 0 rfl (show (Ord.cells _)[1]? = _ from rfl), _, Cell.at 0 rfl (show (Ord.cells _)[2]? = _ from rfl), _, Cell.at 0 rfl (show (Ord.cells _)[3]? = _ from rfl), _, Cell.at 0 rfl (show (Ord.cells _)[4]? = _ from rfl), _, Cell.at 0 rfl (show (Ord.cells _)[5]? = _ from rfl), ?_⟩
                  try with_reducible refine stI ?_
                  try simp (maxSteps := 1000000) (dsimp := false) (disch := omega) only [go_sem, add_addS, ia_someH, wu8, wu16, w32, wu32, wu64, w64, Nat.reduceEqDiff, Nat.reduceBEq, ↓reduceIte, reduceCtorEq, Int.reduceEq, Nat.reduceLT, Nat.reduceLeDiff, Nat.reduceAdd, Nat.reduceMul, Nat.reduceSub, Int.reduceToNat, Int.reduceLT, Int.reduceLE, Int.reduceAdd, Int.reduceSub, Int.reduceMul, Int.reduceNeg, Nat.reducePow, Int.reducePow, hP, h9_0, h9_2, h9_4, h9_7, h9_16, h9_17, h9_18, h9_76, ltT, ltF, leT, leF, eqT, eqF, hops]
                  refine ⟨H.length + 3, _, _, _, (by first | exact get_mid2 _ _ _ _ | (simp only [List.getElem?_cons_succ]; exact get_mid2 _ _ _ _)), by simp [Ord.cells, zeroO], .inr (Nat.zero_le _), ?_⟩
                  try with_reducible refine stI ?_
                  try simp (maxSteps := 1000000) (dsimp := false) (disch := omega) only [go_sem, add_addS, ia_someH, wu8, wu16, w32, wu32, wu64, w64, Nat.reduceEqDiff, Nat.reduceBEq, ↓reduceIte, reduceCtorEq, Int.reduceEq, Nat.reduceLT, Nat.reduceLeDiff, Nat.reduceAdd, Nat.reduceMul, Nat.reduceSub, Int.reduceToNat, Int.reduceLT, Int.reduceLE, Int.reduceAdd, Int.reduceSub, Int.reduceMul, Int.reduceNeg, Nat.reducePow, Int.reducePow, hP, h9_0, h9_2, h9_4, h9_7, h9_16, h9_17, h9_18, h9_76, ltT, ltF, leT, leF, eqT, eqF, hops]
                  rw [set_mid2]
                  refine hK30 _ _ ?_
                  try clear hK30 K30
                  refine SX.ret ?_
                  simp only [andThen_normal, andThen_ret, andThen_exit, inBlk_normal, inBlk_ret, inBlk_exit, Nat.reduceEqDiff, if_true, if_false, ↓reduceIte, retQ_ret]
                  try simp only [res0, res1, res2, res3, stK_e, resX, resK, oneOr, ld_ptr, loadVC, loadN, List.nil_append, List.cons_append, Nat.reduceAdd, Nat.add_zero, Nat.zero_add, Addr.add_lit, Addr.add_zero', add_addS, T.elA_25, T.lay_25, T.szA_25, T.zr_25, Tryd.underlying25, go_sem, add_addS, ia_someH, wu8, wu16, w32, wu32, wu64, w64, Nat.reduceEqDiff, Nat.reduceBEq, ↓reduceIte, reduceCtorEq, Int.reduceEq, Nat.reduceLT, Nat.reduceLeDiff, Nat.reduceAdd, Nat.reduceMul, Nat.reduceSub, Int.reduceToNat, Int.reduceLT, Int.reduceLE, Int.reduceAdd, Int.reduceSub, Int.reduceMul, Int.reduceNeg, Nat.reducePow, Int.reducePow, hP, h9_0, h9_2, h9_4, h9_7, h9_16, h9_17, h9_18, h9_76, ltT, ltF, leT, leF, eqT, eqF]
                  refine ⟨_, L, (Less.sublist (List.sublist_append_right (_ :: _ :: H) _)).trans (Less.drops (Less.drop _ _)), ⟨_, Cell.at (H.length + 3) (by first | exact get_mid2 _ _ _ _ | (simp only [List.getElem?_cons_succ]; exact get_mid2 _ _ _ _)) rfl, _, Cell.at (H.length + 3) (by first | exact get_mid2 _ _ _ _ | (simp only [List.getElem?_cons_succ]; exact get_mid2 _ _ _ _)) rfl, _, Cell.at (H.length + 3) (by first | exact get_mid2 _ _ _ _ | (simp only [List.getElem?_cons_succ]; exact get_mid2 _ _ _ _)) rfl, _, Cell.at (H.length + 3) (by first | exact get_mid2 _ _ _ _ | (simp only [List.getElem?_cons_succ]; exact get_mid2 _ _ _ _)) rfl, _, Cell.at (H.length + 3) (by first | exact get_mid2 _ _ _ _ | (simp only [List.getElem?_cons_succ]; exact get_mid2 _ _ _ _)) rfl, _, Cell.at (H.length + 3) (by first | exact get_mid2 _ _ _ _ | (simp only [List.getElem?_cons_succ]; exact get_mid2 _ _ _ _)) rfl, rfl⟩, ?_⟩
                  have hps := parse_some hk0 (show tryRow s r = some _ from if_pos ⟨hcm.1, hcm.2, by unfold parO; rw [hpr, hc76]⟩) hno
                  unfold parseR
                  rw [hps]
                  exact ⟨rfl, rfl⟩
                · clear hX29 hY29 X29 Y29
                  refine SX.skip ?_
                  try simp only [andThen_normal, andThen_ret, andThen_exit, inBlk_normal, inBlk_ret, inBlk_exit, Nat.reduceEqDiff, if_true, if_false, ↓reduceIte]
                  refine hK9 _ _ ?_
                  try clear hK9 K9
                  refine SX.region_d [some 78, some 18] rfl (fun ops hops => ?_)
                  unfold Dsts at hops
                  simp (maxSteps := 1000000) (dsimp := false) (disch := omega) only [go_sem, add_addS, ia_someH, wu8, wu16, w32, wu32, wu64, w64, Nat.reduceEqDiff, Nat.reduceBEq, ↓reduceIte, reduceCtorEq, Int.reduceEq, Nat.reduceLT, Nat.reduceLeDiff, Nat.reduceAdd, Nat.reduceMul, Nat.reduceSub, Int.reduceToNat, Int.reduceLT, Int.reduceLE, Int.reduceAdd, Int.reduceSub, Int.reduceMul, Int.reduceNeg, Nat.reducePow, Int.reducePow, hP, h9_0, h9_2, h9_4, h9_7, h9_16, h9_17, h9_18, h9_76, ltT, ltF, leT, leF, eqT, eqF, hops]
                  repeat' ((first | refine And.intro (by omega) ?_ | fail); try (with_reducible refine stI ?_); try simp (maxSteps := 1000000) (dsimp := false) (disch := omega) only [go_sem, add_addS, ia_someH, wu8, wu16, w32, wu32, wu64, w64, Nat.reduceEqDiff, Nat.reduceBEq, ↓reduceIte, reduceCtorEq, Int.reduceEq, Nat.reduceLT, Nat.reduceLeDiff, Nat.reduceAdd, Nat.reduceMul, Nat.reduceSub, Int.reduceToNat, Int.reduceLT, Int.reduceLE, Int.reduceAdd, Int.reduceSub, Int.reduceMul, Int.reduceNeg, Nat.reducePow, Int.reducePow, hP, h9_0, h9_2, h9_4, h9_7, h9_16, h9_17, h9_18, h9_76, ltT, ltF, leT, leF, eqT, eqF, hops])
                  refine hK5 (k + 1) _ (H ++ some (gs, .cells ((words s).map Value.string).toArray 9 (0, 0)) :: some (g0, .cells zeroO.cells.toArray 25 (0, 0)) :: L) _ (by first | exact Less.refl _ | exact Less.drop _ _ | exact Less.drops (Less.drop _ _) | exact Less.drops (Less.drops (Less.drop _ _)) | exact Less.drops (Less.drops (Less.drops (Less.drop _ _))) | exact Less.drops (Less.drops (Less.drops (Less.drops (Less.drop _ _))))) ?_ ?_
                  · try dsimp only
                    refine ⟨?_, ?_, ?_, ?_, ?_, ?_, ?_, ?_⟩
                    · simp (maxSteps := 1000000) (dsimp := false) (disch := omega) only [go_sem, add_addS, ia_someH, wu8, wu16, w32, wu32, wu64, w64, Nat.reduceEqDiff, Nat.reduceBEq, ↓reduceIte, reduceCtorEq, Int.reduceEq, Nat.reduceLT, Nat.reduceLeDiff, Nat.reduceAdd, Nat.reduceMul, Nat.reduceSub, Int.reduceToNat, Int.reduceLT, Int.reduceLE, Int.reduceAdd, Int.reduceSub, Int.reduceMul, Int.reduceNeg, Nat.reducePow, Int.reducePow, hP, h9_0, h9_2, h9_4, h9_7, h9_16, h9_17, h9_18, h9_76, ltT, ltF, leT, leF, eqT, eqF]
                      rfl
                    · simp (maxSteps := 1000000) (dsimp := false) (disch := omega) only [go_sem, add_addS, ia_someH, wu8, wu16, w32, wu32, wu64, w64, Nat.reduceEqDiff, Nat.reduceBEq, ↓reduceIte, reduceCtorEq, Int.reduceEq, Nat.reduceLT, Nat.reduceLeDiff, Nat.reduceAdd, Nat.reduceMul, Nat.reduceSub, Int.reduceToNat, Int.reduceLT, Int.reduceLE, Int.reduceAdd, Int.reduceSub, Int.reduceMul, Int.reduceNeg, Nat.reducePow, Int.reducePow, hP, h9_0, h9_2, h9_4, h9_7, h9_16, h9_17, h9_18, h9_76, ltT, ltF, leT, leF, eqT, eqF]
                    · simp (maxSteps := 1000000) (dsimp := false) (disch := omega) only [go_sem, add_addS, ia_someH, wu8, wu16, w32, wu32, wu64, w64, Nat.reduceEqDiff, Nat.reduceBEq, ↓reduceIte, reduceCtorEq, Int.reduceEq, Nat.reduceLT, Nat.reduceLeDiff, Nat.reduceAdd, Nat.reduceMul, Nat.reduceSub, Int.reduceToNat, Int.reduceLT, Int.reduceLE, Int.reduceAdd, Int.reduceSub, Int.reduceMul, Int.reduceNeg, Nat.reducePow, Int.reducePow, hP, h9_0, h9_2, h9_4, h9_7, h9_16, h9_17, h9_18, h9_76, ltT, ltF, leT, leF, eqT, eqF]
                    · simp (maxSteps := 1000000) (dsimp := false) (disch := omega) only [go_sem, add_addS, ia_someH, wu8, wu16, w32, wu32, wu64, w64, Nat.reduceEqDiff, Nat.reduceBEq, ↓reduceIte, reduceCtorEq, Int.reduceEq, Nat.reduceLT, Nat.reduceLeDiff, Nat.reduceAdd, Nat.reduceMul, Nat.reduceSub, Int.reduceToNat, Int.reduceLT, Int.reduceLE, Int.reduceAdd, Int.reduceSub, Int.reduceMul, Int.reduceNeg, Nat.reducePow, Int.reducePow, hP, h9_0, h9_2, h9_4, h9_7, h9_16, h9_17, h9_18, h9_76, ltT, ltF, leT, leF, eqT, eqF]
                    · simp (maxSteps := 1000000) (dsimp := false) (disch := omega) only [go_sem, add_addS, ia_someH, wu8, wu16, w32, wu32, wu64, w64, Nat.reduceEqDiff, Nat.reduceBEq, ↓reduceIte, reduceCtorEq, Int.reduceEq, Nat.reduceLT, Nat.reduceLeDiff, Nat.reduceAdd, Nat.reduceMul, Nat.reduceSub, Int.reduceToNat, Int.reduceLT, Int.reduceLE, Int.reduceAdd, Int.reduceSub, Int.reduceMul, Int.reduceNeg, Nat.reducePow, Int.reducePow, hP, h9_0, h9_2, h9_4, h9_7, h9_16, h9_17, h9_18, h9_76, ltT, ltF, leT, leF, eqT, eqF]
                    · simp (maxSteps := 1000000) (dsimp := false) (disch := omega) only [go_sem, add_addS, ia_someH, wu8, wu16, w32, wu32, wu64, w64, Nat.reduceEqDiff, Nat.reduceBEq, ↓reduceIte, reduceCtorEq, Int.reduceEq, Nat.reduceLT, Nat.reduceLeDiff, Nat.reduceAdd, Nat.reduceMul, Nat.reduceSub, Int.reduceToNat, Int.reduceLT, Int.reduceLE, Int.reduceAdd, Int.reduceSub, Int.reduceMul, Int.reduceNeg, Nat.reducePow, Int.reducePow, hP, h9_0, h9_2, h9_4, h9_7, h9_16, h9_17, h9_18, h9_76, ltT, ltF, leT, leF, eqT, eqF]
                    · rfl
                    · refine ⟨by omega, fun i hi r' hr' => ?_⟩
                      rcases Nat.lt_succ_iff_lt_or_eq.1 hi with h | rfl
                      · exact hno i h r' hr'
                      · rw [hk0] at hr'; cases hr'; exact if_neg fun h => by unfold parO at h; rw [hpr] at h; exact hc76 (Option.some.inj h.2.2)
                  · (try dsimp only); omega
    · clear hX8 hY8 X8 Y8
      refine SX.exit ?_
      try simp only [andThen_normal, andThen_ret, andThen_exit, inBlk_normal, inBlk_ret, inBlk_exit, Nat.reduceEqDiff, if_true, if_false, ↓reduceIte]
      refine hK3 _ _ ?_
      try clear hK3 K3
      refine SX.seq_k fun K31 hK31 => ?_
      obtain rfl : k = 31 := by omega
      refine SX.region_d [some 79, none, some 3] rfl (fun ops hops => ?_)
      unfold Dsts at hops
      simp (maxSteps := 1000000) (dsimp := false) (disch := omega) only [go_sem, add_addS, ia_someH, wu8, wu16, w32, wu32, wu64, w64, Nat.reduceEqDiff, Nat.reduceBEq, ↓reduceIte, reduceCtorEq, Int.reduceEq, Nat.reduceLT, Nat.reduceLeDiff, Nat.reduceAdd, Nat.reduceMul, Nat.reduceSub, Int.reduceToNat, Int.reduceLT, Int.reduceLE, Int.reduceAdd, Int.reduceSub, Int.reduceMul, Int.reduceNeg, Nat.reducePow, Int.reducePow, hP, h2_18, h2_0, h2_2, h2_4, h2_16, h2_17, ltT, ltF, leT, leF, eqT, eqF, hops]
      refine ⟨H.length + 1, _, _, _, (by first | exact get_mid2 _ _ _ _ | (simp only [List.getElem?_cons_succ]; exact get_mid2 _ _ _ _)), by simp [Ord.cells, zeroO], .inr (Nat.zero_le _), ?_⟩
      try with_reducible refine stI ?_
      try simp (maxSteps := 1000000) (dsimp := false) (disch := omega) only [go_sem, add_addS, ia_someH, wu8, wu16, w32, wu32, wu64, w64, Nat.reduceEqDiff, Nat.reduceBEq, ↓reduceIte, reduceCtorEq, Int.reduceEq, Nat.reduceLT, Nat.reduceLeDiff, Nat.reduceAdd, Nat.reduceMul, Nat.reduceSub, Int.reduceToNat, Int.reduceLT, Int.reduceLE, Int.reduceAdd, Int.reduceSub, Int.reduceMul, Int.reduceNeg, Nat.reducePow, Int.reducePow, hP, h2_18, h2_0, h2_2, h2_4, h2_16, h2_17, ltT, ltF, leT, leF, eqT, eqF, hops]
      rw [set_mid2]
      refine hK31 _ _ ?_
      try clear hK31 K31
      refine SX.ret ?_
      simp only [andThen_normal, andThen_ret, andThen_exit, inBlk_normal, inBlk_ret, inBlk_exit, Nat.reduceEqDiff, if_true, if_false, ↓reduceIte, retQ_ret]
      try simp only [res0, res1, res2, res3, stK_e, resX, resK, oneOr, ld_ptr, loadVC, loadN, List.nil_append, List.cons_append, Nat.reduceAdd, Nat.add_zero, Nat.zero_add, Addr.add_lit, Addr.add_zero', add_addS, T.elA_25, T.lay_25, T.szA_25, T.zr_25, Tryd.underlying25, go_sem, add_addS, ia_someH, wu8, wu16, w32, wu32, wu64, w64, Nat.reduceEqDiff, Nat.reduceBEq, ↓reduceIte, reduceCtorEq, Int.reduceEq, Nat.reduceLT, Nat.reduceLeDiff, Nat.reduceAdd, Nat.reduceMul, Nat.reduceSub, Int.reduceToNat, Int.reduceLT, Int.reduceLE, Int.reduceAdd, Int.reduceSub, Int.reduceMul, Int.reduceNeg, Nat.reducePow, Int.reducePow, hP, h2_18, h2_0, h2_2, h2_4, h2_16, h2_17, ltT, ltF, leT, leF, eqT, eqF]
      refine ⟨_, L, (Less.sublist (List.sublist_append_right H _)).trans (Less.drops (Less.drop _ _)), ⟨_, Cell.at (H.length + 1) (by first | exact get_mid2 _ _ _ _ | (simp only [List.getElem?_cons_succ]; exact get_mid2 _ _ _ _)) rfl, _, Cell.at (H.length + 1) (by first | exact get_mid2 _ _ _ _ | (simp only [List.getElem?_cons_succ]; exact get_mid2 _ _ _ _)) rfl, _, Cell.at (H.length + 1) (by first | exact get_mid2 _ _ _ _ | (simp only [List.getElem?_cons_succ]; exact get_mid2 _ _ _ _)) rfl, _, Cell.at (H.length + 1) (by first | exact get_mid2 _ _ _ _ | (simp only [List.getElem?_cons_succ]; exact get_mid2 _ _ _ _)) rfl, _, Cell.at (H.length + 1) (by first | exact get_mid2 _ _ _ _ | (simp only [List.getElem?_cons_succ]; exact get_mid2 _ _ _ _)) rfl, _, Cell.at (H.length + 1) (by first | exact get_mid2 _ _ _ _ | (simp only [List.getElem?_cons_succ]; exact get_mid2 _ _ _ _)) rfl, rfl⟩, ?_⟩
      unfold parseR
      rw [parse_none hno]
      exact ⟨rfl, rfl⟩

end Go.Proofs.YthhogfnghaikaaaDoor
