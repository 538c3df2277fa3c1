/- A part of the proof of OpsLinesCardSaid. -/
import Derived.Laws.BitsLemmas
import Derived.Laws.BitsAllLaws
import Derived.Test.YthhogfnghaikaaaDoorCD1
set_option linter.unusedVariables false
set_option linter.unusedSimpArgs false
namespace Go.Proofs.YthhogfnghaikaaaDoor
open Go.RowKit Go.SX

/-- An order. -/
structure Ord where
  op : Nat
  x : Nat
  y : Nat
  n : Nat
  b : Nat
  a : Nat
deriving DecidableEq
def Ord.cells (o : Ord) : List Value := [.int .u8 (o.op : Int), .int .u8 (o.x : Int), .int .u8 (o.y : Int), .int .u8 (o.n : Int), .int .u8 (o.b : Int), .int .u16 (o.a : Int)]
def zeroO : Ord := ⟨0, 0, 0, 0, 0, 0⟩
def Fd.of (o : Ord) : Fd → Nat
  | .x => o.x | .y => o.y | .n => o.n | .b => o.b | .a => o.a
def Fd.into (o : Ord) (k : Nat) : Fd → Ord
  | .x => { o with x := k % 256 } | .y => { o with y := k % 256 } | .n => { o with n := k % 256 } | .b => { o with b := k % 256 } | .a => { o with a := k % 65536 }
structure OkO (o : Ord) : Prop where
  op : o.op < 256
  x : o.x < 256
  y : o.y < 256
  n : o.n < 256
  b : o.b < 256
  a : o.a < 65536
theorem wn8 (k : Nat) : IntKind.u8.wrap (k : Int) = ((k % 256 : Nat) : Int) := by rw [IntKind.wrap_u8]; omega
theorem wn16 (k : Nat) : IntKind.u16.wrap (k : Int) = ((k % 65536 : Nat) : Int) := by rw [IntKind.wrap_u16]; omega
theorem get_mid (H : Hp) (s : Slot) (L : Hp) : (H ++ s :: L)[H.length]? = some s := by simp
theorem set_mid1 (H : Hp) (s t : Slot) (L : Hp) : (H ++ s :: L).set H.length t = H ++ t :: L := by simp
theorem callable_get (f : Fd) : callable Tryd.prog f.get = true := by cases f <;> kernel_rfl
theorem callable_put (f : Fd) : callable Tryd.prog f.put = true := by cases f <;> kernel_rfl
set_option maxHeartbeats 1000000 in
set_option maxRecDepth 100000 in
theorem get_x {Γ : Ctx} (hP : Γ.P = Tryd.prog) {L : Hp} {g : Nat} {o : Ord} (ho : OkO o) (hc : ∀ k u, o.cells[k]? = some u → Cell Γ L ⟨g, k, none⟩ u) :
    SCall Γ 33 #[(.pointer (some ⟨g, 0, none⟩))] L (fun v L' => v = .int .i64 (o.x : Int) ∧ L' = L) := by
  refine SCall.enter (n := 8) (res1 2) (hP ▸ Tryd.func33) rfl rfl (by simp) (res1_ok rfl) ?_
  refine SX.seq_k fun K1 hK1 => ?_
  refine SX.region ?_
  simp (maxSteps := 1000000) only [go_sem, add_addS, ia_someH, stK_e, Nat.reduceEqDiff, Nat.reduceBEq, ↓reduceIte, reduceCtorEq, Int.reduceEq, Nat.reduceLT, Nat.reduceLeDiff, Nat.reduceAdd, Nat.reduceMul, Nat.reduceSub, Int.reduceToNat, Int.reduceLT, Int.reduceLE, Int.reduceAdd, Int.reduceSub, Int.reduceMul, Int.reduceNeg, Nat.reducePow, Int.reducePow, hP]
  refine hK1 _ _ ?_
  try clear hK1 K1
  refine SX.seq_k fun K2 hK2 => ?_
  have hw : IntKind.i64.wrap (o.x : Int) = (o.x : Int) := w64 (by have := ho.x; omega)
  refine SX.region ?_
  simp (maxSteps := 1000000) only [go_sem, add_addS, ia_someH, stK_e, Nat.reduceEqDiff, Nat.reduceBEq, ↓reduceIte, reduceCtorEq, Int.reduceEq, Nat.reduceLT, Nat.reduceLeDiff, Nat.reduceAdd, Nat.reduceMul, Nat.reduceSub, Int.reduceToNat, Int.reduceLT, Int.reduceLE, Int.reduceAdd, Int.reduceSub, Int.reduceMul, Int.reduceNeg, Nat.reducePow, Int.reducePow, hP, hw]
  refine ⟨_, hc 1 _ rfl, ?_⟩
  try simp (maxSteps := 1000000) only [go_sem, add_addS, ia_someH, stK_e, Nat.reduceEqDiff, Nat.reduceBEq, ↓reduceIte, reduceCtorEq, Int.reduceEq, Nat.reduceLT, Nat.reduceLeDiff, Nat.reduceAdd, Nat.reduceMul, Nat.reduceSub, Int.reduceToNat, Int.reduceLT, Int.reduceLE, Int.reduceAdd, Int.reduceSub, Int.reduceMul, Int.reduceNeg, Nat.reducePow, Int.reducePow, hP, hw]
  refine hK2 _ _ ?_
  try clear hK2 K2
  refine SX.ret ?_
  simp only [andThen_normal, andThen_ret, andThen_exit, inBlk_normal, inBlk_ret, inBlk_exit, Nat.reduceEqDiff, if_true, if_false, ↓reduceIte, retQ_ret]
  try simp only [go_sem, add_addS, ia_someH, stK_e, Nat.reduceEqDiff, Nat.reduceBEq, ↓reduceIte, reduceCtorEq, Int.reduceEq, Nat.reduceLT, Nat.reduceLeDiff, Nat.reduceAdd, Nat.reduceMul, Nat.reduceSub, Int.reduceToNat, Int.reduceLT, Int.reduceLE, Int.reduceAdd, Int.reduceSub, Int.reduceMul, Int.reduceNeg, Nat.reducePow, Int.reducePow, res0, res1, res2, res3, hP]
  exact ⟨_, L, (by first | exact Less.refl _ | exact Less.drop _ _ | exact Less.drops (Less.drop _ _) | exact Less.drops (Less.drops (Less.drop _ _)) | exact Less.drops (Less.drops (Less.drops (Less.drop _ _))) | exact Less.drops (Less.drops (Less.drops (Less.drops (Less.drop _ _))))), rfl, rfl, rfl⟩
set_option maxHeartbeats 1000000 in
set_option maxRecDepth 100000 in
theorem put_x {Γ : Ctx} (hP : Γ.P = Tryd.prog) {L : Hp} {g i k : Nat} {o : Ord} (hi : L[i]? = some (some (g, .cells o.cells.toArray 25 (0, 0)))) :
    SCall Γ 34 #[(.pointer (some ⟨g, 0, none⟩)), (.int .i64 (k : Int))] L (fun v L' => v = .tuple #[] ∧ L' = L.set i (some (g, .cells (Fd.x.into o k).cells.toArray 25 (0, 0)))) := by
  refine SCall.enter (n := 9) (res0) (hP ▸ Tryd.func34) rfl rfl (by simp) (res0_ok rfl) ?_
  refine SX.region ?_
  simp (maxSteps := 1000000) only [go_sem, add_addS, ia_someH, stK_e, Nat.reduceEqDiff, Nat.reduceBEq, ↓reduceIte, reduceCtorEq, Int.reduceEq, Nat.reduceLT, Nat.reduceLeDiff, Nat.reduceAdd, Nat.reduceMul, Nat.reduceSub, Int.reduceToNat, Int.reduceLT, Int.reduceLE, Int.reduceAdd, Int.reduceSub, Int.reduceMul, Int.reduceNeg, Nat.reducePow, Int.reducePow, hP, wn8, wn16]
  refine ⟨i, _, _, _, hi, by simp [Ord.cells], .inr (Nat.zero_le _), ?_⟩
  try simp (maxSteps := 1000000) only [go_sem, add_addS, ia_someH, stK_e, Nat.reduceEqDiff, Nat.reduceBEq, ↓reduceIte, reduceCtorEq, Int.reduceEq, Nat.reduceLT, Nat.reduceLeDiff, Nat.reduceAdd, Nat.reduceMul, Nat.reduceSub, Int.reduceToNat, Int.reduceLT, Int.reduceLE, Int.reduceAdd, Int.reduceSub, Int.reduceMul, Int.reduceNeg, Nat.reducePow, Int.reducePow, hP, wn8, wn16]
  simp only [andThen_normal, andThen_ret, andThen_exit, inBlk_normal, inBlk_ret, inBlk_exit, Nat.reduceEqDiff, if_true, if_false, ↓reduceIte, retQ_normal]
  try simp only [go_sem, add_addS, ia_someH, stK_e, Nat.reduceEqDiff, Nat.reduceBEq, ↓reduceIte, reduceCtorEq, Int.reduceEq, Nat.reduceLT, Nat.reduceLeDiff, Nat.reduceAdd, Nat.reduceMul, Nat.reduceSub, Int.reduceToNat, Int.reduceLT, Int.reduceLE, Int.reduceAdd, Int.reduceSub, Int.reduceMul, Int.reduceNeg, Nat.reducePow, Int.reducePow, res0, res1, res2, res3, hP]
  exact ⟨_, _, Less.refl _, rfl, rfl, rfl⟩
set_option maxHeartbeats 1000000 in
set_option maxRecDepth 100000 in
theorem get_y {Γ : Ctx} (hP : Γ.P = Tryd.prog) {L : Hp} {g : Nat} {o : Ord} (ho : OkO o) (hc : ∀ k u, o.cells[k]? = some u → Cell Γ L ⟨g, k, none⟩ u) :
    SCall Γ 35 #[(.pointer (some ⟨g, 0, none⟩))] L (fun v L' => v = .int .i64 (o.y : Int) ∧ L' = L) := by
  refine SCall.enter (n := 8) (res1 2) (hP ▸ Tryd.func35) rfl rfl (by simp) (res1_ok rfl) ?_
  refine SX.seq_k fun K1 hK1 => ?_
  refine SX.region ?_
  simp (maxSteps := 1000000) only [go_sem, add_addS, ia_someH, stK_e, Nat.reduceEqDiff, Nat.reduceBEq, ↓reduceIte, reduceCtorEq, Int.reduceEq, Nat.reduceLT, Nat.reduceLeDiff, Nat.reduceAdd, Nat.reduceMul, Nat.reduceSub, Int.reduceToNat, Int.reduceLT, Int.reduceLE, Int.reduceAdd, Int.reduceSub, Int.reduceMul, Int.reduceNeg, Nat.reducePow, Int.reducePow, hP]
  refine hK1 _ _ ?_
  try clear hK1 K1
  refine SX.seq_k fun K2 hK2 => ?_
  have hw : IntKind.i64.wrap (o.y : Int) = (o.y : Int) := w64 (by have := ho.y; omega)
  refine SX.region ?_
  simp (maxSteps := 1000000) only [go_sem, add_addS, ia_someH, stK_e, Nat.reduceEqDiff, Nat.reduceBEq, ↓reduceIte, reduceCtorEq, Int.reduceEq, Nat.reduceLT, Nat.reduceLeDiff, Nat.reduceAdd, Nat.reduceMul, Nat.reduceSub, Int.reduceToNat, Int.reduceLT, Int.reduceLE, Int.reduceAdd, Int.reduceSub, Int.reduceMul, Int.reduceNeg, Nat.reducePow, Int.reducePow, hP, hw]
  refine ⟨_, hc 2 _ rfl, ?_⟩
  try simp (maxSteps := 1000000) only [go_sem, add_addS, ia_someH, stK_e, Nat.reduceEqDiff, Nat.reduceBEq, ↓reduceIte, reduceCtorEq, Int.reduceEq, Nat.reduceLT, Nat.reduceLeDiff, Nat.reduceAdd, Nat.reduceMul, Nat.reduceSub, Int.reduceToNat, Int.reduceLT, Int.reduceLE, Int.reduceAdd, Int.reduceSub, Int.reduceMul, Int.reduceNeg, Nat.reducePow, Int.reducePow, hP, hw]
  refine hK2 _ _ ?_
  try clear hK2 K2
  refine SX.ret ?_
  simp only [andThen_normal, andThen_ret, andThen_exit, inBlk_normal, inBlk_ret, inBlk_exit, Nat.reduceEqDiff, if_true, if_false, ↓reduceIte, retQ_ret]
  try simp only [go_sem, add_addS, ia_someH, stK_e, Nat.reduceEqDiff, Nat.reduceBEq, ↓reduceIte, reduceCtorEq, Int.reduceEq, Nat.reduceLT, Nat.reduceLeDiff, Nat.reduceAdd, Nat.reduceMul, Nat.reduceSub, Int.reduceToNat, Int.reduceLT, Int.reduceLE, Int.reduceAdd, Int.reduceSub, Int.reduceMul, Int.reduceNeg, Nat.reducePow, Int.reducePow, res0, res1, res2, res3, hP]
  exact ⟨_, L, (by first | exact Less.refl _ | exact Less.drop _ _ | exact Less.drops (Less.drop _ _) | exact Less.drops (Less.drops (Less.drop _ _)) | exact Less.drops (Less.drops (Less.drops (Less.drop _ _))) | exact Less.drops (Less.drops (Less.drops (Less.drops (Less.drop _ _))))), rfl, rfl, rfl⟩
set_option maxHeartbeats 1000000 in
set_option maxRecDepth 100000 in
theorem put_y {Γ : Ctx} (hP : Γ.P = Tryd.prog) {L : Hp} {g i k : Nat} {o : Ord} (hi : L[i]? = some (some (g, .cells o.cells.toArray 25 (0, 0)))) :
    SCall Γ 36 #[(.pointer (some ⟨g, 0, none⟩)), (.int .i64 (k : Int))] L (fun v L' => v = .tuple #[] ∧ L' = L.set i (some (g, .cells (Fd.y.into o k).cells.toArray 25 (0, 0)))) := by
  refine SCall.enter (n := 9) (res0) (hP ▸ Tryd.func36) rfl rfl (by simp) (res0_ok rfl) ?_
  refine SX.region ?_
  simp (maxSteps := 1000000) only [go_sem, add_addS, ia_someH, stK_e, Nat.reduceEqDiff, Nat.reduceBEq, ↓reduceIte, reduceCtorEq, Int.reduceEq, Nat.reduceLT, Nat.reduceLeDiff, Nat.reduceAdd, Nat.reduceMul, Nat.reduceSub, Int.reduceToNat, Int.reduceLT, Int.reduceLE, Int.reduceAdd, Int.reduceSub, Int.reduceMul, Int.reduceNeg, Nat.reducePow, Int.reducePow, hP, wn8, wn16]
  refine ⟨i, _, _, _, hi, by simp [Ord.cells], .inr (Nat.zero_le _), ?_⟩
  try simp (maxSteps := 1000000) only [go_sem, add_addS, ia_someH, stK_e, Nat.reduceEqDiff, Nat.reduceBEq, ↓reduceIte, reduceCtorEq, Int.reduceEq, Nat.reduceLT, Nat.reduceLeDiff, Nat.reduceAdd, Nat.reduceMul, Nat.reduceSub, Int.reduceToNat, Int.reduceLT, Int.reduceLE, Int.reduceAdd, Int.reduceSub, Int.reduceMul, Int.reduceNeg, Nat.reducePow, Int.reducePow, hP, wn8, wn16]
  simp only [andThen_normal, andThen_ret, andThen_exit, inBlk_normal, inBlk_ret, inBlk_exit, Nat.reduceEqDiff, if_true, if_false, ↓reduceIte, retQ_normal]
  try simp only [go_sem, add_addS, ia_someH, stK_e, Nat.reduceEqDiff, Nat.reduceBEq, ↓reduceIte, reduceCtorEq, Int.reduceEq, Nat.reduceLT, Nat.reduceLeDiff, Nat.reduceAdd, Nat.reduceMul, Nat.reduceSub, Int.reduceToNat, Int.reduceLT, Int.reduceLE, Int.reduceAdd, Int.reduceSub, Int.reduceMul, Int.reduceNeg, Nat.reducePow, Int.reducePow, res0, res1, res2, res3, hP]
  exact ⟨_, _, Less.refl _, rfl, rfl, rfl⟩
set_option maxHeartbeats 1000000 in
set_option maxRecDepth 100000 in
theorem get_n {Γ : Ctx} (hP : Γ.P = Tryd.prog) {L : Hp} {g : Nat} {o : Ord} (ho : OkO o) (hc : ∀ k u, o.cells[k]? = some u → Cell Γ L ⟨g, k, none⟩ u) :
    SCall Γ 37 #[(.pointer (some ⟨g, 0, none⟩))] L (fun v L' => v = .int .i64 (o.n : Int) ∧ L' = L) := by
  refine SCall.enter (n := 8) (res1 2) (hP ▸ Tryd.func37) rfl rfl (by simp) (res1_ok rfl) ?_
  refine SX.seq_k fun K1 hK1 => ?_
  refine SX.region ?_
  simp (maxSteps := 1000000) only [go_sem, add_addS, ia_someH, stK_e, Nat.reduceEqDiff, Nat.reduceBEq, ↓reduceIte, reduceCtorEq, Int.reduceEq, Nat.reduceLT, Nat.reduceLeDiff, Nat.reduceAdd, Nat.reduceMul, Nat.reduceSub, Int.reduceToNat, Int.reduceLT, Int.reduceLE, Int.reduceAdd, Int.reduceSub, Int.reduceMul, Int.reduceNeg, Nat.reducePow, Int.reducePow, hP]
  refine hK1 _ _ ?_
  try clear hK1 K1
  refine SX.seq_k fun K2 hK2 => ?_
  have hw : IntKind.i64.wrap (o.n : Int) = (o.n : Int) := w64 (by have := ho.n; omega)
  refine SX.region ?_
  simp (maxSteps := 1000000) only [go_sem, add_addS, ia_someH, stK_e, Nat.reduceEqDiff, Nat.reduceBEq, ↓reduceIte, reduceCtorEq, Int.reduceEq, Nat.reduceLT, Nat.reduceLeDiff, Nat.reduceAdd, Nat.reduceMul, Nat.reduceSub, Int.reduceToNat, Int.reduceLT, Int.reduceLE, Int.reduceAdd, Int.reduceSub, Int.reduceMul, Int.reduceNeg, Nat.reducePow, Int.reducePow, hP, hw]
  refine ⟨_, hc 3 _ rfl, ?_⟩
  try simp (maxSteps := 1000000) only [go_sem, add_addS, ia_someH, stK_e, Nat.reduceEqDiff, Nat.reduceBEq, ↓reduceIte, reduceCtorEq, Int.reduceEq, Nat.reduceLT, Nat.reduceLeDiff, Nat.reduceAdd, Nat.reduceMul, Nat.reduceSub, Int.reduceToNat, Int.reduceLT, Int.reduceLE, Int.reduceAdd, Int.reduceSub, Int.reduceMul, Int.reduceNeg, Nat.reducePow, Int.reducePow, hP, hw]
  refine hK2 _ _ ?_
  try clear hK2 K2
  refine SX.ret ?_
  simp only [andThen_normal, andThen_ret, andThen_exit, inBlk_normal, inBlk_ret, inBlk_exit, Nat.reduceEqDiff, if_true, if_false, ↓reduceIte, retQ_ret]
  try simp only [go_sem, add_addS, ia_someH, stK_e, Nat.reduceEqDiff, Nat.reduceBEq, ↓reduceIte, reduceCtorEq, Int.reduceEq, Nat.reduceLT, Nat.reduceLeDiff, Nat.reduceAdd, Nat.reduceMul, Nat.reduceSub, Int.reduceToNat, Int.reduceLT, Int.reduceLE, Int.reduceAdd, Int.reduceSub, Int.reduceMul, Int.reduceNeg, Nat.reducePow, Int.reducePow, res0, res1, res2, res3, hP]
  exact ⟨_, L, (by first | exact Less.refl _ | exact Less.drop _ _ | exact Less.drops (Less.drop _ _) | exact Less.drops (Less.drops (Less.drop _ _)) | exact Less.drops (Less.drops (Less.drops (Less.drop _ _))) | exact Less.drops (Less.drops (Less.drops (Less.drops (Less.drop _ _))))), rfl, rfl, rfl⟩
set_option maxHeartbeats 1000000 in
set_option maxRecDepth 100000 in
theorem put_n {Γ : Ctx} (hP : Γ.P = Tryd.prog) {L : Hp} {g i k : Nat} {o : Ord} (hi : L[i]? = some (some (g, .cells o.cells.toArray 25 (0, 0)))) :
    SCall Γ 38 #[(.pointer (some ⟨g, 0, none⟩)), (.int .i64 (k : Int))] L (fun v L' => v = .tuple #[] ∧ L' = L.set i (some (g, .cells (Fd.n.into o k).cells.toArray 25 (0, 0)))) := by
  refine SCall.enter (n := 9) (res0) (hP ▸ Tryd.func38) rfl rfl (by simp) (res0_ok rfl) ?_
  refine SX.region ?_
  simp (maxSteps := 1000000) only [go_sem, add_addS, ia_someH, stK_e, Nat.reduceEqDiff, Nat.reduceBEq, ↓reduceIte, reduceCtorEq, Int.reduceEq, Nat.reduceLT, Nat.reduceLeDiff, Nat.reduceAdd, Nat.reduceMul, Nat.reduceSub, Int.reduceToNat, Int.reduceLT, Int.reduceLE, Int.reduceAdd, Int.reduceSub, Int.reduceMul, Int.reduceNeg, Nat.reducePow, Int.reducePow, hP, wn8, wn16]
  refine ⟨i, _, _, _, hi, by simp [Ord.cells], .inr (Nat.zero_le _), ?_⟩
  try simp (maxSteps := 1000000) only [go_sem, add_addS, ia_someH, stK_e, Nat.reduceEqDiff, Nat.reduceBEq, ↓reduceIte, reduceCtorEq, Int.reduceEq, Nat.reduceLT, Nat.reduceLeDiff, Nat.reduceAdd, Nat.reduceMul, Nat.reduceSub, Int.reduceToNat, Int.reduceLT, Int.reduceLE, Int.reduceAdd, Int.reduceSub, Int.reduceMul, Int.reduceNeg, Nat.reducePow, Int.reducePow, hP, wn8, wn16]
  simp only [andThen_normal, andThen_ret, andThen_exit, inBlk_normal, inBlk_ret, inBlk_exit, Nat.reduceEqDiff, if_true, if_false, ↓reduceIte, retQ_normal]
  try simp only [go_sem, add_addS, ia_someH, stK_e, Nat.reduceEqDiff, Nat.reduceBEq, ↓reduceIte, reduceCtorEq, Int.reduceEq, Nat.reduceLT, Nat.reduceLeDiff, Nat.reduceAdd, Nat.reduceMul, Nat.reduceSub, Int.reduceToNat, Int.reduceLT, Int.reduceLE, Int.reduceAdd, Int.reduceSub, Int.reduceMul, Int.reduceNeg, Nat.reducePow, Int.reducePow, res0, res1, res2, res3, hP]
  exact ⟨_, _, Less.refl _, rfl, rfl, rfl⟩
set_option maxHeartbeats 1000000 in
set_option maxRecDepth 100000 in
theorem get_b {Γ : Ctx} (hP : Γ.P = Tryd.prog) {L : Hp} {g : Nat} {o : Ord} (ho : OkO o) (hc : ∀ k u, o.cells[k]? = some u → Cell Γ L ⟨g, k, none⟩ u) :
    SCall Γ 39 #[(.pointer (some ⟨g, 0, none⟩))] L (fun v L' => v = .int .i64 (o.b : Int) ∧ L' = L) := by
  refine SCall.enter (n := 8) (res1 2) (hP ▸ Tryd.func39) rfl rfl (by simp) (res1_ok rfl) ?_
  refine SX.seq_k fun K1 hK1 => ?_
  refine SX.region ?_
  simp (maxSteps := 1000000) only [go_sem, add_addS, ia_someH, stK_e, Nat.reduceEqDiff, Nat.reduceBEq, ↓reduceIte, reduceCtorEq, Int.reduceEq, Nat.reduceLT, Nat.reduceLeDiff, Nat.reduceAdd, Nat.reduceMul, Nat.reduceSub, Int.reduceToNat, Int.reduceLT, Int.reduceLE, Int.reduceAdd, Int.reduceSub, Int.reduceMul, Int.reduceNeg, Nat.reducePow, Int.reducePow, hP]
  refine hK1 _ _ ?_
  try clear hK1 K1
  refine SX.seq_k fun K2 hK2 => ?_
  have hw : IntKind.i64.wrap (o.b : Int) = (o.b : Int) := w64 (by have := ho.b; omega)
  refine SX.region ?_
  simp (maxSteps := 1000000) only [go_sem, add_addS, ia_someH, stK_e, Nat.reduceEqDiff, Nat.reduceBEq, ↓reduceIte, reduceCtorEq, Int.reduceEq, Nat.reduceLT, Nat.reduceLeDiff, Nat.reduceAdd, Nat.reduceMul, Nat.reduceSub, Int.reduceToNat, Int.reduceLT, Int.reduceLE, Int.reduceAdd, Int.reduceSub, Int.reduceMul, Int.reduceNeg, Nat.reducePow, Int.reducePow, hP, hw]
  refine ⟨_, hc 4 _ rfl, ?_⟩
  try simp (maxSteps := 1000000) only [go_sem, add_addS, ia_someH, stK_e, Nat.reduceEqDiff, Nat.reduceBEq, ↓reduceIte, reduceCtorEq, Int.reduceEq, Nat.reduceLT, Nat.reduceLeDiff, Nat.reduceAdd, Nat.reduceMul, Nat.reduceSub, Int.reduceToNat, Int.reduceLT, Int.reduceLE, Int.reduceAdd, Int.reduceSub, Int.reduceMul, Int.reduceNeg, Nat.reducePow, Int.reducePow, hP, hw]
  refine hK2 _ _ ?_
  try clear hK2 K2
  refine SX.ret ?_
  simp only [andThen_normal, andThen_ret, andThen_exit, inBlk_normal, inBlk_ret, inBlk_exit, Nat.reduceEqDiff, if_true, if_false, ↓reduceIte, retQ_ret]
  try simp only [go_sem, add_addS, ia_someH, stK_e, Nat.reduceEqDiff, Nat.reduceBEq, ↓reduceIte, reduceCtorEq, Int.reduceEq, Nat.reduceLT, Nat.reduceLeDiff, Nat.reduceAdd, Nat.reduceMul, Nat.reduceSub, Int.reduceToNat, Int.reduceLT, Int.reduceLE, Int.reduceAdd, Int.reduceSub, Int.reduceMul, Int.reduceNeg, Nat.reducePow, Int.reducePow, res0, res1, res2, res3, hP]
  exact ⟨_, L, (by first | exact Less.refl _ | exact Less.drop _ _ | exact Less.drops (Less.drop _ _) | exact Less.drops (Less.drops (Less.drop _ _)) | exact Less.drops (Less.drops (Less.drops (Less.drop _ _))) | exact Less.drops (Less.drops (Less.drops (Less.drops (Less.drop _ _))))), rfl, rfl, rfl⟩
set_option maxHeartbeats 1000000 in
set_option maxRecDepth 100000 in
theorem put_b {Γ : Ctx} (hP : Γ.P = Tryd.prog) {L : Hp} {g i k : Nat} {o : Ord} (hi : L[i]? = some (some (g, .cells o.cells.toArray 25 (0, 0)))) :
    SCall Γ 40 #[(.pointer (some ⟨g, 0, none⟩)), (.int .i64 (k : Int))] L (fun v L' => v = .tuple #[] ∧ L' = L.set i (some (g, .cells (Fd.b.into o k).cells.toArray 25 (0, 0)))) := by
  refine SCall.enter (n := 9) (res0) (hP ▸ Tryd.func40) rfl rfl (by simp) (res0_ok rfl) ?_
  refine SX.region ?_
  simp (maxSteps := 1000000) only [go_sem, add_addS, ia_someH, stK_e, Nat.reduceEqDiff, Nat.reduceBEq, ↓reduceIte, reduceCtorEq, Int.reduceEq, Nat.reduceLT, Nat.reduceLeDiff, Nat.reduceAdd, Nat.reduceMul, Nat.reduceSub, Int.reduceToNat, Int.reduceLT, Int.reduceLE, Int.reduceAdd, Int.reduceSub, Int.reduceMul, Int.reduceNeg, Nat.reducePow, Int.reducePow, hP, wn8, wn16]
  refine ⟨i, _, _, _, hi, by simp [Ord.cells], .inr (Nat.zero_le _), ?_⟩
  try simp (maxSteps := 1000000) only [go_sem, add_addS, ia_someH, stK_e, Nat.reduceEqDiff, Nat.reduceBEq, ↓reduceIte, reduceCtorEq, Int.reduceEq, Nat.reduceLT, Nat.reduceLeDiff, Nat.reduceAdd, Nat.reduceMul, Nat.reduceSub, Int.reduceToNat, Int.reduceLT, Int.reduceLE, Int.reduceAdd, Int.reduceSub, Int.reduceMul, Int.reduceNeg, Nat.reducePow, Int.reducePow, hP, wn8, wn16]
  simp only [andThen_normal, andThen_ret, andThen_exit, inBlk_normal, inBlk_ret, inBlk_exit, Nat.reduceEqDiff, if_true, if_false, ↓reduceIte, retQ_normal]
  try simp only [go_sem, add_addS, ia_someH, stK_e, Nat.reduceEqDiff, Nat.reduceBEq, ↓reduceIte, reduceCtorEq, Int.reduceEq, Nat.reduceLT, Nat.reduceLeDiff, Nat.reduceAdd, Nat.reduceMul, Nat.reduceSub, Int.reduceToNat, Int.reduceLT, Int.reduceLE, Int.reduceAdd, Int.reduceSub, Int.reduceMul, Int.reduceNeg, Nat.reducePow, Int.reducePow, res0, res1, res2, res3, hP]
  exact ⟨_, _, Less.refl _, rfl, rfl, rfl⟩
set_option maxHeartbeats 1000000 in
set_option maxRecDepth 100000 in
theorem get_a {Γ : Ctx} (hP : Γ.P = Tryd.prog) {L : Hp} {g : Nat} {o : Ord} (ho : OkO o) (hc : ∀ k u, o.cells[k]? = some u → Cell Γ L ⟨g, k, none⟩ u) :
    SCall Γ 41 #[(.pointer (some ⟨g, 0, none⟩))] L (fun v L' => v = .int .i64 (o.a : Int) ∧ L' = L) := by
  refine SCall.enter (n := 8) (res1 2) (hP ▸ Tryd.func41) rfl rfl (by simp) (res1_ok rfl) ?_
  refine SX.seq_k fun K1 hK1 => ?_
  refine SX.region ?_
  simp (maxSteps := 1000000) only [go_sem, add_addS, ia_someH, stK_e, Nat.reduceEqDiff, Nat.reduceBEq, ↓reduceIte, reduceCtorEq, Int.reduceEq, Nat.reduceLT, Nat.reduceLeDiff, Nat.reduceAdd, Nat.reduceMul, Nat.reduceSub, Int.reduceToNat, Int.reduceLT, Int.reduceLE, Int.reduceAdd, Int.reduceSub, Int.reduceMul, Int.reduceNeg, Nat.reducePow, Int.reducePow, hP]
  refine hK1 _ _ ?_
  try clear hK1 K1
  refine SX.seq_k fun K2 hK2 => ?_
  have hw : IntKind.i64.wrap (o.a : Int) = (o.a : Int) := w64 (by have := ho.a; omega)
  refine SX.region ?_
  simp (maxSteps := 1000000) only [go_sem, add_addS, ia_someH, stK_e, Nat.reduceEqDiff, Nat.reduceBEq, ↓reduceIte, reduceCtorEq, Int.reduceEq, Nat.reduceLT, Nat.reduceLeDiff, Nat.reduceAdd, Nat.reduceMul, Nat.reduceSub, Int.reduceToNat, Int.reduceLT, Int.reduceLE, Int.reduceAdd, Int.reduceSub, Int.reduceMul, Int.reduceNeg, Nat.reducePow, Int.reducePow, hP, hw]
  refine ⟨_, hc 5 _ rfl, ?_⟩
  try simp (maxSteps := 1000000) only [go_sem, add_addS, ia_someH, stK_e, Nat.reduceEqDiff, Nat.reduceBEq, ↓reduceIte, reduceCtorEq, Int.reduceEq, Nat.reduceLT, Nat.reduceLeDiff, Nat.reduceAdd, Nat.reduceMul, Nat.reduceSub, Int.reduceToNat, Int.reduceLT, Int.reduceLE, Int.reduceAdd, Int.reduceSub, Int.reduceMul, Int.reduceNeg, Nat.reducePow, Int.reducePow, hP, hw]
  refine hK2 _ _ ?_
  try clear hK2 K2
  refine SX.ret ?_
  simp only [andThen_normal, andThen_ret, andThen_exit, inBlk_normal, inBlk_ret, inBlk_exit, Nat.reduceEqDiff, if_true, if_false, ↓reduceIte, retQ_ret]
  try simp only [go_sem, add_addS, ia_someH, stK_e, Nat.reduceEqDiff, Nat.reduceBEq, ↓reduceIte, reduceCtorEq, Int.reduceEq, Nat.reduceLT, Nat.reduceLeDiff, Nat.reduceAdd, Nat.reduceMul, Nat.reduceSub, Int.reduceToNat, Int.reduceLT, Int.reduceLE, Int.reduceAdd, Int.reduceSub, Int.reduceMul, Int.reduceNeg, Nat.reducePow, Int.reducePow, res0, res1, res2, res3, hP]
  exact ⟨_, L, (by first | exact Less.refl _ | exact Less.drop _ _ | exact Less.drops (Less.drop _ _) | exact Less.drops (Less.drops (Less.drop _ _)) | exact Less.drops (Less.drops (Less.drops (Less.drop _ _))) | exact Less.drops (Less.drops (Less.drops (Less.drops (Less.drop _ _))))), rfl, rfl, rfl⟩
set_option maxHeartbeats 1000000 in
set_option maxRecDepth 100000 in
theorem put_a {Γ : Ctx} (hP : Γ.P = Tryd.prog) {L : Hp} {g i k : Nat} {o : Ord} (hi : L[i]? = some (some (g, .cells o.cells.toArray 25 (0, 0)))) :
    SCall Γ 42 #[(.pointer (some ⟨g, 0, none⟩)), (.int .i64 (k : Int))] L (fun v L' => v = .tuple #[] ∧ L' = L.set i (some (g, .cells (Fd.a.into o k).cells.toArray 25 (0, 0)))) := by
  refine SCall.enter (n := 9) (res0) (hP ▸ Tryd.func42) rfl rfl (by simp) (res0_ok rfl) ?_
  refine SX.region ?_
  simp (maxSteps := 1000000) only [go_sem, add_addS, ia_someH, stK_e, Nat.reduceEqDiff, Nat.reduceBEq, ↓reduceIte, reduceCtorEq, Int.reduceEq, Nat.reduceLT, Nat.reduceLeDiff, Nat.reduceAdd, Nat.reduceMul, Nat.reduceSub, Int.reduceToNat, Int.reduceLT, Int.reduceLE, Int.reduceAdd, Int.reduceSub, Int.reduceMul, Int.reduceNeg, Nat.reducePow, Int.reducePow, hP, wn8, wn16]
  refine ⟨i, _, _, _, hi, by simp [Ord.cells], .inr (Nat.zero_le _), ?_⟩
  try simp (maxSteps := 1000000) only [go_sem, add_addS, ia_someH, stK_e, Nat.reduceEqDiff, Nat.reduceBEq, ↓reduceIte, reduceCtorEq, Int.reduceEq, Nat.reduceLT, Nat.reduceLeDiff, Nat.reduceAdd, Nat.reduceMul, Nat.reduceSub, Int.reduceToNat, Int.reduceLT, Int.reduceLE, Int.reduceAdd, Int.reduceSub, Int.reduceMul, Int.reduceNeg, Nat.reducePow, Int.reducePow, hP, wn8, wn16]
  simp only [andThen_normal, andThen_ret, andThen_exit, inBlk_normal, inBlk_ret, inBlk_exit, Nat.reduceEqDiff, if_true, if_false, ↓reduceIte, retQ_normal]
  try simp only [go_sem, add_addS, ia_someH, stK_e, Nat.reduceEqDiff, Nat.reduceBEq, ↓reduceIte, reduceCtorEq, Int.reduceEq, Nat.reduceLT, Nat.reduceLeDiff, Nat.reduceAdd, Nat.reduceMul, Nat.reduceSub, Int.reduceToNat, Int.reduceLT, Int.reduceLE, Int.reduceAdd, Int.reduceSub, Int.reduceMul, Int.reduceNeg, Nat.reducePow, Int.reducePow, res0, res1, res2, res3, hP]
  exact ⟨_, _, Less.refl _, rfl, rfl, rfl⟩

theorem get_spec {Γ : Ctx} (hP : Γ.P = Tryd.prog) {L : Hp} {g : Nat} {o : Ord} (f : Fd) (ho : OkO o) (hc : ∀ k u, o.cells[k]? = some u → Cell Γ L ⟨g, k, none⟩ u) : SCall Γ f.get #[.pointer (some ⟨g, 0, none⟩)] L (fun v L' => v = .int .i64 ((f.of o : Nat) : Int) ∧ L' = L) := by
  cases f
  · exact get_x hP ho hc
  · exact get_y hP ho hc
  · exact get_n hP ho hc
  · exact get_b hP ho hc
  · exact get_a hP ho hc
theorem put_spec {Γ : Ctx} (hP : Γ.P = Tryd.prog) {L : Hp} {g i k : Nat} {o : Ord} (f : Fd) (hi : L[i]? = some (some (g, .cells o.cells.toArray 25 (0, 0)))) : SCall Γ f.put #[.pointer (some ⟨g, 0, none⟩), .int .i64 (k : Int)] L (fun v L' => v = .tuple #[] ∧ L' = L.set i (some (g, .cells (f.into o k).cells.toArray 25 (0, 0)))) := by
  cases f
  · exact put_x hP hi
  · exact put_y hP hi
  · exact put_n hP hi
  · exact put_b hP hi
  · exact put_a hP hi
def rowOf (w : Nat) : Option RowT := table.find? fun r => decide (w &&& r.mask = r.word)
def RowT.cells (r : RowT) (fv : Value) : List Value := [.int .u8 (r.op : Int), .int .u16 (r.mask : Int), .int .u16 (r.word : Int), .string r.name, fv]
def zeroR : List Value := [.int .u8 0, .int .u16 0, .int .u16 0, .string ⟨#[]⟩, .slice none 0 0]
theorem find_at {p : RowT → Bool} {k : Nat} {r : RowT} (hk : table[k]? = some r) (hp : p r = true) (hl : ∀ j, j < k → ∀ r', table[j]? = some r' → p r' = false) : table.find? p = some r := by
  rw [List.find?_eq_some_iff_getElem]
  obtain ⟨h1, h2⟩ := List.getElem?_eq_some_iff.1 hk
  exact ⟨hp, k, h1, h2, fun j hj => by rw [hl j hj _ (List.getElem?_eq_getElem (by omega))]; rfl⟩
theorem find_no {p : RowT → Bool} (hl : ∀ j, j < 31 → ∀ r', table[j]? = some r' → p r' = false) : table.find? p = none := by
  rw [List.find?_eq_none]
  intro r hr
  obtain ⟨j, hj⟩ := List.mem_iff_getElem?.1 hr
  rw [hl j (by have := (List.getElem?_eq_some_iff.1 hj).1; exact this) r hj]
  decide
theorem table_ok : (table.all fun r => decide (r.op < 256) && decide (r.mask < 65536) && decide (r.word < 65536) && decide (r.fs.length ≤ 3)) = true := by kernel_rfl
theorem table_in {j : Nat} {r : RowT} (h : table[j]? = some r) : r.op < 256 ∧ r.mask < 65536 ∧ r.word < 65536 ∧ r.fs.length ≤ 3 := by
  have := List.all_eq_true.1 table_ok r (List.mem_iff_getElem?.2 ⟨j, h⟩)
  simp only [Bool.and_eq_true, decide_eq_true_eq] at this
  omega
def rowOfR (Γ : Ctx) (w : Nat) (L : Hp) (v : Value) (L' : Hp) : Prop :=
  match rowOf w with
  | some r => ∃ H fv, v = .tuple #[.agg (r.cells fv).toArray, .bool true] ∧ L' = H ++ L ∧ ∀ K : Hp, SlS 5 Fd.cells (Cell Γ (H ++ K)) fv r.fs
  | none => v = .tuple #[.agg zeroR.toArray, .bool false] ∧ L' = L
set_option maxHeartbeats 1000000 in
set_option maxRecDepth 100000 in
theorem rowOf_spec {Γ : Ctx} (hP : Γ.P = Tryd.prog) {L : Hp} {w : Nat} (hw : w < 65536) :
    SCall Γ 17 #[(.int .u16 (w : Int))] L (rowOfR Γ w L) := by
  refine SCall.enter (n := 22) (resX Γ [.cell 2 58, .tmp 3]) (hP ▸ Tryd.func17) rfl rfl (by simp) (resX_ok rfl) ?_
  refine SX.seq_k fun K1 hK1 => ?_
  refine SX.region ?_
  simp (maxSteps := 1000000) only [go_sem, add_addS, ia_someH, stK_e, Nat.reduceEqDiff, Nat.reduceBEq, ↓reduceIte, reduceCtorEq, Int.reduceEq, Nat.reduceLT, Nat.reduceLeDiff, Nat.reduceAdd, Nat.reduceMul, Nat.reduceSub, Int.reduceToNat, Int.reduceLT, Int.reduceLE, Int.reduceAdd, Int.reduceSub, Int.reduceMul, Int.reduceNeg, Nat.reducePow, Int.reducePow, hP]
  intro g2
  refine hK1 _ _ ?_
  try clear hK1 K1
  refine SX.seq_k fun K2 hK2 => ?_
  refine SX.seq_k fun K3 hK3 => ?_
  refine SX.region ?_
  simp (maxSteps := 1000000) only [go_sem, add_addS, ia_someH, stK_e, Nat.reduceEqDiff, Nat.reduceBEq, ↓reduceIte, reduceCtorEq, Int.reduceEq, Nat.reduceLT, Nat.reduceLeDiff, Nat.reduceAdd, Nat.reduceMul, Nat.reduceSub, Int.reduceToNat, Int.reduceLT, Int.reduceLE, Int.reduceAdd, Int.reduceSub, Int.reduceMul, Int.reduceNeg, Nat.reducePow, Int.reducePow, hP]
  refine SCall.mono (rows_spec hP) ?_
  rintro v_ L_ ⟨H, a, rfl, rfl, hrow⟩
  try simp (maxSteps := 1000000) only [go_sem, add_addS, ia_someH, stK_e, Nat.reduceEqDiff, Nat.reduceBEq, ↓reduceIte, reduceCtorEq, Int.reduceEq, Nat.reduceLT, Nat.reduceLeDiff, Nat.reduceAdd, Nat.reduceMul, Nat.reduceSub, Int.reduceToNat, Int.reduceLT, Int.reduceLE, Int.reduceAdd, Int.reduceSub, Int.reduceMul, Int.reduceNeg, Nat.reducePow, Int.reducePow, hP]
  refine hK3 _ _ ?_
  try clear hK3 K3
  refine SX.block ?_
  refine SX.live [0, 2, 6, 7, 8] (fun T1 hT1 => ?_)
  simp only [go_sem, add_addS, ia_someH, stK_e, Nat.reduceEqDiff, Nat.reduceBEq, ↓reduceIte, reduceCtorEq, Int.reduceEq, Nat.reduceLT, Nat.reduceLeDiff, Nat.reduceAdd, Nat.reduceMul, Nat.reduceSub, Int.reduceToNat, Int.reduceLT, Int.reduceLE, Int.reduceAdd, Int.reduceSub, Int.reduceMul, Int.reduceNeg, Nat.reducePow, Int.reducePow, forall_mem_cons', forall_mem_nil', hP] at hT1
  obtain ⟨h1_0, h1_2, h1_6, h1_7, h1_8⟩ := hT1
  refine SX.loop_k (fun (ss : (Nat)) T L' => (fun (k : Nat) => T 8 = .int .i64 (k : Int) ∧ T 0 = T1 0 ∧ T 2 = T1 2 ∧ T 6 = T1 6 ∧ T 7 = T1 7 ∧ L' = H ++ some (g2, .cells ([.int .u8 0, .int .u16 0, .int .u16 0, .string ⟨#[]⟩, .slice none 0 0]).toArray 58 (0, 0)) :: L ∧ (k ≤ 31 ∧ ∀ j, j < k → ∀ r', table[j]? = some r' → (decide (w &&& r'.mask = r'.word)) = false)) (ss)) (fun (ss : (Nat)) => (fun (k : Nat) => 31 - k) (ss)) 0 ?_ ?_
  · try dsimp only
    refine ⟨?_, ?_, ?_, ?_, ?_, ?_, ?_⟩
    · first | exact h1_8 | (rw [h1_8]; rfl) | (rw [h1_8]; simp; done)
    · rfl
    · rfl
    · rfl
    · rfl
    · rfl
    · exact ⟨Nat.zero_le _, fun j hj => absurd hj (Nat.not_lt_zero _)⟩
  · intro k T2 L2 hI K4 hK4
    try dsimp only at hI hK4
    simp only [h1_0, h1_2, h1_6, h1_7] at hI hK4
    obtain ⟨h2_8, h2_0, h2_2, h2_6, h2_7, hL2, ⟨hk, hno⟩⟩ := hI
    replace hL2 := hL2.symm
    subst hL2
    clear h1_0 h1_2 h1_6 h1_7 h1_8 T1
    refine SX.seq_k fun K5 hK5 => ?_
    refine SX.region ?_
    simp (maxSteps := 1000000) only [go_sem, add_addS, ia_someH, stK_e, Nat.reduceEqDiff, Nat.reduceBEq, ↓reduceIte, reduceCtorEq, Int.reduceEq, Nat.reduceLT, Nat.reduceLeDiff, Nat.reduceAdd, Nat.reduceMul, Nat.reduceSub, Int.reduceToNat, Int.reduceLT, Int.reduceLE, Int.reduceAdd, Int.reduceSub, Int.reduceMul, Int.reduceNeg, Nat.reducePow, Int.reducePow, hP, h2_8, h2_0, h2_2, h2_6, h2_7]
    refine hK5 _ _ ?_
    try clear hK5 K5
    refine SX.seq_k fun K6 hK6 => ?_
    refine SX.cond_k fun X7 Y7 hX7 hY7 => ?_
    simp (maxSteps := 1000000) only [go_sem, add_addS, ia_someH, stK_e, Nat.reduceEqDiff, Nat.reduceBEq, ↓reduceIte, reduceCtorEq, Int.reduceEq, Nat.reduceLT, Nat.reduceLeDiff, Nat.reduceAdd, Nat.reduceMul, Nat.reduceSub, Int.reduceToNat, Int.reduceLT, Int.reduceLE, Int.reduceAdd, Int.reduceSub, Int.reduceMul, Int.reduceNeg, Nat.reducePow, Int.reducePow, hP, h2_8, h2_0, h2_2, h2_6, h2_7, condVC]
    refine ⟨fun hc9 => hX7 ?_, fun hc9 => hY7 ?_⟩
    · clear hX7 hY7 X7 Y7
      refine SX.skip ?_
      try simp only [andThen_normal, andThen_ret, andThen_exit, inBlk_normal, inBlk_ret, inBlk_exit, Nat.reduceEqDiff, if_true, if_false, reduceIte]
      refine hK6 _ _ ?_
      try clear hK6 K6
      refine SX.seq_k fun K8 hK8 => ?_
      refine SX.block ?_
      refine SX.seq_k fun K9 hK9 => ?_
      have hkl : k < 31 := by omega
      have hk0 : table[k]? = some table[k] := List.getElem?_eq_getElem hkl
      obtain ⟨fv, hfv⟩ := hrow k _ hk0
      have hti := table_in hk0
      generalize table[k] = r at hk0 hfv hti
      obtain ⟨c0, c1, c2, c3, c4, hfs⟩ := hfv (some (g2, .cells zeroR.toArray 58 (0, 0)) :: L)
      simp only [add_addS] at c1 c2 c3 c4
      obtain ⟨FA, fc, hfe, hfc, hfA⟩ := id hfs
      subst hfe
      refine SX.region ?_
      simp (maxSteps := 1000000) only [go_sem, add_addS, ia_someH, stK_e, Nat.reduceEqDiff, Nat.reduceBEq, ↓reduceIte, reduceCtorEq, Int.reduceEq, Nat.reduceLT, Nat.reduceLeDiff, Nat.reduceAdd, Nat.reduceMul, Nat.reduceSub, Int.reduceToNat, Int.reduceLT, Int.reduceLE, Int.reduceAdd, Int.reduceSub, Int.reduceMul, Int.reduceNeg, Nat.reducePow, Int.reducePow, hP, h2_8, h2_0, h2_2, h2_6, h2_7]
      refine ⟨⟨by omega, by omega⟩, _, c0, _, c1, _, c2, _, c3, _, c4, ?_⟩
      try simp (maxSteps := 1000000) only [go_sem, add_addS, ia_someH, stK_e, Nat.reduceEqDiff, Nat.reduceBEq, ↓reduceIte, reduceCtorEq, Int.reduceEq, Nat.reduceLT, Nat.reduceLeDiff, Nat.reduceAdd, Nat.reduceMul, Nat.reduceSub, Int.reduceToNat, Int.reduceLT, Int.reduceLE, Int.reduceAdd, Int.reduceSub, Int.reduceMul, Int.reduceNeg, Nat.reducePow, Int.reducePow, hP, h2_8, h2_0, h2_2, h2_6, h2_7]
      intro g5
      refine ⟨0, _, _, _, rfl, by decide, .inr (by decide), ?_⟩
      try simp (maxSteps := 1000000) only [go_sem, add_addS, ia_someH, stK_e, Nat.reduceEqDiff, Nat.reduceBEq, ↓reduceIte, reduceCtorEq, Int.reduceEq, Nat.reduceLT, Nat.reduceLeDiff, Nat.reduceAdd, Nat.reduceMul, Nat.reduceSub, Int.reduceToNat, Int.reduceLT, Int.reduceLE, Int.reduceAdd, Int.reduceSub, Int.reduceMul, Int.reduceNeg, Nat.reducePow, Int.reducePow, hP, h2_8, h2_0, h2_2, h2_6, h2_7]
      refine hK9 _ _ ?_
      try clear hK9 K9
      refine SX.seq_k fun K10 hK10 => ?_
      have hand := u16_and_nat w r.mask hw hti.2.1
      refine SX.region ?_
      simp (maxSteps := 1000000) only [go_sem, add_addS, ia_someH, stK_e, Nat.reduceEqDiff, Nat.reduceBEq, ↓reduceIte, reduceCtorEq, Int.reduceEq, Nat.reduceLT, Nat.reduceLeDiff, Nat.reduceAdd, Nat.reduceMul, Nat.reduceSub, Int.reduceToNat, Int.reduceLT, Int.reduceLE, Int.reduceAdd, Int.reduceSub, Int.reduceMul, Int.reduceNeg, Nat.reducePow, Int.reducePow, bin_eqla, hP, h2_8, h2_0, h2_2, h2_6, h2_7, hand]
      refine ⟨_, Cell.at 0 rfl rfl, ?_⟩
      try simp (maxSteps := 1000000) only [go_sem, add_addS, ia_someH, stK_e, Nat.reduceEqDiff, Nat.reduceBEq, ↓reduceIte, reduceCtorEq, Int.reduceEq, Nat.reduceLT, Nat.reduceLeDiff, Nat.reduceAdd, Nat.reduceMul, Nat.reduceSub, Int.reduceToNat, Int.reduceLT, Int.reduceLE, Int.reduceAdd, Int.reduceSub, Int.reduceMul, Int.reduceNeg, Nat.reducePow, Int.reducePow, bin_eqla, hP, h2_8, h2_0, h2_2, h2_6, h2_7, hand]
      refine ⟨_, Cell.at 0 rfl rfl, ?_⟩
      try simp (maxSteps := 1000000) only [go_sem, add_addS, ia_someH, stK_e, Nat.reduceEqDiff, Nat.reduceBEq, ↓reduceIte, reduceCtorEq, Int.reduceEq, Nat.reduceLT, Nat.reduceLeDiff, Nat.reduceAdd, Nat.reduceMul, Nat.reduceSub, Int.reduceToNat, Int.reduceLT, Int.reduceLE, Int.reduceAdd, Int.reduceSub, Int.reduceMul, Int.reduceNeg, Nat.reducePow, Int.reducePow, bin_eqla, hP, h2_8, h2_0, h2_2, h2_6, h2_7, hand]
      refine hK10 _ _ ?_
      try clear hK10 K10
      refine SX.live [0, 2, 5, 6, 7, 8, 18] (fun T3 hT3 => ?_)
      simp only [go_sem, add_addS, ia_someH, stK_e, Nat.reduceEqDiff, Nat.reduceBEq, ↓reduceIte, reduceCtorEq, Int.reduceEq, Nat.reduceLT, Nat.reduceLeDiff, Nat.reduceAdd, Nat.reduceMul, Nat.reduceSub, Int.reduceToNat, Int.reduceLT, Int.reduceLE, Int.reduceAdd, Int.reduceSub, Int.reduceMul, Int.reduceNeg, Nat.reducePow, Int.reducePow, forall_mem_cons', forall_mem_nil', hP, h2_8, h2_0, h2_2, h2_6, h2_7] at hT3
      obtain ⟨h3_0, h3_2, h3_5, h3_6, h3_7, h3_8, h3_18⟩ := hT3
      clear h2_8 h2_0 h2_2 h2_6 h2_7 T2
      refine SX.cond_k fun X11 Y11 hX11 hY11 => ?_
      simp (maxSteps := 1000000) only [go_sem, add_addS, ia_someH, stK_e, Nat.reduceEqDiff, Nat.reduceBEq, ↓reduceIte, reduceCtorEq, Int.reduceEq, Nat.reduceLT, Nat.reduceLeDiff, Nat.reduceAdd, Nat.reduceMul, Nat.reduceSub, Int.reduceToNat, Int.reduceLT, Int.reduceLE, Int.reduceAdd, Int.reduceSub, Int.reduceMul, Int.reduceNeg, Nat.reducePow, Int.reducePow, hP, h3_0, h3_2, h3_5, h3_6, h3_7, h3_8, h3_18, condVC]
      refine ⟨fun hc18 => hX11 ?_, fun hc18 => hY11 ?_⟩
      · clear hX11 hY11 X11 Y11
        refine SX.seq_k fun K12 hK12 => ?_
        refine SX.region ?_
        simp (maxSteps := 1000000) only [go_sem, add_addS, ia_someH, stK_e, Nat.reduceEqDiff, Nat.reduceBEq, ↓reduceIte, reduceCtorEq, Int.reduceEq, Nat.reduceLT, Nat.reduceLeDiff, Nat.reduceAdd, Nat.reduceMul, Nat.reduceSub, Int.reduceToNat, Int.reduceLT, Int.reduceLE, Int.reduceAdd, Int.reduceSub, Int.reduceMul, Int.reduceNeg, Nat.reducePow, Int.reducePow, hP, h3_0, h3_2, h3_5, h3_6, h3_7, h3_8, h3_18]
        refine ⟨_, Cell.at 0 rfl rfl, _, Cell.at 0 rfl rfl, _, Cell.at 0 rfl rfl, _, Cell.at 0 rfl rfl, _, Cell.at 0 rfl rfl, ?_⟩
        try simp (maxSteps := 1000000) only [go_sem, add_addS, ia_someH, stK_e, Nat.reduceEqDiff, Nat.reduceBEq, ↓reduceIte, reduceCtorEq, Int.reduceEq, Nat.reduceLT, Nat.reduceLeDiff, Nat.reduceAdd, Nat.reduceMul, Nat.reduceSub, Int.reduceToNat, Int.reduceLT, Int.reduceLE, Int.reduceAdd, Int.reduceSub, Int.reduceMul, Int.reduceNeg, Nat.reducePow, Int.reducePow, hP, h3_0, h3_2, h3_5, h3_6, h3_7, h3_8, h3_18]
        refine ⟨H.length + 1, _, _, _, by rw [List.getElem?_cons_succ]; exact get_mid _ _ _, by decide, .inr (Nat.zero_le _), ?_⟩
        try simp (maxSteps := 1000000) only [go_sem, add_addS, ia_someH, stK_e, Nat.reduceEqDiff, Nat.reduceBEq, ↓reduceIte, reduceCtorEq, Int.reduceEq, Nat.reduceLT, Nat.reduceLeDiff, Nat.reduceAdd, Nat.reduceMul, Nat.reduceSub, Int.reduceToNat, Int.reduceLT, Int.reduceLE, Int.reduceAdd, Int.reduceSub, Int.reduceMul, Int.reduceNeg, Nat.reducePow, Int.reducePow, hP, h3_0, h3_2, h3_5, h3_6, h3_7, h3_8, h3_18]
        rw [set_mid1]
        refine hK12 _ _ ?_
        try clear hK12 K12
        refine SX.ret ?_
        simp only [andThen_normal, andThen_ret, andThen_exit, inBlk_normal, inBlk_ret, inBlk_exit, Nat.reduceEqDiff, if_true, if_false, ↓reduceIte, retQ_ret]
        try simp only [go_sem, add_addS, ia_someH, stK_e, Nat.reduceEqDiff, Nat.reduceBEq, ↓reduceIte, reduceCtorEq, Int.reduceEq, Nat.reduceLT, Nat.reduceLeDiff, Nat.reduceAdd, Nat.reduceMul, Nat.reduceSub, Int.reduceToNat, Int.reduceLT, Int.reduceLE, Int.reduceAdd, Int.reduceSub, Int.reduceMul, Int.reduceNeg, Nat.reducePow, Int.reducePow, res0, res1, res2, res3, resX, resK, oneOr, hP, h3_0, h3_2, h3_5, h3_6, h3_7, h3_8, h3_18]
        refine ⟨_, H ++ L, Less.sublist (List.Sublist.cons _ ((List.sublist_cons_self _ _).append_left H)), ⟨_, Cell.at (H.length + 1) (by first | exact get_mid _ _ _ | (rw [List.getElem?_cons_succ]; exact get_mid _ _ _)) rfl, _, Cell.at (H.length + 1) (by first | exact get_mid _ _ _ | (rw [List.getElem?_cons_succ]; exact get_mid _ _ _)) rfl, _, Cell.at (H.length + 1) (by first | exact get_mid _ _ _ | (rw [List.getElem?_cons_succ]; exact get_mid _ _ _)) rfl, _, Cell.at (H.length + 1) (by first | exact get_mid _ _ _ | (rw [List.getElem?_cons_succ]; exact get_mid _ _ _)) rfl, _, Cell.at (H.length + 1) (by first | exact get_mid _ _ _ | (rw [List.getElem?_cons_succ]; exact get_mid _ _ _)) rfl, rfl⟩, ?_⟩
        unfold rowOfR
        rw [show rowOf w = some r from find_at hk0 (decide_eq_true (by omega)) hno]
        exact ⟨H, _, rfl, rfl, fun K => (hfv K).2.2.2.2.2⟩
      · clear hX11 hY11 X11 Y11
        refine SX.skip ?_
        try simp only [andThen_normal, andThen_ret, andThen_exit, inBlk_normal, inBlk_ret, inBlk_exit, Nat.reduceEqDiff, if_true, if_false, reduceIte]
        refine hK8 _ _ ?_
        try clear hK8 K8
        refine SX.region ?_
        simp (maxSteps := 1000000) only [go_sem, add_addS, ia_someH, stK_e, Nat.reduceEqDiff, Nat.reduceBEq, ↓reduceIte, reduceCtorEq, Int.reduceEq, Nat.reduceLT, Nat.reduceLeDiff, Nat.reduceAdd, Nat.reduceMul, Nat.reduceSub, Int.reduceToNat, Int.reduceLT, Int.reduceLE, Int.reduceAdd, Int.reduceSub, Int.reduceMul, Int.reduceNeg, Nat.reducePow, Int.reducePow, hP, h3_0, h3_2, h3_5, h3_6, h3_7, h3_8, h3_18]
        refine hK4 (k + 1) _ (H ++ some (g2, .cells ([.int .u8 0, .int .u16 0, .int .u16 0, .string ⟨#[]⟩, .slice none 0 0]).toArray 58 (0, 0)) :: L) _ (by first | exact Less.refl _ | exact Less.drop _ _ | exact Less.drops (Less.drop _ _) | exact Less.drops (Less.drops (Less.drop _ _)) | exact Less.drops (Less.drops (Less.drops (Less.drop _ _))) | exact Less.drops (Less.drops (Less.drops (Less.drops (Less.drop _ _))))) ?_ ?_
        · try dsimp only
          refine ⟨?_, ?_, ?_, ?_, ?_, ?_, ?_⟩
          · simp (maxSteps := 1000000) only [go_sem, add_addS, ia_someH, stK_e, Nat.reduceEqDiff, Nat.reduceBEq, ↓reduceIte, reduceCtorEq, Int.reduceEq, Nat.reduceLT, Nat.reduceLeDiff, Nat.reduceAdd, Nat.reduceMul, Nat.reduceSub, Int.reduceToNat, Int.reduceLT, Int.reduceLE, Int.reduceAdd, Int.reduceSub, Int.reduceMul, Int.reduceNeg, Nat.reducePow, Int.reducePow, hP, h3_0, h3_2, h3_5, h3_6, h3_7, h3_8, h3_18]
            rw [inc64 (by omega)]
          · simp (maxSteps := 1000000) only [go_sem, add_addS, ia_someH, stK_e, Nat.reduceEqDiff, Nat.reduceBEq, ↓reduceIte, reduceCtorEq, Int.reduceEq, Nat.reduceLT, Nat.reduceLeDiff, Nat.reduceAdd, Nat.reduceMul, Nat.reduceSub, Int.reduceToNat, Int.reduceLT, Int.reduceLE, Int.reduceAdd, Int.reduceSub, Int.reduceMul, Int.reduceNeg, Nat.reducePow, Int.reducePow, hP, h3_0, h3_2, h3_5, h3_6, h3_7, h3_8, h3_18]
          · simp (maxSteps := 1000000) only [go_sem, add_addS, ia_someH, stK_e, Nat.reduceEqDiff, Nat.reduceBEq, ↓reduceIte, reduceCtorEq, Int.reduceEq, Nat.reduceLT, Nat.reduceLeDiff, Nat.reduceAdd, Nat.reduceMul, Nat.reduceSub, Int.reduceToNat, Int.reduceLT, Int.reduceLE, Int.reduceAdd, Int.reduceSub, Int.reduceMul, Int.reduceNeg, Nat.reducePow, Int.reducePow, hP, h3_0, h3_2, h3_5, h3_6, h3_7, h3_8, h3_18]
          · simp (maxSteps := 1000000) only [go_sem, add_addS, ia_someH, stK_e, Nat.reduceEqDiff, Nat.reduceBEq, ↓reduceIte, reduceCtorEq, Int.reduceEq, Nat.reduceLT, Nat.reduceLeDiff, Nat.reduceAdd, Nat.reduceMul, Nat.reduceSub, Int.reduceToNat, Int.reduceLT, Int.reduceLE, Int.reduceAdd, Int.reduceSub, Int.reduceMul, Int.reduceNeg, Nat.reducePow, Int.reducePow, hP, h3_0, h3_2, h3_5, h3_6, h3_7, h3_8, h3_18]
          · simp (maxSteps := 1000000) only [go_sem, add_addS, ia_someH, stK_e, Nat.reduceEqDiff, Nat.reduceBEq, ↓reduceIte, reduceCtorEq, Int.reduceEq, Nat.reduceLT, Nat.reduceLeDiff, Nat.reduceAdd, Nat.reduceMul, Nat.reduceSub, Int.reduceToNat, Int.reduceLT, Int.reduceLE, Int.reduceAdd, Int.reduceSub, Int.reduceMul, Int.reduceNeg, Nat.reducePow, Int.reducePow, hP, h3_0, h3_2, h3_5, h3_6, h3_7, h3_8, h3_18]
          · rfl
          · refine ⟨by omega, fun j hj r' hr' => ?_⟩
            rcases Nat.lt_succ_iff_lt_or_eq.1 hj with h | rfl
            · exact hno j h r' hr'
            · rw [hk0] at hr'; cases hr'; exact decide_eq_false (by omega)
        · (try dsimp only); omega
    · clear hX7 hY7 X7 Y7
      refine SX.exit ?_
      try simp only [andThen_normal, andThen_ret, andThen_exit, inBlk_normal, inBlk_ret, inBlk_exit, Nat.reduceEqDiff, if_true, if_false, reduceIte]
      refine hK2 _ _ ?_
      try clear hK2 K2
      refine SX.seq_k fun K13 hK13 => ?_
      obtain rfl : k = 31 := by omega
      refine SX.region ?_
      simp (maxSteps := 1000000) only [go_sem, add_addS, ia_someH, stK_e, Nat.reduceEqDiff, Nat.reduceBEq, ↓reduceIte, reduceCtorEq, Int.reduceEq, Nat.reduceLT, Nat.reduceLeDiff, Nat.reduceAdd, Nat.reduceMul, Nat.reduceSub, Int.reduceToNat, Int.reduceLT, Int.reduceLE, Int.reduceAdd, Int.reduceSub, Int.reduceMul, Int.reduceNeg, Nat.reducePow, Int.reducePow, hP, h2_8, h2_0, h2_2, h2_6, h2_7]
      refine ⟨H.length, _, _, _, get_mid _ _ _, by decide, .inr (Nat.zero_le _), ?_⟩
      try simp (maxSteps := 1000000) only [go_sem, add_addS, ia_someH, stK_e, Nat.reduceEqDiff, Nat.reduceBEq, ↓reduceIte, reduceCtorEq, Int.reduceEq, Nat.reduceLT, Nat.reduceLeDiff, Nat.reduceAdd, Nat.reduceMul, Nat.reduceSub, Int.reduceToNat, Int.reduceLT, Int.reduceLE, Int.reduceAdd, Int.reduceSub, Int.reduceMul, Int.reduceNeg, Nat.reducePow, Int.reducePow, hP, h2_8, h2_0, h2_2, h2_6, h2_7]
      rw [set_mid1]
      refine hK13 _ _ ?_
      try clear hK13 K13
      refine SX.ret ?_
      simp only [andThen_normal, andThen_ret, andThen_exit, inBlk_normal, inBlk_ret, inBlk_exit, Nat.reduceEqDiff, if_true, if_false, ↓reduceIte, retQ_ret]
      try simp only [go_sem, add_addS, ia_someH, stK_e, Nat.reduceEqDiff, Nat.reduceBEq, ↓reduceIte, reduceCtorEq, Int.reduceEq, Nat.reduceLT, Nat.reduceLeDiff, Nat.reduceAdd, Nat.reduceMul, Nat.reduceSub, Int.reduceToNat, Int.reduceLT, Int.reduceLE, Int.reduceAdd, Int.reduceSub, Int.reduceMul, Int.reduceNeg, Nat.reducePow, Int.reducePow, res0, res1, res2, res3, resX, resK, oneOr, hP, h2_8, h2_0, h2_2, h2_6, h2_7]
      refine ⟨_, L, (Less.sublist (List.sublist_append_right H _)).trans (Less.drop _ _), ⟨_, Cell.at (H.length) (by first | exact get_mid _ _ _ | (rw [List.getElem?_cons_succ]; exact get_mid _ _ _)) rfl, _, Cell.at (H.length) (by first | exact get_mid _ _ _ | (rw [List.getElem?_cons_succ]; exact get_mid _ _ _)) rfl, _, Cell.at (H.length) (by first | exact get_mid _ _ _ | (rw [List.getElem?_cons_succ]; exact get_mid _ _ _)) rfl, _, Cell.at (H.length) (by first | exact get_mid _ _ _ | (rw [List.getElem?_cons_succ]; exact get_mid _ _ _)) rfl, _, Cell.at (H.length) (by first | exact get_mid _ _ _ | (rw [List.getElem?_cons_succ]; exact get_mid _ _ _)) rfl, rfl⟩, ?_⟩
      unfold rowOfR
      rw [show rowOf w = none from find_no hno]
      exact ⟨rfl, rfl⟩

end Go.Proofs.YthhogfnghaikaaaDoor
