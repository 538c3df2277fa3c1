/- A part of the proof of OpsLinesCardSaid. -/
import Derived.Test.YthhogfnghaikaaaDoorCSxU
set_option linter.unusedVariables false
set_option linter.unusedSimpArgs false
namespace Go.Proofs.YthhogfnghaikaaaDoor
open Go.RowKit Go.SX
open Go.SX renaming add_addS → Φa, ia_someH → Φb
open Nat renaming reduceEqDiff → Φc, reduceBEq → Φd, reduceLT → Φf, reduceLeDiff → Φg, reduceAdd → Φh, reduceMul → Φi, reduceSub → Φj, reducePow → Φr
open Int renaming reduceEq → Φe, reduceToNat → Φk, reduceLT → Φl, reduceLE → Φm, reduceAdd → Φn, reduceSub → Φo, reduceMul → Φp, reduceNeg → Φq, reducePow → Φs
/-! The table of orders. -/

/-- A field of an order: x, y, n, b, a. -/
inductive Fd where
  | x | y | n | b | a
deriving DecidableEq
def Fd.shift : Fd → Nat
  | .x => 8 | .y => 4 | _ => 0
def Fd.dig : Fd → Nat
  | .b => 2 | .a => 3 | _ => 1
def Fd.ahead : Fd → ByteArray
  | .x => ⟨#[118]⟩ | .y => ⟨#[118]⟩ | _ => ⟨#[]⟩
def Fd.get : Fd → Nat
  | .x => 33 | .y => 35 | .n => 37 | .b => 39 | .a => 41
def Fd.put : Fd → Nat
  | .x => 34 | .y => 36 | .n => 38 | .b => 40 | .a => 42
def Fd.cells (f : Fd) : List Value := [.int .i64 (f.shift : Int), .int .i64 (f.dig : Int), .string f.ahead, .func (.func f.get) #[] #[], .func (.func f.put) #[] #[]]
structure RowT where
  op : Nat
  mask : Nat
  word : Nat
  name : ByteArray
  fs : List Fd
def table : List RowT := [
  ⟨2, 65535, 224, ⟨#[99, 108, 101, 97, 114]⟩, []⟩,
  ⟨3, 65535, 238, ⟨#[114, 101, 116, 117, 114, 110]⟩, []⟩,
  ⟨1, 61440, 0, ⟨#[109, 97, 99, 104, 105, 110, 101]⟩, [.a]⟩,
  ⟨4, 61440, 4096, ⟨#[106, 117, 109, 112]⟩, [.a]⟩,
  ⟨5, 61440, 8192, ⟨#[99, 97, 108, 108]⟩, [.a]⟩,
  ⟨6, 61440, 12288, ⟨#[115, 107, 105, 112, 45, 105, 115]⟩, [.x, .b]⟩,
  ⟨7, 61440, 16384, ⟨#[115, 107, 105, 112, 45, 110, 111, 116]⟩, [.x, .b]⟩,
  ⟨8, 61455, 20480, ⟨#[115, 107, 105, 112, 45, 115, 97, 109, 101]⟩, [.x, .y]⟩,
  ⟨9, 61440, 24576, ⟨#[115, 101, 116]⟩, [.x, .b]⟩,
  ⟨10, 61440, 28672, ⟨#[97, 100, 100]⟩, [.x, .b]⟩,
  ⟨11, 61455, 32768, ⟨#[109, 111, 118, 101]⟩, [.x, .y]⟩,
  ⟨12, 61455, 32769, ⟨#[111, 114]⟩, [.x, .y]⟩,
  ⟨13, 61455, 32770, ⟨#[97, 110, 100]⟩, [.x, .y]⟩,
  ⟨14, 61455, 32772, ⟨#[112, 108, 117, 115]⟩, [.x, .y]⟩,
  ⟨15, 61455, 32773, ⟨#[109, 105, 110, 117, 115]⟩, [.x, .y]⟩,
  ⟨16, 61455, 36864, ⟨#[115, 107, 105, 112, 45, 111, 116, 104, 101, 114]⟩, [.x, .y]⟩,
  ⟨17, 61440, 40960, ⟨#[112, 111, 105, 110, 116]⟩, [.a]⟩,
  ⟨18, 61440, 45056, ⟨#[106, 117, 109, 112, 45, 98, 121]⟩, [.a]⟩,
  ⟨19, 61440, 49152, ⟨#[114, 97, 110, 100, 111, 109]⟩, [.x, .b]⟩,
  ⟨20, 61440, 53248, ⟨#[100, 114, 97, 119]⟩, [.x, .y, .n]⟩,
  ⟨21, 61695, 57502, ⟨#[115, 107, 105, 112, 45, 100, 111, 119, 110]⟩, [.x]⟩,
  ⟨22, 61695, 57505, ⟨#[115, 107, 105, 112, 45, 117, 112]⟩, [.x]⟩,
  ⟨23, 61695, 61447, ⟨#[116, 105, 109, 101, 114]⟩, [.x]⟩,
  ⟨24, 61695, 61450, ⟨#[107, 101, 121]⟩, [.x]⟩,
  ⟨25, 61695, 61461, ⟨#[100, 101, 108, 97, 121]⟩, [.x]⟩,
  ⟨26, 61695, 61464, ⟨#[115, 111, 117, 110, 100]⟩, [.x]⟩,
  ⟨27, 61695, 61470, ⟨#[111, 110]⟩, [.x]⟩,
  ⟨28, 61695, 61481, ⟨#[100, 105, 103, 105, 116]⟩, [.x]⟩,
  ⟨29, 61695, 61491, ⟨#[116, 104, 114, 101, 101]⟩, [.x]⟩,
  ⟨30, 61695, 61525, ⟨#[115, 116, 111, 114, 101]⟩, [.x]⟩,
  ⟨31, 61695, 61541, ⟨#[102, 105, 108, 108]⟩, [.x]⟩]
theorem Fd.cells_len (f : Fd) : f.cells.length = 5 := rfl
theorem Fd.one (f : Fd) : oneB f.cells = true := rfl
theorem SlS.own {α : Type} {sz : Nat} {f : α → List Value} {Γ : Ctx} {L : Hp} {l : List α} {b n : Nat} {e : TypeId} {fr : Nat × Nat} (hf : ∀ x, (f x).length = sz) (i : Nat) (hn : n = l.length) (hL : L[i]? = some (some (b, .cells (l.flatMap f).toArray e fr))) :
    SlS sz f (Cell Γ L) (.slice (some ⟨b, 0, none⟩) n n) l := by
  subst hn
  refine ⟨_, _, rfl, Nat.le_refl _, fun j x hj => ⟨_, rfl, fun k u hu => ?_⟩⟩
  have hk : k < sz := by have := (List.getElem?_eq_some_iff.1 hu).1; rw [hf] at this; exact this
  rw [add_addS, Addr.add_lit, Nat.zero_add]
  exact Cell.at i hL (by rw [flat_at hf hj hk]; exact hu)
theorem SlS.none {α : Type} {sz : Nat} {f : α → List Value} {C : Addr → Value → Prop} : SlS sz f C (.slice none 0 0) [] := ⟨_, 0, rfl, Nat.le_refl _, fun j x hj => by simp at hj⟩
/-- What is known of the table in memory: row j lies behind a, its fields are fv. -/
def RowAt (C : Addr → Value → Prop) (a : Addr) (fv : Value) (r : RowT) : Prop :=
  C a (.int .u8 (r.op : Int)) ∧ C (a.add 1) (.int .u16 (r.mask : Int)) ∧ C (a.add 2) (.int .u16 (r.word : Int)) ∧ C (a.add 3) (.string r.name) ∧ C (a.add 4) fv ∧ SlS 5 Fd.cells C fv r.fs
def rowsR (Γ : Ctx) (L : Hp) (v : Value) (L' : Hp) : Prop :=
  ∃ (H : Hp) (a : Addr), v = .slice (some a) 31 31 ∧ L' = H ++ L ∧ ∀ j r, table[j]? = some r → ∃ fv, ∀ K : Hp, RowAt (Cell Γ (H ++ K)) (a.add (j * 5)) fv r
set_option maxHeartbeats 1000000 in
set_option maxRecDepth 100000 in
theorem rows_spec {Γ : Ctx} (hP : Γ.P = Tryd.prog) {L : Hp}  :
    SCall Γ 16 #[] L (rowsR Γ L) := by
  refine SCall.enter (n := 115) (res1 0) (hP ▸ Tryd.func16) rfl rfl (by simp) (res1_ok rfl) ?_
  refine SX.seq_k fun K1 hK1 => ?_
  refine SX.region ?_
  simp (maxSteps := 1000000) only [go_sem, Φa, Φb, stK_e, Φc, Φd, ↓reduceIte, reduceCtorEq, Φe, Φf, Φg, Φh, Φi, Φj, Φk, Φl, Φm, Φn, Φo, Φp, Φq, Φr, Φs, hP]
  refine hK1 _ _ ?_
  try clear hK1 K1
  refine SX.seq_k fun K2 hK2 => ?_
  refine SX.region ?_
  simp (maxSteps := 1000000) only [go_sem, Φa, Φb, stK_e, Φc, Φd, ↓reduceIte, reduceCtorEq, Φe, Φf, Φg, Φh, Φi, Φj, Φk, Φl, Φm, Φn, Φo, Φp, Φq, Φr, Φs, hP]
  intro kx
  refine ⟨0, _, _, _, rfl, by decide, .inr (by decide), ?_⟩
  try simp (maxSteps := 1000000) only [go_sem, Φa, Φb, stK_e, Φc, Φd, ↓reduceIte, reduceCtorEq, Φe, Φf, Φg, Φh, Φi, Φj, Φk, Φl, Φm, Φn, Φo, Φp, Φq, Φr, Φs, hP]
  refine hK2 _ _ ?_
  try clear hK2 K2
  refine SX.seq_k fun K3 hK3 => ?_
  refine SX.region ?_
  simp (maxSteps := 1000000) only [go_sem, Φa, Φb, stK_e, Φc, Φd, ↓reduceIte, reduceCtorEq, Φe, Φf, Φg, Φh, Φi, Φj, Φk, Φl, Φm, Φn, Φo, Φp, Φq, Φr, Φs, hP]
  intro ky
  refine ⟨0, _, _, _, rfl, by decide, .inr (by decide), ?_⟩
  try simp (maxSteps := 1000000) only [go_sem, Φa, Φb, stK_e, Φc, Φd, ↓reduceIte, reduceCtorEq, Φe, Φf, Φg, Φh, Φi, Φj, Φk, Φl, Φm, Φn, Φo, Φp, Φq, Φr, Φs, hP]
  refine hK3 _ _ ?_
  try clear hK3 K3
  refine SX.seq_k fun K4 hK4 => ?_
  refine SX.region ?_
  simp (maxSteps := 1000000) only [go_sem, Φa, Φb, stK_e, Φc, Φd, ↓reduceIte, reduceCtorEq, Φe, Φf, Φg, Φh, Φi, Φj, Φk, Φl, Φm, Φn, Φo, Φp, Φq, Φr, Φs, hP]
  intro kn
  refine ⟨0, _, _, _, rfl, by decide, .inr (by decide), ?_⟩
  try simp (maxSteps := 1000000) only [go_sem, Φa, Φb, stK_e, Φc, Φd, ↓reduceIte, reduceCtorEq, Φe, Φf, Φg, Φh, Φi, Φj, Φk, Φl, Φm, Φn, Φo, Φp, Φq, Φr, Φs, hP]
  refine hK4 _ _ ?_
  try clear hK4 K4
  refine SX.seq_k fun K5 hK5 => ?_
  refine SX.region ?_
  simp (maxSteps := 1000000) only [go_sem, Φa, Φb, stK_e, Φc, Φd, ↓reduceIte, reduceCtorEq, Φe, Φf, Φg, Φh, Φi, Φj, Φk, Φl, Φm, Φn, Φo, Φp, Φq, Φr, Φs, hP]
  intro kb
  refine ⟨0, _, _, _, rfl, by decide, .inr (by decide), ?_⟩
  try simp (maxSteps := 1000000) only [go_sem, Φa, Φb, stK_e, Φc, Φd, ↓reduceIte, reduceCtorEq, Φe, Φf, Φg, Φh, Φi, Φj, Φk, Φl, Φm, Φn, Φo, Φp, Φq, Φr, Φs, hP]
  refine hK5 _ _ ?_
  try clear hK5 K5
  refine SX.live [1, 2, 3, 4] (fun T1 hT1 => ?_)
  simp only [go_sem, Φa, Φb, stK_e, Φc, Φd, ↓reduceIte, reduceCtorEq, Φe, Φf, Φg, Φh, Φi, Φj, Φk, Φl, Φm, Φn, Φo, Φp, Φq, Φr, Φs, forall_mem_cons', forall_mem_nil', hP] at hT1
  obtain ⟨h1_1, h1_2, h1_3, h1_4⟩ := hT1
  refine SX.seq_k fun K6 hK6 => ?_
  refine SX.region ?_
  simp (maxSteps := 1000000) only [go_sem, Φa, Φb, stK_e, Φc, Φd, ↓reduceIte, reduceCtorEq, Φe, Φf, Φg, Φh, Φi, Φj, Φk, Φl, Φm, Φn, Φo, Φp, Φq, Φr, Φs, hP, h1_1, h1_2, h1_3, h1_4]
  intro ka
  refine ⟨0, _, _, _, rfl, by decide, .inr (by decide), ?_⟩
  try simp (maxSteps := 1000000) only [go_sem, Φa, Φb, stK_e, Φc, Φd, ↓reduceIte, reduceCtorEq, Φe, Φf, Φg, Φh, Φi, Φj, Φk, Φl, Φm, Φn, Φo, Φp, Φq, Φr, Φs, hP, h1_1, h1_2, h1_3, h1_4]
  refine hK6 _ _ ?_
  try clear hK6 K6
  refine SX.seq_k fun K7 hK7 => ?_
  refine SX.region_x ?_
  simp only [List.append_eq, List.cons_append, List.nil_append]
  refine RX.cut_k 5 fun K8 hK8 => ?_
  simp (maxSteps := 1000000) only [go_sem, Φa, Φb, stK_e, Φc, Φd, ↓reduceIte, reduceCtorEq, Φe, Φf, Φg, Φh, Φi, Φj, Φk, Φl, Φm, Φn, Φo, Φp, Φq, Φr, Φs, hP, h1_1, h1_2, h1_3, h1_4]
  refine ⟨_, Cell.at 0 rfl rfl, _, Cell.at 0 rfl rfl, _, Cell.at 0 rfl rfl, _, Cell.at 0 rfl rfl, _, Cell.at 0 rfl rfl, ?_⟩
  try simp (maxSteps := 1000000) only [go_sem, Φa, Φb, stK_e, Φc, Φd, ↓reduceIte, reduceCtorEq, Φe, Φf, Φg, Φh, Φi, Φj, Φk, Φl, Φm, Φn, Φo, Φp, Φq, Φr, Φs, hP, h1_1, h1_2, h1_3, h1_4]
  intro s2
  refine hK8 _ _ ?_
  try clear hK8 K8
  refine RX.live [1, 2, 3, 4, 5, 11, 12, 15] (fun T2 hT2 => ?_)
  simp only [go_sem, Φa, Φb, stK_e, Φc, Φd, ↓reduceIte, reduceCtorEq, Φe, Φf, Φg, Φh, Φi, Φj, Φk, Φl, Φm, Φn, Φo, Φp, Φq, Φr, Φs, forall_mem_cons', forall_mem_nil', hP, h1_1, h1_2, h1_3, h1_4] at hT2
  obtain ⟨h2_1, h2_2, h2_3, h2_4, h2_5, h2_11, h2_12, h2_15⟩ := hT2
  clear h1_1 h1_2 h1_3 h1_4 T1
  refine RX.cut_k 3 fun K9 hK9 => ?_
  simp (maxSteps := 1000000) only [go_sem, Φa, Φb, stK_e, Φc, Φd, ↓reduceIte, reduceCtorEq, Φe, Φf, Φg, Φh, Φi, Φj, Φk, Φl, Φm, Φn, Φo, Φp, Φq, Φr, Φs, hP, h2_1, h2_2, h2_3, h2_4, h2_5, h2_11, h2_12, h2_15]
  refine ⟨_, Cell.at 1 rfl rfl, _, Cell.at 1 rfl rfl, _, Cell.at 1 rfl rfl, _, Cell.at 1 rfl rfl, _, Cell.at 1 rfl rfl, ?_⟩
  try simp (maxSteps := 1000000) only [go_sem, Φa, Φb, stK_e, Φc, Φd, ↓reduceIte, reduceCtorEq, Φe, Φf, Φg, Φh, Φi, Φj, Φk, Φl, Φm, Φn, Φo, Φp, Φq, Φr, Φs, hP, h2_1, h2_2, h2_3, h2_4, h2_5, h2_11, h2_12, h2_15]
  intro s3
  refine hK9 _ _ ?_
  try clear hK9 K9
  refine RX.live [1, 2, 3, 4, 5, 11, 12, 15, 18] (fun T3 hT3 => ?_)
  simp only [go_sem, Φa, Φb, stK_e, Φc, Φd, ↓reduceIte, reduceCtorEq, Φe, Φf, Φg, Φh, Φi, Φj, Φk, Φl, Φm, Φn, Φo, Φp, Φq, Φr, Φs, forall_mem_cons', forall_mem_nil', hP, h2_1, h2_2, h2_3, h2_4, h2_5, h2_11, h2_12, h2_15] at hT3
  obtain ⟨h3_1, h3_2, h3_3, h3_4, h3_5, h3_11, h3_12, h3_15, h3_18⟩ := hT3
  clear h2_1 h2_2 h2_3 h2_4 h2_5 h2_11 h2_12 h2_15 T2
  refine RX.cut_k 3 fun K10 hK10 => ?_
  simp (maxSteps := 1000000) only [go_sem, Φa, Φb, stK_e, Φc, Φd, ↓reduceIte, reduceCtorEq, Φe, Φf, Φg, Φh, Φi, Φj, Φk, Φl, Φm, Φn, Φo, Φp, Φq, Φr, Φs, hP, h3_1, h3_2, h3_3, h3_4, h3_5, h3_11, h3_12, h3_15, h3_18]
  refine ⟨_, Cell.at 2 rfl rfl, _, Cell.at 2 rfl rfl, _, Cell.at 2 rfl rfl, _, Cell.at 2 rfl rfl, _, Cell.at 2 rfl rfl, ?_⟩
  try simp (maxSteps := 1000000) only [go_sem, Φa, Φb, stK_e, Φc, Φd, ↓reduceIte, reduceCtorEq, Φe, Φf, Φg, Φh, Φi, Φj, Φk, Φl, Φm, Φn, Φo, Φp, Φq, Φr, Φs, hP, h3_1, h3_2, h3_3, h3_4, h3_5, h3_11, h3_12, h3_15, h3_18]
  intro s4
  refine hK10 _ _ ?_
  try clear hK10 K10
  refine RX.live [1, 2, 3, 4, 5, 11, 12, 15, 18, 21] (fun T4 hT4 => ?_)
  simp only [go_sem, Φa, Φb, stK_e, Φc, Φd, ↓reduceIte, reduceCtorEq, Φe, Φf, Φg, Φh, Φi, Φj, Φk, Φl, Φm, Φn, Φo, Φp, Φq, Φr, Φs, forall_mem_cons', forall_mem_nil', hP, h3_1, h3_2, h3_3, h3_4, h3_5, h3_11, h3_12, h3_15, h3_18] at hT4
  obtain ⟨h4_1, h4_2, h4_3, h4_4, h4_5, h4_11, h4_12, h4_15, h4_18, h4_21⟩ := hT4
  clear h3_1 h3_2 h3_3 h3_4 h3_5 h3_11 h3_12 h3_15 h3_18 T3
  refine RX.cut_k 4 fun K11 hK11 => ?_
  simp (maxSteps := 1000000) only [go_sem, Φa, Φb, stK_e, Φc, Φd, ↓reduceIte, reduceCtorEq, Φe, Φf, Φg, Φh, Φi, Φj, Φk, Φl, Φm, Φn, Φo, Φp, Φq, Φr, Φs, hP, h4_1, h4_2, h4_3, h4_4, h4_5, h4_11, h4_12, h4_15, h4_18, h4_21]
  refine ⟨_, Cell.at 7 rfl rfl, _, Cell.at 7 rfl rfl, _, Cell.at 7 rfl rfl, _, Cell.at 7 rfl rfl, _, Cell.at 7 rfl rfl, _, Cell.at 4 rfl rfl, _, Cell.at 4 rfl rfl, _, Cell.at 4 rfl rfl, _, Cell.at 4 rfl rfl, _, Cell.at 4 rfl rfl, ?_⟩
  try simp (maxSteps := 1000000) only [go_sem, Φa, Φb, stK_e, Φc, Φd, ↓reduceIte, reduceCtorEq, Φe, Φf, Φg, Φh, Φi, Φj, Φk, Φl, Φm, Φn, Φo, Φp, Φq, Φr, Φs, hP, h4_1, h4_2, h4_3, h4_4, h4_5, h4_11, h4_12, h4_15, h4_18, h4_21]
  intro s5
  refine hK11 _ _ ?_
  try clear hK11 K11
  refine RX.live [1, 2, 3, 4, 5, 11, 12, 15, 18, 21, 25] (fun T5 hT5 => ?_)
  simp only [go_sem, Φa, Φb, stK_e, Φc, Φd, ↓reduceIte, reduceCtorEq, Φe, Φf, Φg, Φh, Φi, Φj, Φk, Φl, Φm, Φn, Φo, Φp, Φq, Φr, Φs, forall_mem_cons', forall_mem_nil', hP, h4_1, h4_2, h4_3, h4_4, h4_5, h4_11, h4_12, h4_15, h4_18, h4_21] at hT5
  obtain ⟨h5_1, h5_2, h5_3, h5_4, h5_5, h5_11, h5_12, h5_15, h5_18, h5_21, h5_25⟩ := hT5
  clear h4_1 h4_2 h4_3 h4_4 h4_5 h4_11 h4_12 h4_15 h4_18 h4_21 T4
  refine RX.cut_k 4 fun K12 hK12 => ?_
  simp (maxSteps := 1000000) only [go_sem, Φa, Φb, stK_e, Φc, Φd, ↓reduceIte, reduceCtorEq, Φe, Φf, Φg, Φh, Φi, Φj, Φk, Φl, Φm, Φn, Φo, Φp, Φq, Φr, Φs, hP, h5_1, h5_2, h5_3, h5_4, h5_5, h5_11, h5_12, h5_15, h5_18, h5_21, h5_25]
  refine ⟨_, Cell.at 8 rfl rfl, _, Cell.at 8 rfl rfl, _, Cell.at 8 rfl rfl, _, Cell.at 8 rfl rfl, _, Cell.at 8 rfl rfl, _, Cell.at 5 rfl rfl, _, Cell.at 5 rfl rfl, _, Cell.at 5 rfl rfl, _, Cell.at 5 rfl rfl, _, Cell.at 5 rfl rfl, ?_⟩
  try simp (maxSteps := 1000000) only [go_sem, Φa, Φb, stK_e, Φc, Φd, ↓reduceIte, reduceCtorEq, Φe, Φf, Φg, Φh, Φi, Φj, Φk, Φl, Φm, Φn, Φo, Φp, Φq, Φr, Φs, hP, h5_1, h5_2, h5_3, h5_4, h5_5, h5_11, h5_12, h5_15, h5_18, h5_21, h5_25]
  intro s6
  refine hK12 _ _ ?_
  try clear hK12 K12
  refine RX.live [1, 2, 3, 4, 5, 11, 12, 15, 18, 21, 25, 29] (fun T6 hT6 => ?_)
  simp only [go_sem, Φa, Φb, stK_e, Φc, Φd, ↓reduceIte, reduceCtorEq, Φe, Φf, Φg, Φh, Φi, Φj, Φk, Φl, Φm, Φn, Φo, Φp, Φq, Φr, Φs, forall_mem_cons', forall_mem_nil', hP, h5_1, h5_2, h5_3, h5_4, h5_5, h5_11, h5_12, h5_15, h5_18, h5_21, h5_25] at hT6
  obtain ⟨h6_1, h6_2, h6_3, h6_4, h6_5, h6_11, h6_12, h6_15, h6_18, h6_21, h6_25, h6_29⟩ := hT6
  clear h5_1 h5_2 h5_3 h5_4 h5_5 h5_11 h5_12 h5_15 h5_18 h5_21 h5_25 T5
  refine RX.cut_k 4 fun K13 hK13 => ?_
  simp (maxSteps := 1000000) only [go_sem, Φa, Φb, stK_e, Φc, Φd, ↓reduceIte, reduceCtorEq, Φe, Φf, Φg, Φh, Φi, Φj, Φk, Φl, Φm, Φn, Φo, Φp, Φq, Φr, Φs, hP, h6_1, h6_2, h6_3, h6_4, h6_5, h6_11, h6_12, h6_15, h6_18, h6_21, h6_25, h6_29]
  refine ⟨_, Cell.at 9 rfl rfl, _, Cell.at 9 rfl rfl, _, Cell.at 9 rfl rfl, _, Cell.at 9 rfl rfl, _, Cell.at 9 rfl rfl, _, Cell.at 8 rfl rfl, _, Cell.at 8 rfl rfl, _, Cell.at 8 rfl rfl, _, Cell.at 8 rfl rfl, _, Cell.at 8 rfl rfl, ?_⟩
  try simp (maxSteps := 1000000) only [go_sem, Φa, Φb, stK_e, Φc, Φd, ↓reduceIte, reduceCtorEq, Φe, Φf, Φg, Φh, Φi, Φj, Φk, Φl, Φm, Φn, Φo, Φp, Φq, Φr, Φs, hP, h6_1, h6_2, h6_3, h6_4, h6_5, h6_11, h6_12, h6_15, h6_18, h6_21, h6_25, h6_29]
  intro s7
  refine hK13 _ _ ?_
  try clear hK13 K13
  refine RX.live [1, 2, 3, 4, 5, 11, 12, 15, 18, 21, 25, 29, 33] (fun T7 hT7 => ?_)
  simp only [go_sem, Φa, Φb, stK_e, Φc, Φd, ↓reduceIte, reduceCtorEq, Φe, Φf, Φg, Φh, Φi, Φj, Φk, Φl, Φm, Φn, Φo, Φp, Φq, Φr, Φs, forall_mem_cons', forall_mem_nil', hP, h6_1, h6_2, h6_3, h6_4, h6_5, h6_11, h6_12, h6_15, h6_18, h6_21, h6_25, h6_29] at hT7
  obtain ⟨h7_1, h7_2, h7_3, h7_4, h7_5, h7_11, h7_12, h7_15, h7_18, h7_21, h7_25, h7_29, h7_33⟩ := hT7
  clear h6_1 h6_2 h6_3 h6_4 h6_5 h6_11 h6_12 h6_15 h6_18 h6_21 h6_25 h6_29 T6
  refine RX.cut_k 4 fun K14 hK14 => ?_
  simp (maxSteps := 1000000) only [go_sem, Φa, Φb, stK_e, Φc, Φd, ↓reduceIte, reduceCtorEq, Φe, Φf, Φg, Φh, Φi, Φj, Φk, Φl, Φm, Φn, Φo, Φp, Φq, Φr, Φs, hP, h7_1, h7_2, h7_3, h7_4, h7_5, h7_11, h7_12, h7_15, h7_18, h7_21, h7_25, h7_29, h7_33]
  refine ⟨_, Cell.at 10 rfl rfl, _, Cell.at 10 rfl rfl, _, Cell.at 10 rfl rfl, _, Cell.at 10 rfl rfl, _, Cell.at 10 rfl rfl, _, Cell.at 7 rfl rfl, _, Cell.at 7 rfl rfl, _, Cell.at 7 rfl rfl, _, Cell.at 7 rfl rfl, _, Cell.at 7 rfl rfl, ?_⟩
  try simp (maxSteps := 1000000) only [go_sem, Φa, Φb, stK_e, Φc, Φd, ↓reduceIte, reduceCtorEq, Φe, Φf, Φg, Φh, Φi, Φj, Φk, Φl, Φm, Φn, Φo, Φp, Φq, Φr, Φs, hP, h7_1, h7_2, h7_3, h7_4, h7_5, h7_11, h7_12, h7_15, h7_18, h7_21, h7_25, h7_29, h7_33]
  intro s8
  refine hK14 _ _ ?_
  try clear hK14 K14
  refine RX.live [1, 2, 3, 4, 5, 11, 12, 15, 18, 21, 25, 29, 33, 37] (fun T8 hT8 => ?_)
  simp only [go_sem, Φa, Φb, stK_e, Φc, Φd, ↓reduceIte, reduceCtorEq, Φe, Φf, Φg, Φh, Φi, Φj, Φk, Φl, Φm, Φn, Φo, Φp, Φq, Φr, Φs, forall_mem_cons', forall_mem_nil', hP, h7_1, h7_2, h7_3, h7_4, h7_5, h7_11, h7_12, h7_15, h7_18, h7_21, h7_25, h7_29, h7_33] at hT8
  obtain ⟨h8_1, h8_2, h8_3, h8_4, h8_5, h8_11, h8_12, h8_15, h8_18, h8_21, h8_25, h8_29, h8_33, h8_37⟩ := hT8
  clear h7_1 h7_2 h7_3 h7_4 h7_5 h7_11 h7_12 h7_15 h7_18 h7_21 h7_25 h7_29 h7_33 T7
  refine RX.cut_k 4 fun K15 hK15 => ?_
  simp (maxSteps := 1000000) only [go_sem, Φa, Φb, stK_e, Φc, Φd, ↓reduceIte, reduceCtorEq, Φe, Φf, Φg, Φh, Φi, Φj, Φk, Φl, Φm, Φn, Φo, Φp, Φq, Φr, Φs, hP, h8_1, h8_2, h8_3, h8_4, h8_5, h8_11, h8_12, h8_15, h8_18, h8_21, h8_25, h8_29, h8_33, h8_37]
  refine ⟨_, Cell.at 11 rfl rfl, _, Cell.at 11 rfl rfl, _, Cell.at 11 rfl rfl, _, Cell.at 11 rfl rfl, _, Cell.at 11 rfl rfl, _, Cell.at 8 rfl rfl, _, Cell.at 8 rfl rfl, _, Cell.at 8 rfl rfl, _, Cell.at 8 rfl rfl, _, Cell.at 8 rfl rfl, ?_⟩
  try simp (maxSteps := 1000000) only [go_sem, Φa, Φb, stK_e, Φc, Φd, ↓reduceIte, reduceCtorEq, Φe, Φf, Φg, Φh, Φi, Φj, Φk, Φl, Φm, Φn, Φo, Φp, Φq, Φr, Φs, hP, h8_1, h8_2, h8_3, h8_4, h8_5, h8_11, h8_12, h8_15, h8_18, h8_21, h8_25, h8_29, h8_33, h8_37]
  intro s9
  refine hK15 _ _ ?_
  try clear hK15 K15
  refine RX.live [1, 2, 3, 4, 5, 11, 12, 15, 18, 21, 25, 29, 33, 37, 41] (fun T9 hT9 => ?_)
  simp only [go_sem, Φa, Φb, stK_e, Φc, Φd, ↓reduceIte, reduceCtorEq, Φe, Φf, Φg, Φh, Φi, Φj, Φk, Φl, Φm, Φn, Φo, Φp, Φq, Φr, Φs, forall_mem_cons', forall_mem_nil', hP, h8_1, h8_2, h8_3, h8_4, h8_5, h8_11, h8_12, h8_15, h8_18, h8_21, h8_25, h8_29, h8_33, h8_37] at hT9
  obtain ⟨h9_1, h9_2, h9_3, h9_4, h9_5, h9_11, h9_12, h9_15, h9_18, h9_21, h9_25, h9_29, h9_33, h9_37, h9_41⟩ := hT9
  clear h8_1 h8_2 h8_3 h8_4 h8_5 h8_11 h8_12 h8_15 h8_18 h8_21 h8_25 h8_29 h8_33 h8_37 T8
  refine RX.cut_k 4 fun K16 hK16 => ?_
  simp (maxSteps := 1000000) only [go_sem, Φa, Φb, stK_e, Φc, Φd, ↓reduceIte, reduceCtorEq, Φe, Φf, Φg, Φh, Φi, Φj, Φk, Φl, Φm, Φn, Φo, Φp, Φq, Φr, Φs, hP, h9_1, h9_2, h9_3, h9_4, h9_5, h9_11, h9_12, h9_15, h9_18, h9_21, h9_25, h9_29, h9_33, h9_37, h9_41]
  refine ⟨_, Cell.at 12 rfl rfl, _, Cell.at 12 rfl rfl, _, Cell.at 12 rfl rfl, _, Cell.at 12 rfl rfl, _, Cell.at 12 rfl rfl, _, Cell.at 11 rfl rfl, _, Cell.at 11 rfl rfl, _, Cell.at 11 rfl rfl, _, Cell.at 11 rfl rfl, _, Cell.at 11 rfl rfl, ?_⟩
  try simp (maxSteps := 1000000) only [go_sem, Φa, Φb, stK_e, Φc, Φd, ↓reduceIte, reduceCtorEq, Φe, Φf, Φg, Φh, Φi, Φj, Φk, Φl, Φm, Φn, Φo, Φp, Φq, Φr, Φs, hP, h9_1, h9_2, h9_3, h9_4, h9_5, h9_11, h9_12, h9_15, h9_18, h9_21, h9_25, h9_29, h9_33, h9_37, h9_41]
  intro s10
  refine hK16 _ _ ?_
  try clear hK16 K16
  refine RX.live [1, 2, 3, 4, 5, 11, 12, 15, 18, 21, 25, 29, 33, 37, 41, 45] (fun T10 hT10 => ?_)
  simp only [go_sem, Φa, Φb, stK_e, Φc, Φd, ↓reduceIte, reduceCtorEq, Φe, Φf, Φg, Φh, Φi, Φj, Φk, Φl, Φm, Φn, Φo, Φp, Φq, Φr, Φs, forall_mem_cons', forall_mem_nil', hP, h9_1, h9_2, h9_3, h9_4, h9_5, h9_11, h9_12, h9_15, h9_18, h9_21, h9_25, h9_29, h9_33, h9_37, h9_41] at hT10
  obtain ⟨h10_1, h10_2, h10_3, h10_4, h10_5, h10_11, h10_12, h10_15, h10_18, h10_21, h10_25, h10_29, h10_33, h10_37, h10_41, h10_45⟩ := hT10
  clear h9_1 h9_2 h9_3 h9_4 h9_5 h9_11 h9_12 h9_15 h9_18 h9_21 h9_25 h9_29 h9_33 h9_37 h9_41 T9
  refine RX.cut_k 4 fun K17 hK17 => ?_
  simp (maxSteps := 1000000) only [go_sem, Φa, Φb, stK_e, Φc, Φd, ↓reduceIte, reduceCtorEq, Φe, Φf, Φg, Φh, Φi, Φj, Φk, Φl, Φm, Φn, Φo, Φp, Φq, Φr, Φs, hP, h10_1, h10_2, h10_3, h10_4, h10_5, h10_11, h10_12, h10_15, h10_18, h10_21, h10_25, h10_29, h10_33, h10_37, h10_41, h10_45]
  refine ⟨_, Cell.at 13 rfl rfl, _, Cell.at 13 rfl rfl, _, Cell.at 13 rfl rfl, _, Cell.at 13 rfl rfl, _, Cell.at 13 rfl rfl, _, Cell.at 12 rfl rfl, _, Cell.at 12 rfl rfl, _, Cell.at 12 rfl rfl, _, Cell.at 12 rfl rfl, _, Cell.at 12 rfl rfl, ?_⟩
  try simp (maxSteps := 1000000) only [go_sem, Φa, Φb, stK_e, Φc, Φd, ↓reduceIte, reduceCtorEq, Φe, Φf, Φg, Φh, Φi, Φj, Φk, Φl, Φm, Φn, Φo, Φp, Φq, Φr, Φs, hP, h10_1, h10_2, h10_3, h10_4, h10_5, h10_11, h10_12, h10_15, h10_18, h10_21, h10_25, h10_29, h10_33, h10_37, h10_41, h10_45]
  intro s11
  refine hK17 _ _ ?_
  try clear hK17 K17
  refine RX.live [1, 2, 3, 4, 5, 11, 12, 15, 18, 21, 25, 29, 33, 37, 41, 45, 49] (fun T11 hT11 => ?_)
  simp only [go_sem, Φa, Φb, stK_e, Φc, Φd, ↓reduceIte, reduceCtorEq, Φe, Φf, Φg, Φh, Φi, Φj, Φk, Φl, Φm, Φn, Φo, Φp, Φq, Φr, Φs, forall_mem_cons', forall_mem_nil', hP, h10_1, h10_2, h10_3, h10_4, h10_5, h10_11, h10_12, h10_15, h10_18, h10_21, h10_25, h10_29, h10_33, h10_37, h10_41, h10_45] at hT11
  obtain ⟨h11_1, h11_2, h11_3, h11_4, h11_5, h11_11, h11_12, h11_15, h11_18, h11_21, h11_25, h11_29, h11_33, h11_37, h11_41, h11_45, h11_49⟩ := hT11
  clear h10_1 h10_2 h10_3 h10_4 h10_5 h10_11 h10_12 h10_15 h10_18 h10_21 h10_25 h10_29 h10_33 h10_37 h10_41 h10_45 T10
  refine RX.cut_k 4 fun K18 hK18 => ?_
  simp (maxSteps := 1000000) only [go_sem, Φa, Φb, stK_e, Φc, Φd, ↓reduceIte, reduceCtorEq, Φe, Φf, Φg, Φh, Φi, Φj, Φk, Φl, Φm, Φn, Φo, Φp, Φq, Φr, Φs, hP, h11_1, h11_2, h11_3, h11_4, h11_5, h11_11, h11_12, h11_15, h11_18, h11_21, h11_25, h11_29, h11_33, h11_37, h11_41, h11_45, h11_49]
  refine ⟨_, Cell.at 14 rfl rfl, _, Cell.at 14 rfl rfl, _, Cell.at 14 rfl rfl, _, Cell.at 14 rfl rfl, _, Cell.at 14 rfl rfl, _, Cell.at 13 rfl rfl, _, Cell.at 13 rfl rfl, _, Cell.at 13 rfl rfl, _, Cell.at 13 rfl rfl, _, Cell.at 13 rfl rfl, ?_⟩
  try simp (maxSteps := 1000000) only [go_sem, Φa, Φb, stK_e, Φc, Φd, ↓reduceIte, reduceCtorEq, Φe, Φf, Φg, Φh, Φi, Φj, Φk, Φl, Φm, Φn, Φo, Φp, Φq, Φr, Φs, hP, h11_1, h11_2, h11_3, h11_4, h11_5, h11_11, h11_12, h11_15, h11_18, h11_21, h11_25, h11_29, h11_33, h11_37, h11_41, h11_45, h11_49]
  intro s12
  refine hK18 _ _ ?_
  try clear hK18 K18
  refine RX.live [1, 2, 3, 4, 5, 11, 12, 15, 18, 21, 25, 29, 33, 37, 41, 45, 49, 53] (fun T12 hT12 => ?_)
  simp only [go_sem, Φa, Φb, stK_e, Φc, Φd, ↓reduceIte, reduceCtorEq, Φe, Φf, Φg, Φh, Φi, Φj, Φk, Φl, Φm, Φn, Φo, Φp, Φq, Φr, Φs, forall_mem_cons', forall_mem_nil', hP, h11_1, h11_2, h11_3, h11_4, h11_5, h11_11, h11_12, h11_15, h11_18, h11_21, h11_25, h11_29, h11_33, h11_37, h11_41, h11_45, h11_49] at hT12
  obtain ⟨h12_1, h12_2, h12_3, h12_4, h12_5, h12_11, h12_12, h12_15, h12_18, h12_21, h12_25, h12_29, h12_33, h12_37, h12_41, h12_45, h12_49, h12_53⟩ := hT12
  clear h11_1 h11_2 h11_3 h11_4 h11_5 h11_11 h11_12 h11_15 h11_18 h11_21 h11_25 h11_29 h11_33 h11_37 h11_41 h11_45 h11_49 T11
  refine RX.cut_k 4 fun K19 hK19 => ?_
  simp (maxSteps := 1000000) only [go_sem, Φa, Φb, stK_e, Φc, Φd, ↓reduceIte, reduceCtorEq, Φe, Φf, Φg, Φh, Φi, Φj, Φk, Φl, Φm, Φn, Φo, Φp, Φq, Φr, Φs, hP, h12_1, h12_2, h12_3, h12_4, h12_5, h12_11, h12_12, h12_15, h12_18, h12_21, h12_25, h12_29, h12_33, h12_37, h12_41, h12_45, h12_49, h12_53]
  refine ⟨_, Cell.at 15 rfl rfl, _, Cell.at 15 rfl rfl, _, Cell.at 15 rfl rfl, _, Cell.at 15 rfl rfl, _, Cell.at 15 rfl rfl, _, Cell.at 14 rfl rfl, _, Cell.at 14 rfl rfl, _, Cell.at 14 rfl rfl, _, Cell.at 14 rfl rfl, _, Cell.at 14 rfl rfl, ?_⟩
  try simp (maxSteps := 1000000) only [go_sem, Φa, Φb, stK_e, Φc, Φd, ↓reduceIte, reduceCtorEq, Φe, Φf, Φg, Φh, Φi, Φj, Φk, Φl, Φm, Φn, Φo, Φp, Φq, Φr, Φs, hP, h12_1, h12_2, h12_3, h12_4, h12_5, h12_11, h12_12, h12_15, h12_18, h12_21, h12_25, h12_29, h12_33, h12_37, h12_41, h12_45, h12_49, h12_53]
  intro s13
  refine hK19 _ _ ?_
  try clear hK19 K19
  refine RX.live [1, 2, 3, 4, 5, 11, 12, 15, 18, 21, 25, 29, 33, 37, 41, 45, 49, 53, 57] (fun T13 hT13 => ?_)
  simp only [go_sem, Φa, Φb, stK_e, Φc, Φd, ↓reduceIte, reduceCtorEq, Φe, Φf, Φg, Φh, Φi, Φj, Φk, Φl, Φm, Φn, Φo, Φp, Φq, Φr, Φs, forall_mem_cons', forall_mem_nil', hP, h12_1, h12_2, h12_3, h12_4, h12_5, h12_11, h12_12, h12_15, h12_18, h12_21, h12_25, h12_29, h12_33, h12_37, h12_41, h12_45, h12_49, h12_53] at hT13
  obtain ⟨h13_1, h13_2, h13_3, h13_4, h13_5, h13_11, h13_12, h13_15, h13_18, h13_21, h13_25, h13_29, h13_33, h13_37, h13_41, h13_45, h13_49, h13_53, h13_57⟩ := hT13
  clear h12_1 h12_2 h12_3 h12_4 h12_5 h12_11 h12_12 h12_15 h12_18 h12_21 h12_25 h12_29 h12_33 h12_37 h12_41 h12_45 h12_49 h12_53 T12
  refine RX.cut_k 4 fun K20 hK20 => ?_
  simp (maxSteps := 1000000) only [go_sem, Φa, Φb, stK_e, Φc, Φd, ↓reduceIte, reduceCtorEq, Φe, Φf, Φg, Φh, Φi, Φj, Φk, Φl, Φm, Φn, Φo, Φp, Φq, Φr, Φs, hP, h13_1, h13_2, h13_3, h13_4, h13_5, h13_11, h13_12, h13_15, h13_18, h13_21, h13_25, h13_29, h13_33, h13_37, h13_41, h13_45, h13_49, h13_53, h13_57]
  refine ⟨_, Cell.at 16 rfl rfl, _, Cell.at 16 rfl rfl, _, Cell.at 16 rfl rfl, _, Cell.at 16 rfl rfl, _, Cell.at 16 rfl rfl, _, Cell.at 15 rfl rfl, _, Cell.at 15 rfl rfl, _, Cell.at 15 rfl rfl, _, Cell.at 15 rfl rfl, _, Cell.at 15 rfl rfl, ?_⟩
  try simp (maxSteps := 1000000) only [go_sem, Φa, Φb, stK_e, Φc, Φd, ↓reduceIte, reduceCtorEq, Φe, Φf, Φg, Φh, Φi, Φj, Φk, Φl, Φm, Φn, Φo, Φp, Φq, Φr, Φs, hP, h13_1, h13_2, h13_3, h13_4, h13_5, h13_11, h13_12, h13_15, h13_18, h13_21, h13_25, h13_29, h13_33, h13_37, h13_41, h13_45, h13_49, h13_53, h13_57]
  intro s14
  refine hK20 _ _ ?_
  try clear hK20 K20
  refine RX.live [1, 2, 3, 4, 5, 11, 12, 15, 18, 21, 25, 29, 33, 37, 41, 45, 49, 53, 57, 61] (fun T14 hT14 => ?_)
  simp only [go_sem, Φa, Φb, stK_e, Φc, Φd, ↓reduceIte, reduceCtorEq, Φe, Φf, Φg, Φh, Φi, Φj, Φk, Φl, Φm, Φn, Φo, Φp, Φq, Φr, Φs, forall_mem_cons', forall_mem_nil', hP, h13_1, h13_2, h13_3, h13_4, h13_5, h13_11, h13_12, h13_15, h13_18, h13_21, h13_25, h13_29, h13_33, h13_37, h13_41, h13_45, h13_49, h13_53, h13_57] at hT14
  obtain ⟨h14_1, h14_2, h14_3, h14_4, h14_5, h14_11, h14_12, h14_15, h14_18, h14_21, h14_25, h14_29, h14_33, h14_37, h14_41, h14_45, h14_49, h14_53, h14_57, h14_61⟩ := hT14
  clear h13_1 h13_2 h13_3 h13_4 h13_5 h13_11 h13_12 h13_15 h13_18 h13_21 h13_25 h13_29 h13_33 h13_37 h13_41 h13_45 h13_49 h13_53 h13_57 T13
  refine RX.cut_k 4 fun K21 hK21 => ?_
  simp (maxSteps := 1000000) only [go_sem, Φa, Φb, stK_e, Φc, Φd, ↓reduceIte, reduceCtorEq, Φe, Φf, Φg, Φh, Φi, Φj, Φk, Φl, Φm, Φn, Φo, Φp, Φq, Φr, Φs, hP, h14_1, h14_2, h14_3, h14_4, h14_5, h14_11, h14_12, h14_15, h14_18, h14_21, h14_25, h14_29, h14_33, h14_37, h14_41, h14_45, h14_49, h14_53, h14_57, h14_61]
  refine ⟨_, Cell.at 17 rfl rfl, _, Cell.at 17 rfl rfl, _, Cell.at 17 rfl rfl, _, Cell.at 17 rfl rfl, _, Cell.at 17 rfl rfl, _, Cell.at 16 rfl rfl, _, Cell.at 16 rfl rfl, _, Cell.at 16 rfl rfl, _, Cell.at 16 rfl rfl, _, Cell.at 16 rfl rfl, ?_⟩
  try simp (maxSteps := 1000000) only [go_sem, Φa, Φb, stK_e, Φc, Φd, ↓reduceIte, reduceCtorEq, Φe, Φf, Φg, Φh, Φi, Φj, Φk, Φl, Φm, Φn, Φo, Φp, Φq, Φr, Φs, hP, h14_1, h14_2, h14_3, h14_4, h14_5, h14_11, h14_12, h14_15, h14_18, h14_21, h14_25, h14_29, h14_33, h14_37, h14_41, h14_45, h14_49, h14_53, h14_57, h14_61]
  intro s15
  refine hK21 _ _ ?_
  try clear hK21 K21
  refine RX.live [1, 2, 3, 4, 5, 11, 12, 15, 18, 21, 25, 29, 33, 37, 41, 45, 49, 53, 57, 61, 65] (fun T15 hT15 => ?_)
  simp only [go_sem, Φa, Φb, stK_e, Φc, Φd, ↓reduceIte, reduceCtorEq, Φe, Φf, Φg, Φh, Φi, Φj, Φk, Φl, Φm, Φn, Φo, Φp, Φq, Φr, Φs, forall_mem_cons', forall_mem_nil', hP, h14_1, h14_2, h14_3, h14_4, h14_5, h14_11, h14_12, h14_15, h14_18, h14_21, h14_25, h14_29, h14_33, h14_37, h14_41, h14_45, h14_49, h14_53, h14_57, h14_61] at hT15
  obtain ⟨h15_1, h15_2, h15_3, h15_4, h15_5, h15_11, h15_12, h15_15, h15_18, h15_21, h15_25, h15_29, h15_33, h15_37, h15_41, h15_45, h15_49, h15_53, h15_57, h15_61, h15_65⟩ := hT15
  clear h14_1 h14_2 h14_3 h14_4 h14_5 h14_11 h14_12 h14_15 h14_18 h14_21 h14_25 h14_29 h14_33 h14_37 h14_41 h14_45 h14_49 h14_53 h14_57 h14_61 T14
  refine RX.cut_k 3 fun K22 hK22 => ?_
  simp (maxSteps := 1000000) only [go_sem, Φa, Φb, stK_e, Φc, Φd, ↓reduceIte, reduceCtorEq, Φe, Φf, Φg, Φh, Φi, Φj, Φk, Φl, Φm, Φn, Φo, Φp, Φq, Φr, Φs, hP, h15_1, h15_2, h15_3, h15_4, h15_5, h15_11, h15_12, h15_15, h15_18, h15_21, h15_25, h15_29, h15_33, h15_37, h15_41, h15_45, h15_49, h15_53, h15_57, h15_61, h15_65]
  refine ⟨_, Cell.at 14 rfl rfl, _, Cell.at 14 rfl rfl, _, Cell.at 14 rfl rfl, _, Cell.at 14 rfl rfl, _, Cell.at 14 rfl rfl, ?_⟩
  try simp (maxSteps := 1000000) only [go_sem, Φa, Φb, stK_e, Φc, Φd, ↓reduceIte, reduceCtorEq, Φe, Φf, Φg, Φh, Φi, Φj, Φk, Φl, Φm, Φn, Φo, Φp, Φq, Φr, Φs, hP, h15_1, h15_2, h15_3, h15_4, h15_5, h15_11, h15_12, h15_15, h15_18, h15_21, h15_25, h15_29, h15_33, h15_37, h15_41, h15_45, h15_49, h15_53, h15_57, h15_61, h15_65]
  intro s16
  refine hK22 _ _ ?_
  try clear hK22 K22
  refine RX.live [1, 2, 3, 4, 5, 11, 12, 15, 18, 21, 25, 29, 33, 37, 41, 45, 49, 53, 57, 61, 65, 68] (fun T16 hT16 => ?_)
  simp only [go_sem, Φa, Φb, stK_e, Φc, Φd, ↓reduceIte, reduceCtorEq, Φe, Φf, Φg, Φh, Φi, Φj, Φk, Φl, Φm, Φn, Φo, Φp, Φq, Φr, Φs, forall_mem_cons', forall_mem_nil', hP, h15_1, h15_2, h15_3, h15_4, h15_5, h15_11, h15_12, h15_15, h15_18, h15_21, h15_25, h15_29, h15_33, h15_37, h15_41, h15_45, h15_49, h15_53, h15_57, h15_61, h15_65] at hT16
  obtain ⟨h16_1, h16_2, h16_3, h16_4, h16_5, h16_11, h16_12, h16_15, h16_18, h16_21, h16_25, h16_29, h16_33, h16_37, h16_41, h16_45, h16_49, h16_53, h16_57, h16_61, h16_65, h16_68⟩ := hT16
  clear h15_1 h15_2 h15_3 h15_4 h15_5 h15_11 h15_12 h15_15 h15_18 h15_21 h15_25 h15_29 h15_33 h15_37 h15_41 h15_45 h15_49 h15_53 h15_57 h15_61 h15_65 T15
  refine RX.cut_k 3 fun K23 hK23 => ?_
  simp (maxSteps := 1000000) only [go_sem, Φa, Φb, stK_e, Φc, Φd, ↓reduceIte, reduceCtorEq, Φe, Φf, Φg, Φh, Φi, Φj, Φk, Φl, Φm, Φn, Φo, Φp, Φq, Φr, Φs, hP, h16_1, h16_2, h16_3, h16_4, h16_5, h16_11, h16_12, h16_15, h16_18, h16_21, h16_25, h16_29, h16_33, h16_37, h16_41, h16_45, h16_49, h16_53, h16_57, h16_61, h16_65, h16_68]
  refine ⟨_, Cell.at 15 rfl rfl, _, Cell.at 15 rfl rfl, _, Cell.at 15 rfl rfl, _, Cell.at 15 rfl rfl, _, Cell.at 15 rfl rfl, ?_⟩
  try simp (maxSteps := 1000000) only [go_sem, Φa, Φb, stK_e, Φc, Φd, ↓reduceIte, reduceCtorEq, Φe, Φf, Φg, Φh, Φi, Φj, Φk, Φl, Φm, Φn, Φo, Φp, Φq, Φr, Φs, hP, h16_1, h16_2, h16_3, h16_4, h16_5, h16_11, h16_12, h16_15, h16_18, h16_21, h16_25, h16_29, h16_33, h16_37, h16_41, h16_45, h16_49, h16_53, h16_57, h16_61, h16_65, h16_68]
  intro s17
  refine hK23 _ _ ?_
  try clear hK23 K23
  refine RX.live [1, 2, 3, 4, 11, 12, 15, 18, 21, 25, 29, 33, 37, 41, 45, 49, 53, 57, 61, 65, 68, 71] (fun T17 hT17 => ?_)
  simp only [go_sem, Φa, Φb, stK_e, Φc, Φd, ↓reduceIte, reduceCtorEq, Φe, Φf, Φg, Φh, Φi, Φj, Φk, Φl, Φm, Φn, Φo, Φp, Φq, Φr, Φs, forall_mem_cons', forall_mem_nil', hP, h16_1, h16_2, h16_3, h16_4, h16_5, h16_11, h16_12, h16_15, h16_18, h16_21, h16_25, h16_29, h16_33, h16_37, h16_41, h16_45, h16_49, h16_53, h16_57, h16_61, h16_65, h16_68] at hT17
  obtain ⟨h17_1, h17_2, h17_3, h17_4, h17_11, h17_12, h17_15, h17_18, h17_21, h17_25, h17_29, h17_33, h17_37, h17_41, h17_45, h17_49, h17_53, h17_57, h17_61, h17_65, h17_68, h17_71⟩ := hT17
  clear h16_1 h16_2 h16_3 h16_4 h16_5 h16_11 h16_12 h16_15 h16_18 h16_21 h16_25 h16_29 h16_33 h16_37 h16_41 h16_45 h16_49 h16_53 h16_57 h16_61 h16_65 h16_68 T16
  refine RX.cut_k 4 fun K24 hK24 => ?_
  simp (maxSteps := 1000000) only [go_sem, Φa, Φb, stK_e, Φc, Φd, ↓reduceIte, reduceCtorEq, Φe, Φf, Φg, Φh, Φi, Φj, Φk, Φl, Φm, Φn, Φo, Φp, Φq, Φr, Φs, hP, h17_1, h17_2, h17_3, h17_4, h17_11, h17_12, h17_15, h17_18, h17_21, h17_25, h17_29, h17_33, h17_37, h17_41, h17_45, h17_49, h17_53, h17_57, h17_61, h17_65, h17_68, h17_71]
  refine ⟨_, Cell.at 20 rfl rfl, _, Cell.at 20 rfl rfl, _, Cell.at 20 rfl rfl, _, Cell.at 20 rfl rfl, _, Cell.at 20 rfl rfl, _, Cell.at 17 rfl rfl, _, Cell.at 17 rfl rfl, _, Cell.at 17 rfl rfl, _, Cell.at 17 rfl rfl, _, Cell.at 17 rfl rfl, ?_⟩
  try simp (maxSteps := 1000000) only [go_sem, Φa, Φb, stK_e, Φc, Φd, ↓reduceIte, reduceCtorEq, Φe, Φf, Φg, Φh, Φi, Φj, Φk, Φl, Φm, Φn, Φo, Φp, Φq, Φr, Φs, hP, h17_1, h17_2, h17_3, h17_4, h17_11, h17_12, h17_15, h17_18, h17_21, h17_25, h17_29, h17_33, h17_37, h17_41, h17_45, h17_49, h17_53, h17_57, h17_61, h17_65, h17_68, h17_71]
  intro s18
  refine hK24 _ _ ?_
  try clear hK24 K24
  refine RX.live [1, 2, 3, 11, 12, 15, 18, 21, 25, 29, 33, 37, 41, 45, 49, 53, 57, 61, 65, 68, 71, 75] (fun T18 hT18 => ?_)
  simp only [go_sem, Φa, Φb, stK_e, Φc, Φd, ↓reduceIte, reduceCtorEq, Φe, Φf, Φg, Φh, Φi, Φj, Φk, Φl, Φm, Φn, Φo, Φp, Φq, Φr, Φs, forall_mem_cons', forall_mem_nil', hP, h17_1, h17_2, h17_3, h17_4, h17_11, h17_12, h17_15, h17_18, h17_21, h17_25, h17_29, h17_33, h17_37, h17_41, h17_45, h17_49, h17_53, h17_57, h17_61, h17_65, h17_68, h17_71] at hT18
  obtain ⟨h18_1, h18_2, h18_3, h18_11, h18_12, h18_15, h18_18, h18_21, h18_25, h18_29, h18_33, h18_37, h18_41, h18_45, h18_49, h18_53, h18_57, h18_61, h18_65, h18_68, h18_71, h18_75⟩ := hT18
  clear h17_1 h17_2 h17_3 h17_4 h17_11 h17_12 h17_15 h17_18 h17_21 h17_25 h17_29 h17_33 h17_37 h17_41 h17_45 h17_49 h17_53 h17_57 h17_61 h17_65 h17_68 h17_71 T17
  refine RX.cut_k 5 fun K25 hK25 => ?_
  simp (maxSteps := 1000000) only [go_sem, Φa, Φb, stK_e, Φc, Φd, ↓reduceIte, reduceCtorEq, Φe, Φf, Φg, Φh, Φi, Φj, Φk, Φl, Φm, Φn, Φo, Φp, Φq, Φr, Φs, hP, h18_1, h18_2, h18_3, h18_11, h18_12, h18_15, h18_18, h18_21, h18_25, h18_29, h18_33, h18_37, h18_41, h18_45, h18_49, h18_53, h18_57, h18_61, h18_65, h18_68, h18_71, h18_75]
  refine ⟨_, Cell.at 21 rfl rfl, _, Cell.at 21 rfl rfl, _, Cell.at 21 rfl rfl, _, Cell.at 21 rfl rfl, _, Cell.at 21 rfl rfl, _, Cell.at 20 rfl rfl, _, Cell.at 20 rfl rfl, _, Cell.at 20 rfl rfl, _, Cell.at 20 rfl rfl, _, Cell.at 20 rfl rfl, _, Cell.at 19 rfl rfl, _, Cell.at 19 rfl rfl, _, Cell.at 19 rfl rfl, _, Cell.at 19 rfl rfl, _, Cell.at 19 rfl rfl, ?_⟩
  try simp (maxSteps := 1000000) only [go_sem, Φa, Φb, stK_e, Φc, Φd, ↓reduceIte, reduceCtorEq, Φe, Φf, Φg, Φh, Φi, Φj, Φk, Φl, Φm, Φn, Φo, Φp, Φq, Φr, Φs, hP, h18_1, h18_2, h18_3, h18_11, h18_12, h18_15, h18_18, h18_21, h18_25, h18_29, h18_33, h18_37, h18_41, h18_45, h18_49, h18_53, h18_57, h18_61, h18_65, h18_68, h18_71, h18_75]
  intro s19
  refine hK25 _ _ ?_
  try clear hK25 K25
  refine RX.live [1, 11, 12, 15, 18, 21, 25, 29, 33, 37, 41, 45, 49, 53, 57, 61, 65, 68, 71, 75, 80] (fun T19 hT19 => ?_)
  simp only [go_sem, Φa, Φb, stK_e, Φc, Φd, ↓reduceIte, reduceCtorEq, Φe, Φf, Φg, Φh, Φi, Φj, Φk, Φl, Φm, Φn, Φo, Φp, Φq, Φr, Φs, forall_mem_cons', forall_mem_nil', hP, h18_1, h18_2, h18_3, h18_11, h18_12, h18_15, h18_18, h18_21, h18_25, h18_29, h18_33, h18_37, h18_41, h18_45, h18_49, h18_53, h18_57, h18_61, h18_65, h18_68, h18_71, h18_75] at hT19
  obtain ⟨h19_1, h19_11, h19_12, h19_15, h19_18, h19_21, h19_25, h19_29, h19_33, h19_37, h19_41, h19_45, h19_49, h19_53, h19_57, h19_61, h19_65, h19_68, h19_71, h19_75, h19_80⟩ := hT19
  clear h18_1 h18_2 h18_3 h18_11 h18_12 h18_15 h18_18 h18_21 h18_25 h18_29 h18_33 h18_37 h18_41 h18_45 h18_49 h18_53 h18_57 h18_61 h18_65 h18_68 h18_71 h18_75 T18
  refine RX.cut_k 3 fun K26 hK26 => ?_
  simp (maxSteps := 1000000) only [go_sem, Φa, Φb, stK_e, Φc, Φd, ↓reduceIte, reduceCtorEq, Φe, Φf, Φg, Φh, Φi, Φj, Φk, Φl, Φm, Φn, Φo, Φp, Φq, Φr, Φs, hP, h19_1, h19_11, h19_12, h19_15, h19_18, h19_21, h19_25, h19_29, h19_33, h19_37, h19_41, h19_45, h19_49, h19_53, h19_57, h19_61, h19_65, h19_68, h19_71, h19_75, h19_80]
  refine ⟨_, Cell.at 22 rfl rfl, _, Cell.at 22 rfl rfl, _, Cell.at 22 rfl rfl, _, Cell.at 22 rfl rfl, _, Cell.at 22 rfl rfl, ?_⟩
  try simp (maxSteps := 1000000) only [go_sem, Φa, Φb, stK_e, Φc, Φd, ↓reduceIte, reduceCtorEq, Φe, Φf, Φg, Φh, Φi, Φj, Φk, Φl, Φm, Φn, Φo, Φp, Φq, Φr, Φs, hP, h19_1, h19_11, h19_12, h19_15, h19_18, h19_21, h19_25, h19_29, h19_33, h19_37, h19_41, h19_45, h19_49, h19_53, h19_57, h19_61, h19_65, h19_68, h19_71, h19_75, h19_80]
  intro s20
  refine hK26 _ _ ?_
  try clear hK26 K26
  refine RX.live [1, 11, 12, 15, 18, 21, 25, 29, 33, 37, 41, 45, 49, 53, 57, 61, 65, 68, 71, 75, 80, 83] (fun T20 hT20 => ?_)
  simp only [go_sem, Φa, Φb, stK_e, Φc, Φd, ↓reduceIte, reduceCtorEq, Φe, Φf, Φg, Φh, Φi, Φj, Φk, Φl, Φm, Φn, Φo, Φp, Φq, Φr, Φs, forall_mem_cons', forall_mem_nil', hP, h19_1, h19_11, h19_12, h19_15, h19_18, h19_21, h19_25, h19_29, h19_33, h19_37, h19_41, h19_45, h19_49, h19_53, h19_57, h19_61, h19_65, h19_68, h19_71, h19_75, h19_80] at hT20
  obtain ⟨h20_1, h20_11, h20_12, h20_15, h20_18, h20_21, h20_25, h20_29, h20_33, h20_37, h20_41, h20_45, h20_49, h20_53, h20_57, h20_61, h20_65, h20_68, h20_71, h20_75, h20_80, h20_83⟩ := hT20
  clear h19_1 h19_11 h19_12 h19_15 h19_18 h19_21 h19_25 h19_29 h19_33 h19_37 h19_41 h19_45 h19_49 h19_53 h19_57 h19_61 h19_65 h19_68 h19_71 h19_75 h19_80 T19
  refine RX.cut_k 3 fun K27 hK27 => ?_
  simp (maxSteps := 1000000) only [go_sem, Φa, Φb, stK_e, Φc, Φd, ↓reduceIte, reduceCtorEq, Φe, Φf, Φg, Φh, Φi, Φj, Φk, Φl, Φm, Φn, Φo, Φp, Φq, Φr, Φs, hP, h20_1, h20_11, h20_12, h20_15, h20_18, h20_21, h20_25, h20_29, h20_33, h20_37, h20_41, h20_45, h20_49, h20_53, h20_57, h20_61, h20_65, h20_68, h20_71, h20_75, h20_80, h20_83]
  refine ⟨_, Cell.at 23 rfl rfl, _, Cell.at 23 rfl rfl, _, Cell.at 23 rfl rfl, _, Cell.at 23 rfl rfl, _, Cell.at 23 rfl rfl, ?_⟩
  try simp (maxSteps := 1000000) only [go_sem, Φa, Φb, stK_e, Φc, Φd, ↓reduceIte, reduceCtorEq, Φe, Φf, Φg, Φh, Φi, Φj, Φk, Φl, Φm, Φn, Φo, Φp, Φq, Φr, Φs, hP, h20_1, h20_11, h20_12, h20_15, h20_18, h20_21, h20_25, h20_29, h20_33, h20_37, h20_41, h20_45, h20_49, h20_53, h20_57, h20_61, h20_65, h20_68, h20_71, h20_75, h20_80, h20_83]
  intro s21
  refine hK27 _ _ ?_
  try clear hK27 K27
  refine RX.live [1, 11, 12, 15, 18, 21, 25, 29, 33, 37, 41, 45, 49, 53, 57, 61, 65, 68, 71, 75, 80, 83, 86] (fun T21 hT21 => ?_)
  simp only [go_sem, Φa, Φb, stK_e, Φc, Φd, ↓reduceIte, reduceCtorEq, Φe, Φf, Φg, Φh, Φi, Φj, Φk, Φl, Φm, Φn, Φo, Φp, Φq, Φr, Φs, forall_mem_cons', forall_mem_nil', hP, h20_1, h20_11, h20_12, h20_15, h20_18, h20_21, h20_25, h20_29, h20_33, h20_37, h20_41, h20_45, h20_49, h20_53, h20_57, h20_61, h20_65, h20_68, h20_71, h20_75, h20_80, h20_83] at hT21
  obtain ⟨h21_1, h21_11, h21_12, h21_15, h21_18, h21_21, h21_25, h21_29, h21_33, h21_37, h21_41, h21_45, h21_49, h21_53, h21_57, h21_61, h21_65, h21_68, h21_71, h21_75, h21_80, h21_83, h21_86⟩ := hT21
  clear h20_1 h20_11 h20_12 h20_15 h20_18 h20_21 h20_25 h20_29 h20_33 h20_37 h20_41 h20_45 h20_49 h20_53 h20_57 h20_61 h20_65 h20_68 h20_71 h20_75 h20_80 h20_83 T20
  refine RX.cut_k 3 fun K28 hK28 => ?_
  simp (maxSteps := 1000000) only [go_sem, Φa, Φb, stK_e, Φc, Φd, ↓reduceIte, reduceCtorEq, Φe, Φf, Φg, Φh, Φi, Φj, Φk, Φl, Φm, Φn, Φo, Φp, Φq, Φr, Φs, hP, h21_1, h21_11, h21_12, h21_15, h21_18, h21_21, h21_25, h21_29, h21_33, h21_37, h21_41, h21_45, h21_49, h21_53, h21_57, h21_61, h21_65, h21_68, h21_71, h21_75, h21_80, h21_83, h21_86]
  refine ⟨_, Cell.at 24 rfl rfl, _, Cell.at 24 rfl rfl, _, Cell.at 24 rfl rfl, _, Cell.at 24 rfl rfl, _, Cell.at 24 rfl rfl, ?_⟩
  try simp (maxSteps := 1000000) only [go_sem, Φa, Φb, stK_e, Φc, Φd, ↓reduceIte, reduceCtorEq, Φe, Φf, Φg, Φh, Φi, Φj, Φk, Φl, Φm, Φn, Φo, Φp, Φq, Φr, Φs, hP, h21_1, h21_11, h21_12, h21_15, h21_18, h21_21, h21_25, h21_29, h21_33, h21_37, h21_41, h21_45, h21_49, h21_53, h21_57, h21_61, h21_65, h21_68, h21_71, h21_75, h21_80, h21_83, h21_86]
  intro s22
  refine hK28 _ _ ?_
  try clear hK28 K28
  refine RX.live [1, 11, 12, 15, 18, 21, 25, 29, 33, 37, 41, 45, 49, 53, 57, 61, 65, 68, 71, 75, 80, 83, 86, 89] (fun T22 hT22 => ?_)
  simp only [go_sem, Φa, Φb, stK_e, Φc, Φd, ↓reduceIte, reduceCtorEq, Φe, Φf, Φg, Φh, Φi, Φj, Φk, Φl, Φm, Φn, Φo, Φp, Φq, Φr, Φs, forall_mem_cons', forall_mem_nil', hP, h21_1, h21_11, h21_12, h21_15, h21_18, h21_21, h21_25, h21_29, h21_33, h21_37, h21_41, h21_45, h21_49, h21_53, h21_57, h21_61, h21_65, h21_68, h21_71, h21_75, h21_80, h21_83, h21_86] at hT22
  obtain ⟨h22_1, h22_11, h22_12, h22_15, h22_18, h22_21, h22_25, h22_29, h22_33, h22_37, h22_41, h22_45, h22_49, h22_53, h22_57, h22_61, h22_65, h22_68, h22_71, h22_75, h22_80, h22_83, h22_86, h22_89⟩ := hT22
  clear h21_1 h21_11 h21_12 h21_15 h21_18 h21_21 h21_25 h21_29 h21_33 h21_37 h21_41 h21_45 h21_49 h21_53 h21_57 h21_61 h21_65 h21_68 h21_71 h21_75 h21_80 h21_83 h21_86 T21
  refine RX.cut_k 3 fun K29 hK29 => ?_
  simp (maxSteps := 1000000) only [go_sem, Φa, Φb, stK_e, Φc, Φd, ↓reduceIte, reduceCtorEq, Φe, Φf, Φg, Φh, Φi, Φj, Φk, Φl, Φm, Φn, Φo, Φp, Φq, Φr, Φs, hP, h22_1, h22_11, h22_12, h22_15, h22_18, h22_21, h22_25, h22_29, h22_33, h22_37, h22_41, h22_45, h22_49, h22_53, h22_57, h22_61, h22_65, h22_68, h22_71, h22_75, h22_80, h22_83, h22_86, h22_89]
  refine ⟨_, Cell.at 25 rfl rfl, _, Cell.at 25 rfl rfl, _, Cell.at 25 rfl rfl, _, Cell.at 25 rfl rfl, _, Cell.at 25 rfl rfl, ?_⟩
  try simp (maxSteps := 1000000) only [go_sem, Φa, Φb, stK_e, Φc, Φd, ↓reduceIte, reduceCtorEq, Φe, Φf, Φg, Φh, Φi, Φj, Φk, Φl, Φm, Φn, Φo, Φp, Φq, Φr, Φs, hP, h22_1, h22_11, h22_12, h22_15, h22_18, h22_21, h22_25, h22_29, h22_33, h22_37, h22_41, h22_45, h22_49, h22_53, h22_57, h22_61, h22_65, h22_68, h22_71, h22_75, h22_80, h22_83, h22_86, h22_89]
  intro s23
  refine hK29 _ _ ?_
  try clear hK29 K29
  refine RX.live [1, 11, 12, 15, 18, 21, 25, 29, 33, 37, 41, 45, 49, 53, 57, 61, 65, 68, 71, 75, 80, 83, 86, 89, 92] (fun T23 hT23 => ?_)
  simp only [go_sem, Φa, Φb, stK_e, Φc, Φd, ↓reduceIte, reduceCtorEq, Φe, Φf, Φg, Φh, Φi, Φj, Φk, Φl, Φm, Φn, Φo, Φp, Φq, Φr, Φs, forall_mem_cons', forall_mem_nil', hP, h22_1, h22_11, h22_12, h22_15, h22_18, h22_21, h22_25, h22_29, h22_33, h22_37, h22_41, h22_45, h22_49, h22_53, h22_57, h22_61, h22_65, h22_68, h22_71, h22_75, h22_80, h22_83, h22_86, h22_89] at hT23
  obtain ⟨h23_1, h23_11, h23_12, h23_15, h23_18, h23_21, h23_25, h23_29, h23_33, h23_37, h23_41, h23_45, h23_49, h23_53, h23_57, h23_61, h23_65, h23_68, h23_71, h23_75, h23_80, h23_83, h23_86, h23_89, h23_92⟩ := hT23
  clear h22_1 h22_11 h22_12 h22_15 h22_18 h22_21 h22_25 h22_29 h22_33 h22_37 h22_41 h22_45 h22_49 h22_53 h22_57 h22_61 h22_65 h22_68 h22_71 h22_75 h22_80 h22_83 h22_86 h22_89 T22
  refine RX.cut_k 3 fun K30 hK30 => ?_
  simp (maxSteps := 1000000) only [go_sem, Φa, Φb, stK_e, Φc, Φd, ↓reduceIte, reduceCtorEq, Φe, Φf, Φg, Φh, Φi, Φj, Φk, Φl, Φm, Φn, Φo, Φp, Φq, Φr, Φs, hP, h23_1, h23_11, h23_12, h23_15, h23_18, h23_21, h23_25, h23_29, h23_33, h23_37, h23_41, h23_45, h23_49, h23_53, h23_57, h23_61, h23_65, h23_68, h23_71, h23_75, h23_80, h23_83, h23_86, h23_89, h23_92]
  refine ⟨_, Cell.at 26 rfl rfl, _, Cell.at 26 rfl rfl, _, Cell.at 26 rfl rfl, _, Cell.at 26 rfl rfl, _, Cell.at 26 rfl rfl, ?_⟩
  try simp (maxSteps := 1000000) only [go_sem, Φa, Φb, stK_e, Φc, Φd, ↓reduceIte, reduceCtorEq, Φe, Φf, Φg, Φh, Φi, Φj, Φk, Φl, Φm, Φn, Φo, Φp, Φq, Φr, Φs, hP, h23_1, h23_11, h23_12, h23_15, h23_18, h23_21, h23_25, h23_29, h23_33, h23_37, h23_41, h23_45, h23_49, h23_53, h23_57, h23_61, h23_65, h23_68, h23_71, h23_75, h23_80, h23_83, h23_86, h23_89, h23_92]
  intro s24
  refine hK30 _ _ ?_
  try clear hK30 K30
  refine RX.live [1, 11, 12, 15, 18, 21, 25, 29, 33, 37, 41, 45, 49, 53, 57, 61, 65, 68, 71, 75, 80, 83, 86, 89, 92, 95] (fun T24 hT24 => ?_)
  simp only [go_sem, Φa, Φb, stK_e, Φc, Φd, ↓reduceIte, reduceCtorEq, Φe, Φf, Φg, Φh, Φi, Φj, Φk, Φl, Φm, Φn, Φo, Φp, Φq, Φr, Φs, forall_mem_cons', forall_mem_nil', hP, h23_1, h23_11, h23_12, h23_15, h23_18, h23_21, h23_25, h23_29, h23_33, h23_37, h23_41, h23_45, h23_49, h23_53, h23_57, h23_61, h23_65, h23_68, h23_71, h23_75, h23_80, h23_83, h23_86, h23_89, h23_92] at hT24
  obtain ⟨h24_1, h24_11, h24_12, h24_15, h24_18, h24_21, h24_25, h24_29, h24_33, h24_37, h24_41, h24_45, h24_49, h24_53, h24_57, h24_61, h24_65, h24_68, h24_71, h24_75, h24_80, h24_83, h24_86, h24_89, h24_92, h24_95⟩ := hT24
  clear h23_1 h23_11 h23_12 h23_15 h23_18 h23_21 h23_25 h23_29 h23_33 h23_37 h23_41 h23_45 h23_49 h23_53 h23_57 h23_61 h23_65 h23_68 h23_71 h23_75 h23_80 h23_83 h23_86 h23_89 h23_92 T23
  refine RX.cut_k 3 fun K31 hK31 => ?_
  simp (maxSteps := 1000000) only [go_sem, Φa, Φb, stK_e, Φc, Φd, ↓reduceIte, reduceCtorEq, Φe, Φf, Φg, Φh, Φi, Φj, Φk, Φl, Φm, Φn, Φo, Φp, Φq, Φr, Φs, hP, h24_1, h24_11, h24_12, h24_15, h24_18, h24_21, h24_25, h24_29, h24_33, h24_37, h24_41, h24_45, h24_49, h24_53, h24_57, h24_61, h24_65, h24_68, h24_71, h24_75, h24_80, h24_83, h24_86, h24_89, h24_92, h24_95]
  refine ⟨_, Cell.at 27 rfl rfl, _, Cell.at 27 rfl rfl, _, Cell.at 27 rfl rfl, _, Cell.at 27 rfl rfl, _, Cell.at 27 rfl rfl, ?_⟩
  try simp (maxSteps := 1000000) only [go_sem, Φa, Φb, stK_e, Φc, Φd, ↓reduceIte, reduceCtorEq, Φe, Φf, Φg, Φh, Φi, Φj, Φk, Φl, Φm, Φn, Φo, Φp, Φq, Φr, Φs, hP, h24_1, h24_11, h24_12, h24_15, h24_18, h24_21, h24_25, h24_29, h24_33, h24_37, h24_41, h24_45, h24_49, h24_53, h24_57, h24_61, h24_65, h24_68, h24_71, h24_75, h24_80, h24_83, h24_86, h24_89, h24_92, h24_95]
  intro s25
  refine hK31 _ _ ?_
  try clear hK31 K31
  refine RX.live [1, 11, 12, 15, 18, 21, 25, 29, 33, 37, 41, 45, 49, 53, 57, 61, 65, 68, 71, 75, 80, 83, 86, 89, 92, 95, 98] (fun T25 hT25 => ?_)
  simp only [go_sem, Φa, Φb, stK_e, Φc, Φd, ↓reduceIte, reduceCtorEq, Φe, Φf, Φg, Φh, Φi, Φj, Φk, Φl, Φm, Φn, Φo, Φp, Φq, Φr, Φs, forall_mem_cons', forall_mem_nil', hP, h24_1, h24_11, h24_12, h24_15, h24_18, h24_21, h24_25, h24_29, h24_33, h24_37, h24_41, h24_45, h24_49, h24_53, h24_57, h24_61, h24_65, h24_68, h24_71, h24_75, h24_80, h24_83, h24_86, h24_89, h24_92, h24_95] at hT25
  obtain ⟨h25_1, h25_11, h25_12, h25_15, h25_18, h25_21, h25_25, h25_29, h25_33, h25_37, h25_41, h25_45, h25_49, h25_53, h25_57, h25_61, h25_65, h25_68, h25_71, h25_75, h25_80, h25_83, h25_86, h25_89, h25_92, h25_95, h25_98⟩ := hT25
  clear h24_1 h24_11 h24_12 h24_15 h24_18 h24_21 h24_25 h24_29 h24_33 h24_37 h24_41 h24_45 h24_49 h24_53 h24_57 h24_61 h24_65 h24_68 h24_71 h24_75 h24_80 h24_83 h24_86 h24_89 h24_92 h24_95 T24
  refine RX.cut_k 3 fun K32 hK32 => ?_
  simp (maxSteps := 1000000) only [go_sem, Φa, Φb, stK_e, Φc, Φd, ↓reduceIte, reduceCtorEq, Φe, Φf, Φg, Φh, Φi, Φj, Φk, Φl, Φm, Φn, Φo, Φp, Φq, Φr, Φs, hP, h25_1, h25_11, h25_12, h25_15, h25_18, h25_21, h25_25, h25_29, h25_33, h25_37, h25_41, h25_45, h25_49, h25_53, h25_57, h25_61, h25_65, h25_68, h25_71, h25_75, h25_80, h25_83, h25_86, h25_89, h25_92, h25_95, h25_98]
  refine ⟨_, Cell.at 28 rfl rfl, _, Cell.at 28 rfl rfl, _, Cell.at 28 rfl rfl, _, Cell.at 28 rfl rfl, _, Cell.at 28 rfl rfl, ?_⟩
  try simp (maxSteps := 1000000) only [go_sem, Φa, Φb, stK_e, Φc, Φd, ↓reduceIte, reduceCtorEq, Φe, Φf, Φg, Φh, Φi, Φj, Φk, Φl, Φm, Φn, Φo, Φp, Φq, Φr, Φs, hP, h25_1, h25_11, h25_12, h25_15, h25_18, h25_21, h25_25, h25_29, h25_33, h25_37, h25_41, h25_45, h25_49, h25_53, h25_57, h25_61, h25_65, h25_68, h25_71, h25_75, h25_80, h25_83, h25_86, h25_89, h25_92, h25_95, h25_98]
  intro s26
  refine hK32 _ _ ?_
  try clear hK32 K32
  refine RX.live [1, 11, 12, 15, 18, 21, 25, 29, 33, 37, 41, 45, 49, 53, 57, 61, 65, 68, 71, 75, 80, 83, 86, 89, 92, 95, 98, 101] (fun T26 hT26 => ?_)
  simp only [go_sem, Φa, Φb, stK_e, Φc, Φd, ↓reduceIte, reduceCtorEq, Φe, Φf, Φg, Φh, Φi, Φj, Φk, Φl, Φm, Φn, Φo, Φp, Φq, Φr, Φs, forall_mem_cons', forall_mem_nil', hP, h25_1, h25_11, h25_12, h25_15, h25_18, h25_21, h25_25, h25_29, h25_33, h25_37, h25_41, h25_45, h25_49, h25_53, h25_57, h25_61, h25_65, h25_68, h25_71, h25_75, h25_80, h25_83, h25_86, h25_89, h25_92, h25_95, h25_98] at hT26
  obtain ⟨h26_1, h26_11, h26_12, h26_15, h26_18, h26_21, h26_25, h26_29, h26_33, h26_37, h26_41, h26_45, h26_49, h26_53, h26_57, h26_61, h26_65, h26_68, h26_71, h26_75, h26_80, h26_83, h26_86, h26_89, h26_92, h26_95, h26_98, h26_101⟩ := hT26
  clear h25_1 h25_11 h25_12 h25_15 h25_18 h25_21 h25_25 h25_29 h25_33 h25_37 h25_41 h25_45 h25_49 h25_53 h25_57 h25_61 h25_65 h25_68 h25_71 h25_75 h25_80 h25_83 h25_86 h25_89 h25_92 h25_95 h25_98 T25
  refine RX.cut_k 3 fun K33 hK33 => ?_
  simp (maxSteps := 1000000) only [go_sem, Φa, Φb, stK_e, Φc, Φd, ↓reduceIte, reduceCtorEq, Φe, Φf, Φg, Φh, Φi, Φj, Φk, Φl, Φm, Φn, Φo, Φp, Φq, Φr, Φs, hP, h26_1, h26_11, h26_12, h26_15, h26_18, h26_21, h26_25, h26_29, h26_33, h26_37, h26_41, h26_45, h26_49, h26_53, h26_57, h26_61, h26_65, h26_68, h26_71, h26_75, h26_80, h26_83, h26_86, h26_89, h26_92, h26_95, h26_98, h26_101]
  refine ⟨_, Cell.at 29 rfl rfl, _, Cell.at 29 rfl rfl, _, Cell.at 29 rfl rfl, _, Cell.at 29 rfl rfl, _, Cell.at 29 rfl rfl, ?_⟩
  try simp (maxSteps := 1000000) only [go_sem, Φa, Φb, stK_e, Φc, Φd, ↓reduceIte, reduceCtorEq, Φe, Φf, Φg, Φh, Φi, Φj, Φk, Φl, Φm, Φn, Φo, Φp, Φq, Φr, Φs, hP, h26_1, h26_11, h26_12, h26_15, h26_18, h26_21, h26_25, h26_29, h26_33, h26_37, h26_41, h26_45, h26_49, h26_53, h26_57, h26_61, h26_65, h26_68, h26_71, h26_75, h26_80, h26_83, h26_86, h26_89, h26_92, h26_95, h26_98, h26_101]
  intro s27
  refine hK33 _ _ ?_
  try clear hK33 K33
  refine RX.live [1, 11, 12, 15, 18, 21, 25, 29, 33, 37, 41, 45, 49, 53, 57, 61, 65, 68, 71, 75, 80, 83, 86, 89, 92, 95, 98, 101, 104] (fun T27 hT27 => ?_)
  simp only [go_sem, Φa, Φb, stK_e, Φc, Φd, ↓reduceIte, reduceCtorEq, Φe, Φf, Φg, Φh, Φi, Φj, Φk, Φl, Φm, Φn, Φo, Φp, Φq, Φr, Φs, forall_mem_cons', forall_mem_nil', hP, h26_1, h26_11, h26_12, h26_15, h26_18, h26_21, h26_25, h26_29, h26_33, h26_37, h26_41, h26_45, h26_49, h26_53, h26_57, h26_61, h26_65, h26_68, h26_71, h26_75, h26_80, h26_83, h26_86, h26_89, h26_92, h26_95, h26_98, h26_101] at hT27
  obtain ⟨h27_1, h27_11, h27_12, h27_15, h27_18, h27_21, h27_25, h27_29, h27_33, h27_37, h27_41, h27_45, h27_49, h27_53, h27_57, h27_61, h27_65, h27_68, h27_71, h27_75, h27_80, h27_83, h27_86, h27_89, h27_92, h27_95, h27_98, h27_101, h27_104⟩ := hT27
  clear h26_1 h26_11 h26_12 h26_15 h26_18 h26_21 h26_25 h26_29 h26_33 h26_37 h26_41 h26_45 h26_49 h26_53 h26_57 h26_61 h26_65 h26_68 h26_71 h26_75 h26_80 h26_83 h26_86 h26_89 h26_92 h26_95 h26_98 h26_101 T26
  refine RX.cut_k 3 fun K34 hK34 => ?_
  simp (maxSteps := 1000000) only [go_sem, Φa, Φb, stK_e, Φc, Φd, ↓reduceIte, reduceCtorEq, Φe, Φf, Φg, Φh, Φi, Φj, Φk, Φl, Φm, Φn, Φo, Φp, Φq, Φr, Φs, hP, h27_1, h27_11, h27_12, h27_15, h27_18, h27_21, h27_25, h27_29, h27_33, h27_37, h27_41, h27_45, h27_49, h27_53, h27_57, h27_61, h27_65, h27_68, h27_71, h27_75, h27_80, h27_83, h27_86, h27_89, h27_92, h27_95, h27_98, h27_101, h27_104]
  refine ⟨_, Cell.at 30 rfl rfl, _, Cell.at 30 rfl rfl, _, Cell.at 30 rfl rfl, _, Cell.at 30 rfl rfl, _, Cell.at 30 rfl rfl, ?_⟩
  try simp (maxSteps := 1000000) only [go_sem, Φa, Φb, stK_e, Φc, Φd, ↓reduceIte, reduceCtorEq, Φe, Φf, Φg, Φh, Φi, Φj, Φk, Φl, Φm, Φn, Φo, Φp, Φq, Φr, Φs, hP, h27_1, h27_11, h27_12, h27_15, h27_18, h27_21, h27_25, h27_29, h27_33, h27_37, h27_41, h27_45, h27_49, h27_53, h27_57, h27_61, h27_65, h27_68, h27_71, h27_75, h27_80, h27_83, h27_86, h27_89, h27_92, h27_95, h27_98, h27_101, h27_104]
  intro s28
  refine hK34 _ _ ?_
  try clear hK34 K34
  refine RX.live [1, 11, 12, 15, 18, 21, 25, 29, 33, 37, 41, 45, 49, 53, 57, 61, 65, 68, 71, 75, 80, 83, 86, 89, 92, 95, 98, 101, 104, 107] (fun T28 hT28 => ?_)
  simp only [go_sem, Φa, Φb, stK_e, Φc, Φd, ↓reduceIte, reduceCtorEq, Φe, Φf, Φg, Φh, Φi, Φj, Φk, Φl, Φm, Φn, Φo, Φp, Φq, Φr, Φs, forall_mem_cons', forall_mem_nil', hP, h27_1, h27_11, h27_12, h27_15, h27_18, h27_21, h27_25, h27_29, h27_33, h27_37, h27_41, h27_45, h27_49, h27_53, h27_57, h27_61, h27_65, h27_68, h27_71, h27_75, h27_80, h27_83, h27_86, h27_89, h27_92, h27_95, h27_98, h27_101, h27_104] at hT28
  obtain ⟨h28_1, h28_11, h28_12, h28_15, h28_18, h28_21, h28_25, h28_29, h28_33, h28_37, h28_41, h28_45, h28_49, h28_53, h28_57, h28_61, h28_65, h28_68, h28_71, h28_75, h28_80, h28_83, h28_86, h28_89, h28_92, h28_95, h28_98, h28_101, h28_104, h28_107⟩ := hT28
  clear h27_1 h27_11 h27_12 h27_15 h27_18 h27_21 h27_25 h27_29 h27_33 h27_37 h27_41 h27_45 h27_49 h27_53 h27_57 h27_61 h27_65 h27_68 h27_71 h27_75 h27_80 h27_83 h27_86 h27_89 h27_92 h27_95 h27_98 h27_101 h27_104 T27
  refine RX.cut_k 3 fun K35 hK35 => ?_
  simp (maxSteps := 1000000) only [go_sem, Φa, Φb, stK_e, Φc, Φd, ↓reduceIte, reduceCtorEq, Φe, Φf, Φg, Φh, Φi, Φj, Φk, Φl, Φm, Φn, Φo, Φp, Φq, Φr, Φs, hP, h28_1, h28_11, h28_12, h28_15, h28_18, h28_21, h28_25, h28_29, h28_33, h28_37, h28_41, h28_45, h28_49, h28_53, h28_57, h28_61, h28_65, h28_68, h28_71, h28_75, h28_80, h28_83, h28_86, h28_89, h28_92, h28_95, h28_98, h28_101, h28_104, h28_107]
  refine ⟨_, Cell.at 31 rfl rfl, _, Cell.at 31 rfl rfl, _, Cell.at 31 rfl rfl, _, Cell.at 31 rfl rfl, _, Cell.at 31 rfl rfl, ?_⟩
  try simp (maxSteps := 1000000) only [go_sem, Φa, Φb, stK_e, Φc, Φd, ↓reduceIte, reduceCtorEq, Φe, Φf, Φg, Φh, Φi, Φj, Φk, Φl, Φm, Φn, Φo, Φp, Φq, Φr, Φs, hP, h28_1, h28_11, h28_12, h28_15, h28_18, h28_21, h28_25, h28_29, h28_33, h28_37, h28_41, h28_45, h28_49, h28_53, h28_57, h28_61, h28_65, h28_68, h28_71, h28_75, h28_80, h28_83, h28_86, h28_89, h28_92, h28_95, h28_98, h28_101, h28_104, h28_107]
  intro s29
  refine hK35 _ _ ?_
  try clear hK35 K35
  refine RX.live [1, 11, 12, 15, 18, 21, 25, 29, 33, 37, 41, 45, 49, 53, 57, 61, 65, 68, 71, 75, 80, 83, 86, 89, 92, 95, 98, 101, 104, 107, 110] (fun T29 hT29 => ?_)
  simp only [go_sem, Φa, Φb, stK_e, Φc, Φd, ↓reduceIte, reduceCtorEq, Φe, Φf, Φg, Φh, Φi, Φj, Φk, Φl, Φm, Φn, Φo, Φp, Φq, Φr, Φs, forall_mem_cons', forall_mem_nil', hP, h28_1, h28_11, h28_12, h28_15, h28_18, h28_21, h28_25, h28_29, h28_33, h28_37, h28_41, h28_45, h28_49, h28_53, h28_57, h28_61, h28_65, h28_68, h28_71, h28_75, h28_80, h28_83, h28_86, h28_89, h28_92, h28_95, h28_98, h28_101, h28_104, h28_107] at hT29
  obtain ⟨h29_1, h29_11, h29_12, h29_15, h29_18, h29_21, h29_25, h29_29, h29_33, h29_37, h29_41, h29_45, h29_49, h29_53, h29_57, h29_61, h29_65, h29_68, h29_71, h29_75, h29_80, h29_83, h29_86, h29_89, h29_92, h29_95, h29_98, h29_101, h29_104, h29_107, h29_110⟩ := hT29
  clear h28_1 h28_11 h28_12 h28_15 h28_18 h28_21 h28_25 h28_29 h28_33 h28_37 h28_41 h28_45 h28_49 h28_53 h28_57 h28_61 h28_65 h28_68 h28_71 h28_75 h28_80 h28_83 h28_86 h28_89 h28_92 h28_95 h28_98 h28_101 h28_104 h28_107 T28
  refine RX.cut_k 3 fun K36 hK36 => ?_
  simp (maxSteps := 1000000) only [go_sem, Φa, Φb, stK_e, Φc, Φd, ↓reduceIte, reduceCtorEq, Φe, Φf, Φg, Φh, Φi, Φj, Φk, Φl, Φm, Φn, Φo, Φp, Φq, Φr, Φs, hP, h29_1, h29_11, h29_12, h29_15, h29_18, h29_21, h29_25, h29_29, h29_33, h29_37, h29_41, h29_45, h29_49, h29_53, h29_57, h29_61, h29_65, h29_68, h29_71, h29_75, h29_80, h29_83, h29_86, h29_89, h29_92, h29_95, h29_98, h29_101, h29_104, h29_107, h29_110]
  refine ⟨_, Cell.at 32 rfl rfl, _, Cell.at 32 rfl rfl, _, Cell.at 32 rfl rfl, _, Cell.at 32 rfl rfl, _, Cell.at 32 rfl rfl, ?_⟩
  try simp (maxSteps := 1000000) only [go_sem, Φa, Φb, stK_e, Φc, Φd, ↓reduceIte, reduceCtorEq, Φe, Φf, Φg, Φh, Φi, Φj, Φk, Φl, Φm, Φn, Φo, Φp, Φq, Φr, Φs, hP, h29_1, h29_11, h29_12, h29_15, h29_18, h29_21, h29_25, h29_29, h29_33, h29_37, h29_41, h29_45, h29_49, h29_53, h29_57, h29_61, h29_65, h29_68, h29_71, h29_75, h29_80, h29_83, h29_86, h29_89, h29_92, h29_95, h29_98, h29_101, h29_104, h29_107, h29_110]
  intro s30
  refine hK36 _ _ ?_
  try clear hK36 K36
  refine RX.live [11, 12, 15, 18, 21, 25, 29, 33, 37, 41, 45, 49, 53, 57, 61, 65, 68, 71, 75, 80, 83, 86, 89, 92, 95, 98, 101, 104, 107, 110, 113] (fun T30 hT30 => ?_)
  simp only [go_sem, Φa, Φb, stK_e, Φc, Φd, ↓reduceIte, reduceCtorEq, Φe, Φf, Φg, Φh, Φi, Φj, Φk, Φl, Φm, Φn, Φo, Φp, Φq, Φr, Φs, forall_mem_cons', forall_mem_nil', hP, h29_1, h29_11, h29_12, h29_15, h29_18, h29_21, h29_25, h29_29, h29_33, h29_37, h29_41, h29_45, h29_49, h29_53, h29_57, h29_61, h29_65, h29_68, h29_71, h29_75, h29_80, h29_83, h29_86, h29_89, h29_92, h29_95, h29_98, h29_101, h29_104, h29_107, h29_110] at hT30
  obtain ⟨h30_11, h30_12, h30_15, h30_18, h30_21, h30_25, h30_29, h30_33, h30_37, h30_41, h30_45, h30_49, h30_53, h30_57, h30_61, h30_65, h30_68, h30_71, h30_75, h30_80, h30_83, h30_86, h30_89, h30_92, h30_95, h30_98, h30_101, h30_104, h30_107, h30_110, h30_113⟩ := hT30
  clear h29_1 h29_11 h29_12 h29_15 h29_18 h29_21 h29_25 h29_29 h29_33 h29_37 h29_41 h29_45 h29_49 h29_53 h29_57 h29_61 h29_65 h29_68 h29_71 h29_75 h29_80 h29_83 h29_86 h29_89 h29_92 h29_95 h29_98 h29_101 h29_104 h29_107 h29_110 T29
  refine RX.done ?_
  simp (maxSteps := 1000000) only [go_sem, Φa, Φb, stK_e, Φc, Φd, ↓reduceIte, reduceCtorEq, Φe, Φf, Φg, Φh, Φi, Φj, Φk, Φl, Φm, Φn, Φo, Φp, Φq, Φr, Φs, hP, h30_11, h30_12, h30_15, h30_18, h30_21, h30_25, h30_29, h30_33, h30_37, h30_41, h30_45, h30_49, h30_53, h30_57, h30_61, h30_65, h30_68, h30_71, h30_75, h30_80, h30_83, h30_86, h30_89, h30_92, h30_95, h30_98, h30_101, h30_104, h30_107, h30_110, h30_113]
  intro R
  refine hK7 _ _ ?_
  try clear hK7 K7
  refine SX.ret ?_
  simp only [andThen_normal, andThen_ret, andThen_exit, inBlk_normal, inBlk_ret, inBlk_exit, Φc, if_true, if_false, ↓reduceIte, retQ_ret]
  try simp only [go_sem, Φa, Φb, stK_e, Φc, Φd, ↓reduceIte, reduceCtorEq, Φe, Φf, Φg, Φh, Φi, Φj, Φk, Φl, Φm, Φn, Φo, Φp, Φq, Φr, Φs, res0, res1, res2, res3, hP, h30_11, h30_12, h30_15, h30_18, h30_21, h30_25, h30_29, h30_33, h30_37, h30_41, h30_45, h30_49, h30_53, h30_57, h30_61, h30_65, h30_68, h30_71, h30_75, h30_80, h30_83, h30_86, h30_89, h30_92, h30_95, h30_98, h30_101, h30_104, h30_107, h30_110, h30_113]
  refine ⟨_, _, Less.refl _, rfl, [_, _, _, _, _, _, _, _, _, _, _, _, _, _, _, _, _, _, _, _, _, _, _, _, _, _, _, _, _, _, _, _, _, _, _], ⟨R, 0, none⟩, rfl, rfl, ?_⟩
  intro j r h
  exact match j, r, h with
    | 0, r, h => by cases h; exact ⟨_, fun K => ⟨Cell.at 0 rfl rfl, Cell.at 0 rfl rfl, Cell.at 0 rfl rfl, Cell.at 0 rfl rfl, Cell.at 0 rfl rfl, SlS.none⟩⟩
    | 1, r, h => by cases h; exact ⟨_, fun K => ⟨Cell.at 0 rfl rfl, Cell.at 0 rfl rfl, Cell.at 0 rfl rfl, Cell.at 0 rfl rfl, Cell.at 0 rfl rfl, SlS.none⟩⟩
    | 2, r, h => by cases h; exact ⟨_, fun K => ⟨Cell.at 0 rfl rfl, Cell.at 0 rfl rfl, Cell.at 0 rfl rfl, Cell.at 0 rfl rfl, Cell.at 0 rfl rfl, SlS.own (l := [.a]) Fd.cells_len 29 rfl rfl⟩⟩
    | 3, r, h => by cases h; exact ⟨_, fun K => ⟨Cell.at 0 rfl rfl, Cell.at 0 rfl rfl, Cell.at 0 rfl rfl, Cell.at 0 rfl rfl, Cell.at 0 rfl rfl, SlS.own (l := [.a]) Fd.cells_len 28 rfl rfl⟩⟩
    | 4, r, h => by cases h; exact ⟨_, fun K => ⟨Cell.at 0 rfl rfl, Cell.at 0 rfl rfl, Cell.at 0 rfl rfl, Cell.at 0 rfl rfl, Cell.at 0 rfl rfl, SlS.own (l := [.a]) Fd.cells_len 27 rfl rfl⟩⟩
    | 5, r, h => by cases h; exact ⟨_, fun K => ⟨Cell.at 0 rfl rfl, Cell.at 0 rfl rfl, Cell.at 0 rfl rfl, Cell.at 0 rfl rfl, Cell.at 0 rfl rfl, SlS.own (l := [.x, .b]) Fd.cells_len 26 rfl rfl⟩⟩
    | 6, r, h => by cases h; exact ⟨_, fun K => ⟨Cell.at 0 rfl rfl, Cell.at 0 rfl rfl, Cell.at 0 rfl rfl, Cell.at 0 rfl rfl, Cell.at 0 rfl rfl, SlS.own (l := [.x, .b]) Fd.cells_len 25 rfl rfl⟩⟩
    | 7, r, h => by cases h; exact ⟨_, fun K => ⟨Cell.at 0 rfl rfl, Cell.at 0 rfl rfl, Cell.at 0 rfl rfl, Cell.at 0 rfl rfl, Cell.at 0 rfl rfl, SlS.own (l := [.x, .y]) Fd.cells_len 24 rfl rfl⟩⟩
    | 8, r, h => by cases h; exact ⟨_, fun K => ⟨Cell.at 0 rfl rfl, Cell.at 0 rfl rfl, Cell.at 0 rfl rfl, Cell.at 0 rfl rfl, Cell.at 0 rfl rfl, SlS.own (l := [.x, .b]) Fd.cells_len 23 rfl rfl⟩⟩
    | 9, r, h => by cases h; exact ⟨_, fun K => ⟨Cell.at 0 rfl rfl, Cell.at 0 rfl rfl, Cell.at 0 rfl rfl, Cell.at 0 rfl rfl, Cell.at 0 rfl rfl, SlS.own (l := [.x, .b]) Fd.cells_len 22 rfl rfl⟩⟩
    | 10, r, h => by cases h; exact ⟨_, fun K => ⟨Cell.at 0 rfl rfl, Cell.at 0 rfl rfl, Cell.at 0 rfl rfl, Cell.at 0 rfl rfl, Cell.at 0 rfl rfl, SlS.own (l := [.x, .y]) Fd.cells_len 21 rfl rfl⟩⟩
    | 11, r, h => by cases h; exact ⟨_, fun K => ⟨Cell.at 0 rfl rfl, Cell.at 0 rfl rfl, Cell.at 0 rfl rfl, Cell.at 0 rfl rfl, Cell.at 0 rfl rfl, SlS.own (l := [.x, .y]) Fd.cells_len 20 rfl rfl⟩⟩
    | 12, r, h => by cases h; exact ⟨_, fun K => ⟨Cell.at 0 rfl rfl, Cell.at 0 rfl rfl, Cell.at 0 rfl rfl, Cell.at 0 rfl rfl, Cell.at 0 rfl rfl, SlS.own (l := [.x, .y]) Fd.cells_len 19 rfl rfl⟩⟩
    | 13, r, h => by cases h; exact ⟨_, fun K => ⟨Cell.at 0 rfl rfl, Cell.at 0 rfl rfl, Cell.at 0 rfl rfl, Cell.at 0 rfl rfl, Cell.at 0 rfl rfl, SlS.own (l := [.x, .y]) Fd.cells_len 18 rfl rfl⟩⟩
    | 14, r, h => by cases h; exact ⟨_, fun K => ⟨Cell.at 0 rfl rfl, Cell.at 0 rfl rfl, Cell.at 0 rfl rfl, Cell.at 0 rfl rfl, Cell.at 0 rfl rfl, SlS.own (l := [.x, .y]) Fd.cells_len 17 rfl rfl⟩⟩
    | 15, r, h => by cases h; exact ⟨_, fun K => ⟨Cell.at 0 rfl rfl, Cell.at 0 rfl rfl, Cell.at 0 rfl rfl, Cell.at 0 rfl rfl, Cell.at 0 rfl rfl, SlS.own (l := [.x, .y]) Fd.cells_len 16 rfl rfl⟩⟩
    | 16, r, h => by cases h; exact ⟨_, fun K => ⟨Cell.at 0 rfl rfl, Cell.at 0 rfl rfl, Cell.at 0 rfl rfl, Cell.at 0 rfl rfl, Cell.at 0 rfl rfl, SlS.own (l := [.a]) Fd.cells_len 15 rfl rfl⟩⟩
    | 17, r, h => by cases h; exact ⟨_, fun K => ⟨Cell.at 0 rfl rfl, Cell.at 0 rfl rfl, Cell.at 0 rfl rfl, Cell.at 0 rfl rfl, Cell.at 0 rfl rfl, SlS.own (l := [.a]) Fd.cells_len 14 rfl rfl⟩⟩
    | 18, r, h => by cases h; exact ⟨_, fun K => ⟨Cell.at 0 rfl rfl, Cell.at 0 rfl rfl, Cell.at 0 rfl rfl, Cell.at 0 rfl rfl, Cell.at 0 rfl rfl, SlS.own (l := [.x, .b]) Fd.cells_len 13 rfl rfl⟩⟩
    | 19, r, h => by cases h; exact ⟨_, fun K => ⟨Cell.at 0 rfl rfl, Cell.at 0 rfl rfl, Cell.at 0 rfl rfl, Cell.at 0 rfl rfl, Cell.at 0 rfl rfl, SlS.own (l := [.x, .y, .n]) Fd.cells_len 12 rfl rfl⟩⟩
    | 20, r, h => by cases h; exact ⟨_, fun K => ⟨Cell.at 0 rfl rfl, Cell.at 0 rfl rfl, Cell.at 0 rfl rfl, Cell.at 0 rfl rfl, Cell.at 0 rfl rfl, SlS.own (l := [.x]) Fd.cells_len 11 rfl rfl⟩⟩
    | 21, r, h => by cases h; exact ⟨_, fun K => ⟨Cell.at 0 rfl rfl, Cell.at 0 rfl rfl, Cell.at 0 rfl rfl, Cell.at 0 rfl rfl, Cell.at 0 rfl rfl, SlS.own (l := [.x]) Fd.cells_len 10 rfl rfl⟩⟩
    | 22, r, h => by cases h; exact ⟨_, fun K => ⟨Cell.at 0 rfl rfl, Cell.at 0 rfl rfl, Cell.at 0 rfl rfl, Cell.at 0 rfl rfl, Cell.at 0 rfl rfl, SlS.own (l := [.x]) Fd.cells_len 9 rfl rfl⟩⟩
    | 23, r, h => by cases h; exact ⟨_, fun K => ⟨Cell.at 0 rfl rfl, Cell.at 0 rfl rfl, Cell.at 0 rfl rfl, Cell.at 0 rfl rfl, Cell.at 0 rfl rfl, SlS.own (l := [.x]) Fd.cells_len 8 rfl rfl⟩⟩
    | 24, r, h => by cases h; exact ⟨_, fun K => ⟨Cell.at 0 rfl rfl, Cell.at 0 rfl rfl, Cell.at 0 rfl rfl, Cell.at 0 rfl rfl, Cell.at 0 rfl rfl, SlS.own (l := [.x]) Fd.cells_len 7 rfl rfl⟩⟩
    | 25, r, h => by cases h; exact ⟨_, fun K => ⟨Cell.at 0 rfl rfl, Cell.at 0 rfl rfl, Cell.at 0 rfl rfl, Cell.at 0 rfl rfl, Cell.at 0 rfl rfl, SlS.own (l := [.x]) Fd.cells_len 6 rfl rfl⟩⟩
    | 26, r, h => by cases h; exact ⟨_, fun K => ⟨Cell.at 0 rfl rfl, Cell.at 0 rfl rfl, Cell.at 0 rfl rfl, Cell.at 0 rfl rfl, Cell.at 0 rfl rfl, SlS.own (l := [.x]) Fd.cells_len 5 rfl rfl⟩⟩
    | 27, r, h => by cases h; exact ⟨_, fun K => ⟨Cell.at 0 rfl rfl, Cell.at 0 rfl rfl, Cell.at 0 rfl rfl, Cell.at 0 rfl rfl, Cell.at 0 rfl rfl, SlS.own (l := [.x]) Fd.cells_len 4 rfl rfl⟩⟩
    | 28, r, h => by cases h; exact ⟨_, fun K => ⟨Cell.at 0 rfl rfl, Cell.at 0 rfl rfl, Cell.at 0 rfl rfl, Cell.at 0 rfl rfl, Cell.at 0 rfl rfl, SlS.own (l := [.x]) Fd.cells_len 3 rfl rfl⟩⟩
    | 29, r, h => by cases h; exact ⟨_, fun K => ⟨Cell.at 0 rfl rfl, Cell.at 0 rfl rfl, Cell.at 0 rfl rfl, Cell.at 0 rfl rfl, Cell.at 0 rfl rfl, SlS.own (l := [.x]) Fd.cells_len 2 rfl rfl⟩⟩
    | 30, r, h => by cases h; exact ⟨_, fun K => ⟨Cell.at 0 rfl rfl, Cell.at 0 rfl rfl, Cell.at 0 rfl rfl, Cell.at 0 rfl rfl, Cell.at 0 rfl rfl, SlS.own (l := [.x]) Fd.cells_len 1 rfl rfl⟩⟩
    | j + 31, r, h => by simp [table] at h

end Go.Proofs.YthhogfnghaikaaaDoor
