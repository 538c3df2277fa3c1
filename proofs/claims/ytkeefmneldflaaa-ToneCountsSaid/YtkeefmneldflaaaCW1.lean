/- A part of the proof of ToneCountsSaid. -/
import Derived.Test.YtkeefmneldflaaaCSxIn
import Derived.Test.YtkeefmneldflaaaCSxNum
import Derived.Test.YtkeefmneldflaaaCSxT
set_option linter.unusedVariables false
set_option linter.unusedSimpArgs false
namespace Go.Proofs.Ytkeefmneldflaaa
open Go.RowKit Go.SX
open Go.SX renaming andThen_normal → Φa
open Nat renaming reduceEqDiff → Φb
open Bool renaming not_false → Φc, false_eq_true → Φd, true_eq_false → Φe, not_eq_true' → Φf, not_eq_false' → Φg, not_eq_true → Φi, not_eq_false → Φj, and_false → Φl, false_and → Φm
open Decidable renaming not_not → Φh
open Int renaming natCast_inj → Φk

/-- The first place from i on at which the level is another one. -/
def stop (qs : List Bool) (q : Bool) : Nat → Nat → Nat
  | 0, i => i
  | f + 1, i => if qs.getD i false = q then stop qs q f (i + 1) else i
def stopAt (qs : List Bool) (q : Bool) (i : Nat) : Nat := stop qs q (qs.length - i) i
theorem stopAt_yes {qs : List Bool} {q : Bool} {i : Nat} (hi : i < qs.length) (h : qs.getD i false = q) : stopAt qs q i = stopAt qs q (i + 1) := by
  obtain ⟨f, hf⟩ : ∃ f, qs.length - i = f + 1 := ⟨qs.length - i - 1, by omega⟩
  rw [stopAt, hf, stop, if_pos h, stopAt, show qs.length - (i + 1) = f by omega]
theorem stopAt_no {qs : List Bool} {q : Bool} {i : Nat} (h : i < qs.length → qs.getD i false ≠ q) : stopAt qs q i = i := by
  by_cases hi : i < qs.length
  · obtain ⟨f, hf⟩ : ∃ f, qs.length - i = f + 1 := ⟨qs.length - i - 1, by omega⟩
    rw [stopAt, hf, stop, if_neg (h hi)]
  · rw [stopAt, show qs.length - i = 0 by omega, stop]
abbrev Rw := Nat × Nat × Bool
def rowsF (qs : List Bool) : Nat → Nat → List Rw
  | 0, _ => []
  | f + 1, i => if i < qs.length then (i, stopAt qs (qs.getD i false) (i + 1), qs.getD i false) :: rowsF qs f (stopAt qs (qs.getD i false) (i + 1)) else []
def rowsAt (qs : List Bool) (i : Nat) : List Rw := rowsF qs (qs.length - i) i
def rows (qs : List Bool) : List Rw := rowsAt qs 0
theorem stop_le (qs : List Bool) (q : Bool) : ∀ f i, i ≤ stop qs q f i ∧ stop qs q f i ≤ i + f
  | 0, i => ⟨Nat.le_refl _, by rw [stop]; omega⟩
  | f + 1, i => by
    have := stop_le qs q f (i + 1)
    rw [stop]
    split <;> omega
theorem stopAt_ge (qs : List Bool) (q : Bool) (i : Nat) : i ≤ stopAt qs q i := (stop_le qs q _ i).1
theorem stopAt_le {qs : List Bool} {q : Bool} {i : Nat} (h : i ≤ qs.length) : stopAt qs q i ≤ qs.length := by
  have := (stop_le qs q (qs.length - i) i).2
  rw [stopAt]; omega
theorem rowsF_more (qs : List Bool) : ∀ f g i, qs.length - i ≤ f → qs.length - i ≤ g → rowsF qs f i = rowsF qs g i
  | 0, 0, _, _, _ => rfl
  | 0, g + 1, i, h, _ => by rw [rowsF, rowsF, if_neg (by omega)]
  | f + 1, 0, i, _, h => by rw [rowsF, rowsF, if_neg (by omega)]
  | f + 1, g + 1, i, h1, h2 => by
    rw [rowsF, rowsF]
    split
    · have := stopAt_ge qs (qs.getD i false) (i + 1)
      rw [rowsF_more qs f g _ (by omega) (by omega)]
    · rfl
theorem rowsAt_cons {qs : List Bool} {i : Nat} (h : i < qs.length) : rowsAt qs i = (i, stopAt qs (qs.getD i false) (i + 1), qs.getD i false) :: rowsAt qs (stopAt qs (qs.getD i false) (i + 1)) := by
  obtain ⟨f, hf⟩ : ∃ f, qs.length - i = f + 1 := ⟨qs.length - i - 1, by omega⟩
  have := stopAt_ge qs (qs.getD i false) (i + 1)
  rw [rowsAt, hf, rowsF, if_pos h, rowsAt, rowsF_more qs f _ _ (by omega) (Nat.le_refl _)]
theorem rowsAt_end {qs : List Bool} {i : Nat} (h : ¬ i < qs.length) : rowsAt qs i = [] := by
  rw [rowsAt, show qs.length - i = 0 by omega, rowsF]
theorem rowsF_len (qs : List Bool) : ∀ f i, (rowsF qs f i).length ≤ f
  | 0, _ => Nat.le_refl _
  | f + 1, i => by
    rw [rowsF]
    split
    · have := rowsF_len qs f (stopAt qs (qs.getD i false) (i + 1))
      simp only [List.length_cons]; omega
    · exact Nat.zero_le _
theorem rows_len (qs : List Bool) : (rows qs).length ≤ qs.length := rowsF_len qs _ 0
/-- What the iterator reads: the box of the trace, and Q of its records. -/
structure SrcQ (p : Addr) (A : Option Addr) (c : Nat) (qs : List Bool) (W : World) : Prop where
  box : W.cell? p = some (.slice A qs.length c)
  le : qs.length ≤ c
  q : ∀ j, j < qs.length → ∃ a, A = some a ∧ W.cell? (a.add (j * 8 + 6)) = some (.bool (qs.getD j false))
def encR (x : Rw) : Array Value := #[.agg #[.int .i64 (x.1 : Int), .int .i64 (x.2.1 : Int), .bool x.2.2]]
theorem SrcQ.still {p : Addr} {A : Option Addr} {c : Nat} {qs : List Bool} {W W' : World} {P : Program} (h : SrcQ p A c qs W) (hs : Still P W W') : SrcQ p A c qs W' := by
  have key : ∀ (a : Addr) v, W.cell? a = some v → W'.cell? a = some v := fun a v hv => by
    have hb : a.block < W.heap.size := by
      unfold World.cell? at hv
      cases hx : W.heap[a.block]? with
      | none => rw [hx] at hv; cases hv
      | some o => exact (Array.getElem?_eq_some_iff.1 hx).1
    rw [World.cell?_of_block (hs.block hb)]; exact hv
  exact ⟨key _ _ h.box, h.le, fun j hj => let ⟨a, h1, h2⟩ := h.q j hj; ⟨a, h1, key _ _ h2⟩⟩
set_option maxHeartbeats 1000000 in
set_option maxRecDepth 100000 in
theorem rows_iter {m : Nat} {p : Addr} {A : Option Addr} {c : Nat} {qs : List Bool} {w0 : World} {Kp : World → World → Prop} (hsrc : ∀ W, Below w0.heap.size w0 W → SrcQ p A c qs W) (hKp : ∀ W W', Kp W W' → SrcQ p A c qs W → SrcQ p A c qs W') (hm : qs.length < 9223372036854775807) :
    SeqStopsK (FR none) m Try.prog 24 #[.pointer (some p)] encR Kp (fun xs => xs = rows qs) (fun _ => True) (qs.length + 1) w0 := by
  intro l J Jx W0 hb hJ hJx hY h0
  refine callsIn_FR.2 ?_
  have hJs : ∀ pre W W', Still Try.prog W W' → J pre W → J pre W' := fun pre W W' hs h => hJ pre W W' none h hs.grown (fun r e => by cases e)
  have hJxs : ∀ pre W W', Still Try.prog W W' → Jx pre W → Jx pre W' := fun pre W W' hs h => hJx pre W W' none h hs.grown (fun r e => by cases e)
  refine GX.enter (n := 42) (args := [.func (.yield l) #[] #[], .pointer (some p)]) Try.func24 rfl rfl (by simp) rfl ?_
  let I : (List Rw × Nat) → Env → World → Prop := fun s U w => (U 0 = .func (.yield l) #[] #[] ∧ U 1 = .pointer (some p) ∧ U 3 = .int .i64 (s.2 : Int)) ∧ SrcQ p A c qs w ∧ J s.1 w ∧ s.1 ++ rowsAt qs s.2 = rows qs ∧ s.2 ≤ qs.length
  refine GX.seq (K := fun U w => I ([], 0) U w) ?_ fun U w hI => ?_
  · refine GX.still ?_
    refine SX.to_k fun Q' hQ' => ?_
    obtain ⟨Γ, hΓ⟩ : ∃ Γ, Γ = (⟨Try.prog, W0, []⟩ : Ctx) := ⟨_, rfl⟩
    rw [← hΓ]
    have hP : Γ.P = Try.prog := by rw [hΓ]
    refine SX.region ?_
    simp (maxSteps := 1000000) only [upd_app, env0_zero, env0_succ, env0_nil, ev, Φa, andThen_ret, andThen_exit, inBlk_normal, inBlk_ret, inBlk_exit, Φb, Nat.reduceBEq, reduceIte, reduceCtorEq, if_true, if_false, Bool.not_true, Φc, Φd, Φe, true_and, and_true, false_and, and_false, true_implies, forall_const, false_implies, ne_eq, not_true_eq_false, not_false_eq_true, decide_true, decide_false, Int.reduceEq, and_self, true_or, or_true, dite_true, dite_false, Φf, Φg, decide_eq_true_eq, decide_eq_false_iff_not, Φh, Φi, Φj, Φk, beq_self_eq_true, Bool.and_true, Bool.true_and, Bool.and_self, Φl, Φm, eq_self, VCplan, less_refl_t, less_drop_t, VCops, VQops, guardVC, putVC, VC, VQ, Option.map_some, Option.map_none, Option.bind_some, Option.bind_none, Option.isSome_some, Option.isSome_none, Option.some.injEq, List.getElem?_cons_zero, List.getElem?_cons_succ, List.getElem?_nil, List.getElem?_toArray, List.map_cons, List.map_nil, List.map_toArray, List.toList_toArray, List.append_toArray, List.nil_append, List.cons_append, List.append_nil, List.flatMap_cons, List.flatMap_nil, List.length_cons, List.length_nil, List.set_cons_zero, List.set_cons_succ, List.drop_zero, List.drop_succ_cons, List.take_succ_cons, List.take_zero, List.size_toArray, Nat.reduceLT, Nat.reduceLeDiff, Nat.reduceAdd, Nat.reduceMul, Nat.reduceSub, Nat.add_zero, Nat.zero_add, Nat.mul_one, exists_eq_left, exists_eq_left', exists_const, existsSome, Nat.zero_le, Nat.le_refl, hP]
    refine hQ' _ _ _ ?_
    intro w' hs'
    exact ⟨⟨rfl, rfl, rfl⟩, hsrc w' (hb.trans ⟨hs'.os, hs'.tape, hs'.output, hs'.size, fun k hk => hs'.block (Nat.lt_of_lt_of_le hk hb.size)⟩), hJs _ _ _ hs' h0, rfl, Nat.zero_le _⟩
  refine GX.block ?_
  refine GX.loop I (fun s => qs.length - s.2) ([], 0) hI ?_
  clear hI U w
  rintro ⟨pre, i⟩ U w ⟨⟨h0, h1, h3⟩, hs, hj, hr, hi⟩
  dsimp only at h3 hj hr hi
  have hpl : pre.length ≤ qs.length := by have := congrArg List.length hr; rw [List.length_append] at this; have := rows_len qs; omega
  refine GX.seq (K := fun U' w' => (U' 0 = .func (.yield l) #[] #[] ∧ U' 1 = .pointer (some p) ∧ U' 3 = .int .i64 (i : Int)) ∧ SrcQ p A c qs w' ∧ J pre w' ∧ i < qs.length) ?_ ?_
  · refine GX.still ?_
    obtain ⟨Γ, hΓ⟩ : ∃ Γ, Γ = (⟨Try.prog, w, []⟩ : Ctx) := ⟨_, rfl⟩
    rw [← hΓ]
    have hP : Γ.P = Try.prog := by rw [hΓ]
    have hsl : Cell Γ [] p (.slice (A) qs.length c) := by rw [hΓ]; exact Cell.old (by simp) hs.box
    refine SX.to_k fun Q' hQ' => ?_
    refine SX.seq_k fun K1 hK1 => ?_
    refine SX.region ?_
    simp (maxSteps := 1000000) only [upd_app, env0_zero, env0_succ, env0_nil, ev, Φa, andThen_ret, andThen_exit, inBlk_normal, inBlk_ret, inBlk_exit, Φb, Nat.reduceBEq, reduceIte, reduceCtorEq, if_true, if_false, Bool.not_true, Φc, Φd, Φe, true_and, and_true, false_and, and_false, true_implies, forall_const, false_implies, ne_eq, not_true_eq_false, not_false_eq_true, decide_true, decide_false, Int.reduceEq, and_self, true_or, or_true, dite_true, dite_false, Φf, Φg, decide_eq_true_eq, decide_eq_false_iff_not, Φh, Φi, Φj, Φk, beq_self_eq_true, Bool.and_true, Bool.true_and, Bool.and_self, Φl, Φm, eq_self, VCplan, less_refl_t, less_drop_t, VCops, VQops, guardVC, putVC, VC, VQ, Option.map_some, Option.map_none, Option.bind_some, Option.bind_none, Option.isSome_some, Option.isSome_none, Option.some.injEq, List.getElem?_cons_zero, List.getElem?_cons_succ, List.getElem?_nil, List.getElem?_toArray, List.map_cons, List.map_nil, List.map_toArray, List.toList_toArray, List.append_toArray, List.nil_append, List.cons_append, List.append_nil, List.flatMap_cons, List.flatMap_nil, List.length_cons, List.length_nil, List.set_cons_zero, List.set_cons_succ, List.drop_zero, List.drop_succ_cons, List.take_succ_cons, List.take_zero, List.size_toArray, Nat.reduceLT, Nat.reduceLeDiff, Nat.reduceAdd, Nat.reduceMul, Nat.reduceSub, Nat.add_zero, Nat.zero_add, Nat.mul_one, exists_eq_left, exists_eq_left', exists_const, existsSome, Nat.zero_le, Nat.le_refl, ld_ptr, loadVC, loadN, Addr.add_lit, Addr.add_zero', add_addS, Int.toNat_natCast, Int.toNat_zero, Int.toNat_one, Int.reduceToNat, T.elS_22, T.szA_22, T.zr_22, Try.underlying22, qcall_f, call_f, len_slice, len_str, cap_slice, min_int, max_int, bin_lss, hP, h0, h1, h3]
    refine ⟨_, hsl, ?_⟩
    try simp (maxSteps := 1000000) only [upd_app, env0_zero, env0_succ, env0_nil, ev, Φa, andThen_ret, andThen_exit, inBlk_normal, inBlk_ret, inBlk_exit, Φb, Nat.reduceBEq, reduceIte, reduceCtorEq, if_true, if_false, Bool.not_true, Φc, Φd, Φe, true_and, and_true, false_and, and_false, true_implies, forall_const, false_implies, ne_eq, not_true_eq_false, not_false_eq_true, decide_true, decide_false, Int.reduceEq, and_self, true_or, or_true, dite_true, dite_false, Φf, Φg, decide_eq_true_eq, decide_eq_false_iff_not, Φh, Φi, Φj, Φk, beq_self_eq_true, Bool.and_true, Bool.true_and, Bool.and_self, Φl, Φm, eq_self, VCplan, less_refl_t, less_drop_t, VCops, VQops, guardVC, putVC, VC, VQ, Option.map_some, Option.map_none, Option.bind_some, Option.bind_none, Option.isSome_some, Option.isSome_none, Option.some.injEq, List.getElem?_cons_zero, List.getElem?_cons_succ, List.getElem?_nil, List.getElem?_toArray, List.map_cons, List.map_nil, List.map_toArray, List.toList_toArray, List.append_toArray, List.nil_append, List.cons_append, List.append_nil, List.flatMap_cons, List.flatMap_nil, List.length_cons, List.length_nil, List.set_cons_zero, List.set_cons_succ, List.drop_zero, List.drop_succ_cons, List.take_succ_cons, List.take_zero, List.size_toArray, Nat.reduceLT, Nat.reduceLeDiff, Nat.reduceAdd, Nat.reduceMul, Nat.reduceSub, Nat.add_zero, Nat.zero_add, Nat.mul_one, exists_eq_left, exists_eq_left', exists_const, existsSome, Nat.zero_le, Nat.le_refl, ld_ptr, loadVC, loadN, Addr.add_lit, Addr.add_zero', add_addS, Int.toNat_natCast, Int.toNat_zero, Int.toNat_one, Int.reduceToNat, T.elS_22, T.szA_22, T.zr_22, Try.underlying22, qcall_f, call_f, len_slice, len_str, cap_slice, min_int, max_int, bin_lss, hP, h0, h1, h3]
    refine hK1 _ _ ?_
    try clear hK1 K1
    refine SX.cond_k fun X2 Y2 hX2 hY2 => ?_
    simp (maxSteps := 1000000) only [upd_app, env0_zero, env0_succ, env0_nil, ev, Φa, andThen_ret, andThen_exit, inBlk_normal, inBlk_ret, inBlk_exit, Φb, Nat.reduceBEq, reduceIte, reduceCtorEq, if_true, if_false, Bool.not_true, Φc, Φd, Φe, true_and, and_true, false_and, and_false, true_implies, forall_const, false_implies, ne_eq, not_true_eq_false, not_false_eq_true, decide_true, decide_false, Int.reduceEq, and_self, true_or, or_true, dite_true, dite_false, Φf, Φg, decide_eq_true_eq, decide_eq_false_iff_not, Φh, Φi, Φj, Φk, beq_self_eq_true, Bool.and_true, Bool.true_and, Bool.and_self, Φl, Φm, eq_self, hP, h0, h1, h3, condVC]
    refine ⟨fun hc8 => hX2 ?_, fun hc8 => hY2 ?_⟩
    · clear hX2 hY2 X2 Y2
      refine SX.skip ?_
      try simp only [Φa, andThen_ret, andThen_exit, inBlk_normal, inBlk_ret, inBlk_exit, Φb, if_true, if_false, reduceIte]
      refine hQ' _ _ _ ?_
      intro w' hs'
      refine ⟨⟨?_, ?_, ?_⟩, hs.still hs', hJs _ _ _ hs' hj, by omega⟩
      all_goals (simp (maxSteps := 1000000) only [upd_app, env0_zero, env0_succ, env0_nil, ev, Φa, andThen_ret, andThen_exit, inBlk_normal, inBlk_ret, inBlk_exit, Φb, Nat.reduceBEq, reduceIte, reduceCtorEq, if_true, if_false, Bool.not_true, Φc, Φd, Φe, true_and, and_true, false_and, and_false, true_implies, forall_const, false_implies, ne_eq, not_true_eq_false, not_false_eq_true, decide_true, decide_false, Int.reduceEq, and_self, true_or, or_true, dite_true, dite_false, Φf, Φg, decide_eq_true_eq, decide_eq_false_iff_not, Φh, Φi, Φj, Φk, beq_self_eq_true, Bool.and_true, Bool.true_and, Bool.and_self, Φl, Φm, eq_self, hP, h0, h1, h3]; done)
    · clear hX2 hY2 X2 Y2
      refine SX.exit ?_
      try simp only [Φa, andThen_ret, andThen_exit, inBlk_normal, inBlk_ret, inBlk_exit, Φb, if_true, if_false, reduceIte]
      refine hQ' _ _ _ ?_
      intro w' hs'
      rw [rowsAt_end (by omega), List.append_nil] at hr
      exact .inl ⟨pre, hr, hJs _ _ _ hs' hj⟩
  clear h0 h1 h3 hs hj U w
  rintro U w ⟨⟨h0, h1, h3⟩, hs, hj, hil⟩
  obtain ⟨a, rfl, -⟩ := hs.q i hil
  refine GX.block ?_
  refine GX.seq (K := fun U' w' => (U' 0 = .func (.yield l) #[] #[] ∧ U' 1 = .pointer (some p) ∧ U' 3 = .int .i64 (i : Int) ∧ U' 4 = .int .i64 ((i : Int) + 1)) ∧ SrcQ p (some a) c qs w' ∧ J pre w') ?_ ?_
  · refine GX.still ?_
    obtain ⟨Γ, hΓ⟩ : ∃ Γ, Γ = (⟨Try.prog, w, []⟩ : Ctx) := ⟨_, rfl⟩
    rw [← hΓ]
    have hP : Γ.P = Try.prog := by rw [hΓ]
    have hsl : Cell Γ [] p (.slice (some a) qs.length c) := by rw [hΓ]; exact Cell.old (by simp) hs.box
    refine SX.to_k fun Q' hQ' => ?_
    refine SX.region ?_
    simp (maxSteps := 1000000) only [upd_app, env0_zero, env0_succ, env0_nil, ev, Φa, andThen_ret, andThen_exit, inBlk_normal, inBlk_ret, inBlk_exit, Φb, Nat.reduceBEq, reduceIte, reduceCtorEq, if_true, if_false, Bool.not_true, Φc, Φd, Φe, true_and, and_true, false_and, and_false, true_implies, forall_const, false_implies, ne_eq, not_true_eq_false, not_false_eq_true, decide_true, decide_false, Int.reduceEq, and_self, true_or, or_true, dite_true, dite_false, Φf, Φg, decide_eq_true_eq, decide_eq_false_iff_not, Φh, Φi, Φj, Φk, beq_self_eq_true, Bool.and_true, Bool.true_and, Bool.and_self, Φl, Φm, eq_self, VCplan, less_refl_t, less_drop_t, VCops, VQops, guardVC, putVC, VC, VQ, Option.map_some, Option.map_none, Option.bind_some, Option.bind_none, Option.isSome_some, Option.isSome_none, Option.some.injEq, List.getElem?_cons_zero, List.getElem?_cons_succ, List.getElem?_nil, List.getElem?_toArray, List.map_cons, List.map_nil, List.map_toArray, List.toList_toArray, List.append_toArray, List.nil_append, List.cons_append, List.append_nil, List.flatMap_cons, List.flatMap_nil, List.length_cons, List.length_nil, List.set_cons_zero, List.set_cons_succ, List.drop_zero, List.drop_succ_cons, List.take_succ_cons, List.take_zero, List.size_toArray, Nat.reduceLT, Nat.reduceLeDiff, Nat.reduceAdd, Nat.reduceMul, Nat.reduceSub, Nat.add_zero, Nat.zero_add, Nat.mul_one, exists_eq_left, exists_eq_left', exists_const, existsSome, Nat.zero_le, Nat.le_refl, bin_add, bin_adds, hP, h0, h1, h3]
    refine hQ' _ _ _ ?_
    intro w' hs'
    refine ⟨⟨?_, ?_, ?_, ?_⟩, hs.still hs', hJs _ _ _ hs' hj⟩
    all_goals (first | (simp (maxSteps := 1000000) only [upd_app, env0_zero, env0_succ, env0_nil, ev, Φa, andThen_ret, andThen_exit, inBlk_normal, inBlk_ret, inBlk_exit, Φb, Nat.reduceBEq, reduceIte, reduceCtorEq, if_true, if_false, Bool.not_true, Φc, Φd, Φe, true_and, and_true, false_and, and_false, true_implies, forall_const, false_implies, ne_eq, not_true_eq_false, not_false_eq_true, decide_true, decide_false, Int.reduceEq, and_self, true_or, or_true, dite_true, dite_false, Φf, Φg, decide_eq_true_eq, decide_eq_false_iff_not, Φh, Φi, Φj, Φk, beq_self_eq_true, Bool.and_true, Bool.true_and, Bool.and_self, Φl, Φm, eq_self, hP, h0, h1, h3]; done) | (simp (maxSteps := 1000000) only [upd_app, env0_zero, env0_succ, env0_nil, ev, Φa, andThen_ret, andThen_exit, inBlk_normal, inBlk_ret, inBlk_exit, Φb, Nat.reduceBEq, reduceIte, reduceCtorEq, if_true, if_false, Bool.not_true, Φc, Φd, Φe, true_and, and_true, false_and, and_false, true_implies, forall_const, false_implies, ne_eq, not_true_eq_false, not_false_eq_true, decide_true, decide_false, Int.reduceEq, and_self, true_or, or_true, dite_true, dite_false, Φf, Φg, decide_eq_true_eq, decide_eq_false_iff_not, Φh, Φi, Φj, Φk, beq_self_eq_true, Bool.and_true, Bool.true_and, Bool.and_self, Φl, Φm, eq_self, hP, h0, h1, h3]; rw [w64 (by omega)]))
  clear h0 h1 h3 hs hj U w
  rintro U w ⟨⟨h0, h1, h3, h4⟩, hs, hj⟩
  refine GX.seq (K := fun U' w' => (U' 0 = .func (.yield l) #[] #[] ∧ U' 1 = .pointer (some p) ∧ U' 3 = .int .i64 (i : Int) ∧ U' 4 = .int .i64 (stopAt qs (qs.getD i false) (i + 1) : Nat)) ∧ SrcQ p (some a) c qs w' ∧ J pre w') ?_ ?_
  · refine GX.still ?_
    obtain ⟨Γ, hΓ⟩ : ∃ Γ, Γ = (⟨Try.prog, w, []⟩ : Ctx) := ⟨_, rfl⟩
    rw [← hΓ]
    have hP : Γ.P = Try.prog := by rw [hΓ]
    have hsl : Cell Γ [] p (.slice (some a) qs.length c) := by rw [hΓ]; exact Cell.old (by simp) hs.box
    have hQ : ∀ j, j < qs.length → Cell Γ [] (a.add (j * 8 + 6)) (.bool (qs.getD j false)) := fun j hj => by
      obtain ⟨a', ha, h⟩ := hs.q j hj
      cases ha
      rw [hΓ]; exact Cell.old (by simp) h
    refine SX.to_k fun Q' hQ' => ?_
    refine SX.block ?_
    refine SX.live [0, 1, 3, 4] (fun T1 hT1 => ?_)
    simp only [forall_mem_cons', forall_mem_nil', upd_app, env0_zero, env0_succ, env0_nil, ev, Φa, andThen_ret, andThen_exit, inBlk_normal, inBlk_ret, inBlk_exit, Φb, Nat.reduceBEq, reduceIte, reduceCtorEq, if_true, if_false, Bool.not_true, Φc, Φd, Φe, true_and, and_true, false_and, and_false, true_implies, forall_const, false_implies, ne_eq, not_true_eq_false, not_false_eq_true, decide_true, decide_false, Int.reduceEq, and_self, true_or, or_true, dite_true, dite_false, Φf, Φg, decide_eq_true_eq, decide_eq_false_iff_not, Φh, Φi, Φj, Φk, beq_self_eq_true, Bool.and_true, Bool.true_and, Bool.and_self, Φl, Φm, eq_self, hP, h0, h1, h3, h4] at hT1
    obtain ⟨h1_0, h1_1, h1_3, h1_4⟩ := hT1
    clear h0 h1 h3 h4 U
    refine SX.loop_k (fun (ss : (Nat)) T L' => (fun (j : Nat) => T 4 = .int .i64 (j : Int) ∧ T 0 = T1 0 ∧ T 1 = T1 1 ∧ T 3 = T1 3 ∧ L' = [] ∧ ((i + 1 ≤ j ∧ j ≤ qs.length) ∧ stopAt qs (qs.getD i false) (i + 1) = stopAt qs (qs.getD i false) j)) (ss)) (fun (ss : (Nat)) => (fun (j : Nat) => qs.length - j) (ss)) (i + 1) ?_ ?_
    · try dsimp only
      refine ⟨?_, ?_, ?_, ?_, ?_, ?_⟩
      · first | exact h1_4 | (rw [h1_4]; rfl) | (rw [h1_4]; simp; done)
      · rfl
      · rfl
      · rfl
      · rfl
      · exact ⟨⟨by omega, by omega⟩, rfl⟩
    · intro j T2 L2 hI K3 hK3
      try dsimp only at hI hK3
      simp only [h1_0, h1_1, h1_3] at hI hK3
      obtain ⟨h2_4, h2_0, h2_1, h2_3, hL2, ⟨hij, hst⟩⟩ := hI
      replace hL2 := hL2.symm
      subst hL2
      clear h1_0 h1_1 h1_3 h1_4 T1
      refine SX.seq_k fun K4 hK4 => ?_
      refine SX.seq_k fun K5 hK5 => ?_
      refine SX.quiet_x (hP ▸ T.mixed) (by kernel_rfl) ?_
      refine QX.live [0, 1, 3, 4] (fun T3 hT3 => ?_)
      simp only [forall_mem_cons', forall_mem_nil', upd_app, env0_zero, env0_succ, env0_nil, ev, Φa, andThen_ret, andThen_exit, inBlk_normal, inBlk_ret, inBlk_exit, Φb, Nat.reduceBEq, reduceIte, reduceCtorEq, if_true, if_false, Bool.not_true, Φc, Φd, Φe, true_and, and_true, false_and, and_false, true_implies, forall_const, false_implies, ne_eq, not_true_eq_false, not_false_eq_true, decide_true, decide_false, Int.reduceEq, and_self, true_or, or_true, dite_true, dite_false, Φf, Φg, decide_eq_true_eq, decide_eq_false_iff_not, Φh, Φi, Φj, Φk, beq_self_eq_true, Bool.and_true, Bool.true_and, Bool.and_self, Φl, Φm, eq_self, hP, h2_4, h2_0, h2_1, h2_3] at hT3
      obtain ⟨h3_0, h3_1, h3_3, h3_4⟩ := hT3
      clear h2_4 h2_0 h2_1 h2_3 T2
      refine QX.join 17 (fun (ss : Unit) T L' => T 27 = .bool (decide (j < qs.length) && (qs.getD j false == qs.getD i false)) ∧ T 0 = T3 0 ∧ T 1 = T3 1 ∧ T 3 = T3 3 ∧ T 4 = T3 4 ∧ L' = [] ∧ (True)) (fun K6 hK6 => ?_) ?_
      · simp only [h3_0, h3_1, h3_3, h3_4] at hK6
        refine VQops_cut 4 fun K7 hK7 => ?_
        simp (maxSteps := 1000000) only [upd_app, env0_zero, env0_succ, env0_nil, ev, Φa, andThen_ret, andThen_exit, inBlk_normal, inBlk_ret, inBlk_exit, Φb, Nat.reduceBEq, reduceIte, reduceCtorEq, if_true, if_false, Bool.not_true, Φc, Φd, Φe, true_and, and_true, false_and, and_false, true_implies, forall_const, false_implies, ne_eq, not_true_eq_false, not_false_eq_true, decide_true, decide_false, Int.reduceEq, and_self, true_or, or_true, dite_true, dite_false, Φf, Φg, decide_eq_true_eq, decide_eq_false_iff_not, Φh, Φi, Φj, Φk, beq_self_eq_true, Bool.and_true, Bool.true_and, Bool.and_self, Φl, Φm, eq_self, VCplan, less_refl_t, less_drop_t, VCops, VQops, guardVC, putVC, VC, VQ, Option.map_some, Option.map_none, Option.bind_some, Option.bind_none, Option.isSome_some, Option.isSome_none, Option.some.injEq, List.getElem?_cons_zero, List.getElem?_cons_succ, List.getElem?_nil, List.getElem?_toArray, List.map_cons, List.map_nil, List.map_toArray, List.toList_toArray, List.append_toArray, List.nil_append, List.cons_append, List.append_nil, List.flatMap_cons, List.flatMap_nil, List.length_cons, List.length_nil, List.set_cons_zero, List.set_cons_succ, List.drop_zero, List.drop_succ_cons, List.take_succ_cons, List.take_zero, List.size_toArray, Nat.reduceLT, Nat.reduceLeDiff, Nat.reduceAdd, Nat.reduceMul, Nat.reduceSub, Nat.add_zero, Nat.zero_add, Nat.mul_one, exists_eq_left, exists_eq_left', exists_const, existsSome, Nat.zero_le, Nat.le_refl, ld_ptr, loadVC, loadN, Addr.add_lit, Addr.add_zero', add_addS, Int.toNat_natCast, Int.toNat_zero, Int.toNat_one, Int.reduceToNat, T.elS_22, T.szA_22, T.zr_22, Try.underlying22, qcall_f, call_f, len_slice, len_str, cap_slice, min_int, max_int, bin_lss, hP, h3_0, h3_1, h3_3, h3_4, Int.toNat_natCast, Φk, Int.ofNat_lt]
        repeat' (first | refine iteB (fun hg => ?_) (fun hg => ?_) | refine iteI (fun hg => ?_) (fun hg => ?_) | ((first | refine ⟨_, hsl, ?_⟩ | refine ⟨a, rfl, ?_⟩ | refine ⟨_, hQ j (by omega), ?_⟩ | refine ⟨_, hQ i (by omega), ?_⟩ | refine And.intro (by omega) ?_ | fail); try simp (maxSteps := 1000000) only [upd_app, env0_zero, env0_succ, env0_nil, ev, Φa, andThen_ret, andThen_exit, inBlk_normal, inBlk_ret, inBlk_exit, Φb, Nat.reduceBEq, reduceIte, reduceCtorEq, if_true, if_false, Bool.not_true, Φc, Φd, Φe, true_and, and_true, false_and, and_false, true_implies, forall_const, false_implies, ne_eq, not_true_eq_false, not_false_eq_true, decide_true, decide_false, Int.reduceEq, and_self, true_or, or_true, dite_true, dite_false, Φf, Φg, decide_eq_true_eq, decide_eq_false_iff_not, Φh, Φi, Φj, Φk, beq_self_eq_true, Bool.and_true, Bool.true_and, Bool.and_self, Φl, Φm, eq_self, VCplan, less_refl_t, less_drop_t, VCops, VQops, guardVC, putVC, VC, VQ, Option.map_some, Option.map_none, Option.bind_some, Option.bind_none, Option.isSome_some, Option.isSome_none, Option.some.injEq, List.getElem?_cons_zero, List.getElem?_cons_succ, List.getElem?_nil, List.getElem?_toArray, List.map_cons, List.map_nil, List.map_toArray, List.toList_toArray, List.append_toArray, List.nil_append, List.cons_append, List.append_nil, List.flatMap_cons, List.flatMap_nil, List.length_cons, List.length_nil, List.set_cons_zero, List.set_cons_succ, List.drop_zero, List.drop_succ_cons, List.take_succ_cons, List.take_zero, List.size_toArray, Nat.reduceLT, Nat.reduceLeDiff, Nat.reduceAdd, Nat.reduceMul, Nat.reduceSub, Nat.add_zero, Nat.zero_add, Nat.mul_one, exists_eq_left, exists_eq_left', exists_const, existsSome, Nat.zero_le, Nat.le_refl, ld_ptr, loadVC, loadN, Addr.add_lit, Addr.add_zero', add_addS, Int.toNat_natCast, Int.toNat_zero, Int.toNat_one, Int.reduceToNat, T.elS_22, T.szA_22, T.zr_22, Try.underlying22, qcall_f, call_f, len_slice, len_str, cap_slice, min_int, max_int, bin_lss, hP, h3_0, h3_1, h3_3, h3_4, Int.toNat_natCast, Φk, Int.ofNat_lt]) | fail)
        all_goals (refine hK7 _ ?_; clear hK7 K7)
        all_goals
          refine VQops_cut 4 fun K8 hK8 => ?_
          try simp (maxSteps := 1000000) only [upd_app, env0_zero, env0_succ, env0_nil, ev, Φa, andThen_ret, andThen_exit, inBlk_normal, inBlk_ret, inBlk_exit, Φb, Nat.reduceBEq, reduceIte, reduceCtorEq, if_true, if_false, Bool.not_true, Φc, Φd, Φe, true_and, and_true, false_and, and_false, true_implies, forall_const, false_implies, ne_eq, not_true_eq_false, not_false_eq_true, decide_true, decide_false, Int.reduceEq, and_self, true_or, or_true, dite_true, dite_false, Φf, Φg, decide_eq_true_eq, decide_eq_false_iff_not, Φh, Φi, Φj, Φk, beq_self_eq_true, Bool.and_true, Bool.true_and, Bool.and_self, Φl, Φm, eq_self, VCplan, less_refl_t, less_drop_t, VCops, VQops, guardVC, putVC, VC, VQ, Option.map_some, Option.map_none, Option.bind_some, Option.bind_none, Option.isSome_some, Option.isSome_none, Option.some.injEq, List.getElem?_cons_zero, List.getElem?_cons_succ, List.getElem?_nil, List.getElem?_toArray, List.map_cons, List.map_nil, List.map_toArray, List.toList_toArray, List.append_toArray, List.nil_append, List.cons_append, List.append_nil, List.flatMap_cons, List.flatMap_nil, List.length_cons, List.length_nil, List.set_cons_zero, List.set_cons_succ, List.drop_zero, List.drop_succ_cons, List.take_succ_cons, List.take_zero, List.size_toArray, Nat.reduceLT, Nat.reduceLeDiff, Nat.reduceAdd, Nat.reduceMul, Nat.reduceSub, Nat.add_zero, Nat.zero_add, Nat.mul_one, exists_eq_left, exists_eq_left', exists_const, existsSome, Nat.zero_le, Nat.le_refl, ld_ptr, loadVC, loadN, Addr.add_lit, Addr.add_zero', add_addS, Int.toNat_natCast, Int.toNat_zero, Int.toNat_one, Int.reduceToNat, T.elS_22, T.szA_22, T.zr_22, Try.underlying22, ia_slice, ia_arr, hP, h3_0, h3_1, h3_3, h3_4, Int.toNat_natCast, Φk, Int.ofNat_lt]
          repeat' (first | refine iteB (fun hg => ?_) (fun hg => ?_) | refine iteI (fun hg => ?_) (fun hg => ?_) | ((first | refine ⟨_, hsl, ?_⟩ | refine ⟨a, rfl, ?_⟩ | refine ⟨_, hQ j (by omega), ?_⟩ | refine ⟨_, hQ i (by omega), ?_⟩ | refine And.intro (by omega) ?_ | fail); try simp (maxSteps := 1000000) only [upd_app, env0_zero, env0_succ, env0_nil, ev, Φa, andThen_ret, andThen_exit, inBlk_normal, inBlk_ret, inBlk_exit, Φb, Nat.reduceBEq, reduceIte, reduceCtorEq, if_true, if_false, Bool.not_true, Φc, Φd, Φe, true_and, and_true, false_and, and_false, true_implies, forall_const, false_implies, ne_eq, not_true_eq_false, not_false_eq_true, decide_true, decide_false, Int.reduceEq, and_self, true_or, or_true, dite_true, dite_false, Φf, Φg, decide_eq_true_eq, decide_eq_false_iff_not, Φh, Φi, Φj, Φk, beq_self_eq_true, Bool.and_true, Bool.true_and, Bool.and_self, Φl, Φm, eq_self, VCplan, less_refl_t, less_drop_t, VCops, VQops, guardVC, putVC, VC, VQ, Option.map_some, Option.map_none, Option.bind_some, Option.bind_none, Option.isSome_some, Option.isSome_none, Option.some.injEq, List.getElem?_cons_zero, List.getElem?_cons_succ, List.getElem?_nil, List.getElem?_toArray, List.map_cons, List.map_nil, List.map_toArray, List.toList_toArray, List.append_toArray, List.nil_append, List.cons_append, List.append_nil, List.flatMap_cons, List.flatMap_nil, List.length_cons, List.length_nil, List.set_cons_zero, List.set_cons_succ, List.drop_zero, List.drop_succ_cons, List.take_succ_cons, List.take_zero, List.size_toArray, Nat.reduceLT, Nat.reduceLeDiff, Nat.reduceAdd, Nat.reduceMul, Nat.reduceSub, Nat.add_zero, Nat.zero_add, Nat.mul_one, exists_eq_left, exists_eq_left', exists_const, existsSome, Nat.zero_le, Nat.le_refl, ld_ptr, loadVC, loadN, Addr.add_lit, Addr.add_zero', add_addS, Int.toNat_natCast, Int.toNat_zero, Int.toNat_one, Int.reduceToNat, T.elS_22, T.szA_22, T.zr_22, Try.underlying22, ia_slice, ia_arr, hP, h3_0, h3_1, h3_3, h3_4, Int.toNat_natCast, Φk, Int.ofNat_lt]) | fail)
          all_goals (refine hK8 _ ?_; clear hK8 K8)
        all_goals
          refine VQops_cut 4 fun K9 hK9 => ?_
          try simp (maxSteps := 1000000) only [upd_app, env0_zero, env0_succ, env0_nil, ev, Φa, andThen_ret, andThen_exit, inBlk_normal, inBlk_ret, inBlk_exit, Φb, Nat.reduceBEq, reduceIte, reduceCtorEq, if_true, if_false, Bool.not_true, Φc, Φd, Φe, true_and, and_true, false_and, and_false, true_implies, forall_const, false_implies, ne_eq, not_true_eq_false, not_false_eq_true, decide_true, decide_false, Int.reduceEq, and_self, true_or, or_true, dite_true, dite_false, Φf, Φg, decide_eq_true_eq, decide_eq_false_iff_not, Φh, Φi, Φj, Φk, beq_self_eq_true, Bool.and_true, Bool.true_and, Bool.and_self, Φl, Φm, eq_self, VCplan, less_refl_t, less_drop_t, VCops, VQops, guardVC, putVC, VC, VQ, Option.map_some, Option.map_none, Option.bind_some, Option.bind_none, Option.isSome_some, Option.isSome_none, Option.some.injEq, List.getElem?_cons_zero, List.getElem?_cons_succ, List.getElem?_nil, List.getElem?_toArray, List.map_cons, List.map_nil, List.map_toArray, List.toList_toArray, List.append_toArray, List.nil_append, List.cons_append, List.append_nil, List.flatMap_cons, List.flatMap_nil, List.length_cons, List.length_nil, List.set_cons_zero, List.set_cons_succ, List.drop_zero, List.drop_succ_cons, List.take_succ_cons, List.take_zero, List.size_toArray, Nat.reduceLT, Nat.reduceLeDiff, Nat.reduceAdd, Nat.reduceMul, Nat.reduceSub, Nat.add_zero, Nat.zero_add, Nat.mul_one, exists_eq_left, exists_eq_left', exists_const, existsSome, Nat.zero_le, Nat.le_refl, fa_ptr, Addr.add_lit, Addr.add_zero', add_addS, Int.toNat_natCast, Int.toNat_zero, Int.toNat_one, Int.reduceToNat, T.elA_41, T.lay_41, T.szA_41, T.zr_41, Try.underlying41, ld_ptr, loadVC, loadN, T.szA_4, T.zr_4, Try.underlying4, T.elS_22, T.szA_22, T.zr_22, Try.underlying22, hP, h3_0, h3_1, h3_3, h3_4, Int.toNat_natCast, Φk, Int.ofNat_lt]
          repeat' (first | refine iteB (fun hg => ?_) (fun hg => ?_) | refine iteI (fun hg => ?_) (fun hg => ?_) | ((first | refine ⟨_, hsl, ?_⟩ | refine ⟨a, rfl, ?_⟩ | refine ⟨_, hQ j (by omega), ?_⟩ | refine ⟨_, hQ i (by omega), ?_⟩ | refine And.intro (by omega) ?_ | fail); try simp (maxSteps := 1000000) only [upd_app, env0_zero, env0_succ, env0_nil, ev, Φa, andThen_ret, andThen_exit, inBlk_normal, inBlk_ret, inBlk_exit, Φb, Nat.reduceBEq, reduceIte, reduceCtorEq, if_true, if_false, Bool.not_true, Φc, Φd, Φe, true_and, and_true, false_and, and_false, true_implies, forall_const, false_implies, ne_eq, not_true_eq_false, not_false_eq_true, decide_true, decide_false, Int.reduceEq, and_self, true_or, or_true, dite_true, dite_false, Φf, Φg, decide_eq_true_eq, decide_eq_false_iff_not, Φh, Φi, Φj, Φk, beq_self_eq_true, Bool.and_true, Bool.true_and, Bool.and_self, Φl, Φm, eq_self, VCplan, less_refl_t, less_drop_t, VCops, VQops, guardVC, putVC, VC, VQ, Option.map_some, Option.map_none, Option.bind_some, Option.bind_none, Option.isSome_some, Option.isSome_none, Option.some.injEq, List.getElem?_cons_zero, List.getElem?_cons_succ, List.getElem?_nil, List.getElem?_toArray, List.map_cons, List.map_nil, List.map_toArray, List.toList_toArray, List.append_toArray, List.nil_append, List.cons_append, List.append_nil, List.flatMap_cons, List.flatMap_nil, List.length_cons, List.length_nil, List.set_cons_zero, List.set_cons_succ, List.drop_zero, List.drop_succ_cons, List.take_succ_cons, List.take_zero, List.size_toArray, Nat.reduceLT, Nat.reduceLeDiff, Nat.reduceAdd, Nat.reduceMul, Nat.reduceSub, Nat.add_zero, Nat.zero_add, Nat.mul_one, exists_eq_left, exists_eq_left', exists_const, existsSome, Nat.zero_le, Nat.le_refl, fa_ptr, Addr.add_lit, Addr.add_zero', add_addS, Int.toNat_natCast, Int.toNat_zero, Int.toNat_one, Int.reduceToNat, T.elA_41, T.lay_41, T.szA_41, T.zr_41, Try.underlying41, ld_ptr, loadVC, loadN, T.szA_4, T.zr_4, Try.underlying4, T.elS_22, T.szA_22, T.zr_22, Try.underlying22, hP, h3_0, h3_1, h3_3, h3_4, Int.toNat_natCast, Φk, Int.ofNat_lt]) | fail)
          all_goals (refine hK9 _ ?_; clear hK9 K9)
        all_goals
          try simp (maxSteps := 1000000) only [upd_app, env0_zero, env0_succ, env0_nil, ev, Φa, andThen_ret, andThen_exit, inBlk_normal, inBlk_ret, inBlk_exit, Φb, Nat.reduceBEq, reduceIte, reduceCtorEq, if_true, if_false, Bool.not_true, Φc, Φd, Φe, true_and, and_true, false_and, and_false, true_implies, forall_const, false_implies, ne_eq, not_true_eq_false, not_false_eq_true, decide_true, decide_false, Int.reduceEq, and_self, true_or, or_true, dite_true, dite_false, Φf, Φg, decide_eq_true_eq, decide_eq_false_iff_not, Φh, Φi, Φj, Φk, beq_self_eq_true, Bool.and_true, Bool.true_and, Bool.and_self, Φl, Φm, eq_self, VCplan, less_refl_t, less_drop_t, VCops, VQops, guardVC, putVC, VC, VQ, Option.map_some, Option.map_none, Option.bind_some, Option.bind_none, Option.isSome_some, Option.isSome_none, Option.some.injEq, List.getElem?_cons_zero, List.getElem?_cons_succ, List.getElem?_nil, List.getElem?_toArray, List.map_cons, List.map_nil, List.map_toArray, List.toList_toArray, List.append_toArray, List.nil_append, List.cons_append, List.append_nil, List.flatMap_cons, List.flatMap_nil, List.length_cons, List.length_nil, List.set_cons_zero, List.set_cons_succ, List.drop_zero, List.drop_succ_cons, List.take_succ_cons, List.take_zero, List.size_toArray, Nat.reduceLT, Nat.reduceLeDiff, Nat.reduceAdd, Nat.reduceMul, Nat.reduceSub, Nat.add_zero, Nat.zero_add, Nat.mul_one, exists_eq_left, exists_eq_left', exists_const, existsSome, Nat.zero_le, Nat.le_refl, ia_slice, ia_arr, Addr.add_lit, Addr.add_zero', add_addS, Int.toNat_natCast, Int.toNat_zero, Int.toNat_one, Int.reduceToNat, T.elS_22, T.szA_22, T.zr_22, Try.underlying22, fa_ptr, T.elA_41, T.lay_41, T.szA_41, T.zr_41, Try.underlying41, ld_ptr, loadVC, loadN, T.szA_4, T.zr_4, Try.underlying4, bin_eql, bin_eqlb, bin_eqls, bin_eqla, pick_bool, hP, h3_0, h3_1, h3_3, h3_4, Int.toNat_natCast, Φk, Int.ofNat_lt]
          repeat' (first | refine iteB (fun hg => ?_) (fun hg => ?_) | refine iteI (fun hg => ?_) (fun hg => ?_) | ((first | refine ⟨_, hsl, ?_⟩ | refine ⟨a, rfl, ?_⟩ | refine ⟨_, hQ j (by omega), ?_⟩ | refine ⟨_, hQ i (by omega), ?_⟩ | refine And.intro (by omega) ?_ | fail); try simp (maxSteps := 1000000) only [upd_app, env0_zero, env0_succ, env0_nil, ev, Φa, andThen_ret, andThen_exit, inBlk_normal, inBlk_ret, inBlk_exit, Φb, Nat.reduceBEq, reduceIte, reduceCtorEq, if_true, if_false, Bool.not_true, Φc, Φd, Φe, true_and, and_true, false_and, and_false, true_implies, forall_const, false_implies, ne_eq, not_true_eq_false, not_false_eq_true, decide_true, decide_false, Int.reduceEq, and_self, true_or, or_true, dite_true, dite_false, Φf, Φg, decide_eq_true_eq, decide_eq_false_iff_not, Φh, Φi, Φj, Φk, beq_self_eq_true, Bool.and_true, Bool.true_and, Bool.and_self, Φl, Φm, eq_self, VCplan, less_refl_t, less_drop_t, VCops, VQops, guardVC, putVC, VC, VQ, Option.map_some, Option.map_none, Option.bind_some, Option.bind_none, Option.isSome_some, Option.isSome_none, Option.some.injEq, List.getElem?_cons_zero, List.getElem?_cons_succ, List.getElem?_nil, List.getElem?_toArray, List.map_cons, List.map_nil, List.map_toArray, List.toList_toArray, List.append_toArray, List.nil_append, List.cons_append, List.append_nil, List.flatMap_cons, List.flatMap_nil, List.length_cons, List.length_nil, List.set_cons_zero, List.set_cons_succ, List.drop_zero, List.drop_succ_cons, List.take_succ_cons, List.take_zero, List.size_toArray, Nat.reduceLT, Nat.reduceLeDiff, Nat.reduceAdd, Nat.reduceMul, Nat.reduceSub, Nat.add_zero, Nat.zero_add, Nat.mul_one, exists_eq_left, exists_eq_left', exists_const, existsSome, Nat.zero_le, Nat.le_refl, ia_slice, ia_arr, Addr.add_lit, Addr.add_zero', add_addS, Int.toNat_natCast, Int.toNat_zero, Int.toNat_one, Int.reduceToNat, T.elS_22, T.szA_22, T.zr_22, Try.underlying22, fa_ptr, T.elA_41, T.lay_41, T.szA_41, T.zr_41, Try.underlying41, ld_ptr, loadVC, loadN, T.szA_4, T.zr_4, Try.underlying4, bin_eql, bin_eqlb, bin_eqls, bin_eqla, pick_bool, hP, h3_0, h3_1, h3_3, h3_4, Int.toNat_natCast, Φk, Int.ofNat_lt]) | fail)
        all_goals
          refine hK6 () _ ([]) _ (by rfl) ?_
          try dsimp only
          refine ⟨?_, ?_, ?_, ?_, ?_, ?_, ?_⟩
          · simp (maxSteps := 1000000) only [upd_app, env0_zero, env0_succ, env0_nil, ev, Φa, andThen_ret, andThen_exit, inBlk_normal, inBlk_ret, inBlk_exit, Φb, Nat.reduceBEq, reduceIte, reduceCtorEq, if_true, if_false, Bool.not_true, Φc, Φd, Φe, true_and, and_true, false_and, and_false, true_implies, forall_const, false_implies, ne_eq, not_true_eq_false, not_false_eq_true, decide_true, decide_false, Int.reduceEq, and_self, true_or, or_true, dite_true, dite_false, Φf, Φg, decide_eq_true_eq, decide_eq_false_iff_not, Φh, Φi, Φj, Φk, beq_self_eq_true, Bool.and_true, Bool.true_and, Bool.and_self, Φl, Φm, eq_self, hP, h3_0, h3_1, h3_3, h3_4]
            first | done | (rw [decide_eq_true (by omega), Bool.true_and]) | (rw [decide_eq_false (by omega), Bool.false_and])
          · simp (maxSteps := 1000000) only [upd_app, env0_zero, env0_succ, env0_nil, ev, Φa, andThen_ret, andThen_exit, inBlk_normal, inBlk_ret, inBlk_exit, Φb, Nat.reduceBEq, reduceIte, reduceCtorEq, if_true, if_false, Bool.not_true, Φc, Φd, Φe, true_and, and_true, false_and, and_false, true_implies, forall_const, false_implies, ne_eq, not_true_eq_false, not_false_eq_true, decide_true, decide_false, Int.reduceEq, and_self, true_or, or_true, dite_true, dite_false, Φf, Φg, decide_eq_true_eq, decide_eq_false_iff_not, Φh, Φi, Φj, Φk, beq_self_eq_true, Bool.and_true, Bool.true_and, Bool.and_self, Φl, Φm, eq_self, hP, h3_0, h3_1, h3_3, h3_4]
          · simp (maxSteps := 1000000) only [upd_app, env0_zero, env0_succ, env0_nil, ev, Φa, andThen_ret, andThen_exit, inBlk_normal, inBlk_ret, inBlk_exit, Φb, Nat.reduceBEq, reduceIte, reduceCtorEq, if_true, if_false, Bool.not_true, Φc, Φd, Φe, true_and, and_true, false_and, and_false, true_implies, forall_const, false_implies, ne_eq, not_true_eq_false, not_false_eq_true, decide_true, decide_false, Int.reduceEq, and_self, true_or, or_true, dite_true, dite_false, Φf, Φg, decide_eq_true_eq, decide_eq_false_iff_not, Φh, Φi, Φj, Φk, beq_self_eq_true, Bool.and_true, Bool.true_and, Bool.and_self, Φl, Φm, eq_self, hP, h3_0, h3_1, h3_3, h3_4]
          · simp (maxSteps := 1000000) only [upd_app, env0_zero, env0_succ, env0_nil, ev, Φa, andThen_ret, andThen_exit, inBlk_normal, inBlk_ret, inBlk_exit, Φb, Nat.reduceBEq, reduceIte, reduceCtorEq, if_true, if_false, Bool.not_true, Φc, Φd, Φe, true_and, and_true, false_and, and_false, true_implies, forall_const, false_implies, ne_eq, not_true_eq_false, not_false_eq_true, decide_true, decide_false, Int.reduceEq, and_self, true_or, or_true, dite_true, dite_false, Φf, Φg, decide_eq_true_eq, decide_eq_false_iff_not, Φh, Φi, Φj, Φk, beq_self_eq_true, Bool.and_true, Bool.true_and, Bool.and_self, Φl, Φm, eq_self, hP, h3_0, h3_1, h3_3, h3_4]
          · simp (maxSteps := 1000000) only [upd_app, env0_zero, env0_succ, env0_nil, ev, Φa, andThen_ret, andThen_exit, inBlk_normal, inBlk_ret, inBlk_exit, Φb, Nat.reduceBEq, reduceIte, reduceCtorEq, if_true, if_false, Bool.not_true, Φc, Φd, Φe, true_and, and_true, false_and, and_false, true_implies, forall_const, false_implies, ne_eq, not_true_eq_false, not_false_eq_true, decide_true, decide_false, Int.reduceEq, and_self, true_or, or_true, dite_true, dite_false, Φf, Φg, decide_eq_true_eq, decide_eq_false_iff_not, Φh, Φi, Φj, Φk, beq_self_eq_true, Bool.and_true, Bool.true_and, Bool.and_self, Φl, Φm, eq_self, hP, h3_0, h3_1, h3_3, h3_4]
          · rfl
          · trivial
      · intro ss T4 L4 hE4 hI
        simp only [h3_0, h3_1, h3_3, h3_4] at hI 
        obtain ⟨h4_27, h4_0, h4_1, h4_3, h4_4, hL4, hinv⟩ := hI
        replace hL4 := hL4.symm
        subst hL4
        clear h3_0 h3_1 h3_3 h3_4 T3
        clear hE4
        refine QX.done ?_
        simp (maxSteps := 1000000) only [upd_app, env0_zero, env0_succ, env0_nil, ev, Φa, andThen_ret, andThen_exit, inBlk_normal, inBlk_ret, inBlk_exit, Φb, Nat.reduceBEq, reduceIte, reduceCtorEq, if_true, if_false, Bool.not_true, Φc, Φd, Φe, true_and, and_true, false_and, and_false, true_implies, forall_const, false_implies, ne_eq, not_true_eq_false, not_false_eq_true, decide_true, decide_false, Int.reduceEq, and_self, true_or, or_true, dite_true, dite_false, Φf, Φg, decide_eq_true_eq, decide_eq_false_iff_not, Φh, Φi, Φj, Φk, beq_self_eq_true, Bool.and_true, Bool.true_and, Bool.and_self, Φl, Φm, eq_self, VCplan, less_refl_t, less_drop_t, VCops, VQops, guardVC, putVC, VC, VQ, Option.map_some, Option.map_none, Option.bind_some, Option.bind_none, Option.isSome_some, Option.isSome_none, Option.some.injEq, List.getElem?_cons_zero, List.getElem?_cons_succ, List.getElem?_nil, List.getElem?_toArray, List.map_cons, List.map_nil, List.map_toArray, List.toList_toArray, List.append_toArray, List.nil_append, List.cons_append, List.append_nil, List.flatMap_cons, List.flatMap_nil, List.length_cons, List.length_nil, List.set_cons_zero, List.set_cons_succ, List.drop_zero, List.drop_succ_cons, List.take_succ_cons, List.take_zero, List.size_toArray, Nat.reduceLT, Nat.reduceLeDiff, Nat.reduceAdd, Nat.reduceMul, Nat.reduceSub, Nat.add_zero, Nat.zero_add, Nat.mul_one, exists_eq_left, exists_eq_left', exists_const, existsSome, Nat.zero_le, Nat.le_refl, hP, h4_27, h4_0, h4_1, h4_3, h4_4]
        refine hK5 _ _ ?_
        try clear hK5 K5
        refine SX.cond_k fun X10 Y10 hX10 hY10 => ?_
        simp (maxSteps := 1000000) only [upd_app, env0_zero, env0_succ, env0_nil, ev, Φa, andThen_ret, andThen_exit, inBlk_normal, inBlk_ret, inBlk_exit, Φb, Nat.reduceBEq, reduceIte, reduceCtorEq, if_true, if_false, Bool.not_true, Φc, Φd, Φe, true_and, and_true, false_and, and_false, true_implies, forall_const, false_implies, ne_eq, not_true_eq_false, not_false_eq_true, decide_true, decide_false, Int.reduceEq, and_self, true_or, or_true, dite_true, dite_false, Φf, Φg, decide_eq_true_eq, decide_eq_false_iff_not, Φh, Φi, Φj, Φk, beq_self_eq_true, Bool.and_true, Bool.true_and, Bool.and_self, Φl, Φm, eq_self, hP, h4_27, h4_0, h4_1, h4_3, h4_4, condVC]
        refine ⟨fun hc27 => hX10 ?_, fun hc27 => hY10 ?_⟩
        · clear hX10 hY10 X10 Y10
          have hc27' : j < qs.length ∧ qs.getD j false = qs.getD i false := by simpa using hc27
          refine SX.skip ?_
          try simp only [Φa, andThen_ret, andThen_exit, inBlk_normal, inBlk_ret, inBlk_exit, Φb, if_true, if_false, reduceIte]
          refine hK4 _ _ ?_
          try clear hK4 K4
          refine SX.block ?_
          refine SX.region ?_
          simp (maxSteps := 1000000) only [upd_app, env0_zero, env0_succ, env0_nil, ev, Φa, andThen_ret, andThen_exit, inBlk_normal, inBlk_ret, inBlk_exit, Φb, Nat.reduceBEq, reduceIte, reduceCtorEq, if_true, if_false, Bool.not_true, Φc, Φd, Φe, true_and, and_true, false_and, and_false, true_implies, forall_const, false_implies, ne_eq, not_true_eq_false, not_false_eq_true, decide_true, decide_false, Int.reduceEq, and_self, true_or, or_true, dite_true, dite_false, Φf, Φg, decide_eq_true_eq, decide_eq_false_iff_not, Φh, Φi, Φj, Φk, beq_self_eq_true, Bool.and_true, Bool.true_and, Bool.and_self, Φl, Φm, eq_self, VCplan, less_refl_t, less_drop_t, VCops, VQops, guardVC, putVC, VC, VQ, Option.map_some, Option.map_none, Option.bind_some, Option.bind_none, Option.isSome_some, Option.isSome_none, Option.some.injEq, List.getElem?_cons_zero, List.getElem?_cons_succ, List.getElem?_nil, List.getElem?_toArray, List.map_cons, List.map_nil, List.map_toArray, List.toList_toArray, List.append_toArray, List.nil_append, List.cons_append, List.append_nil, List.flatMap_cons, List.flatMap_nil, List.length_cons, List.length_nil, List.set_cons_zero, List.set_cons_succ, List.drop_zero, List.drop_succ_cons, List.take_succ_cons, List.take_zero, List.size_toArray, Nat.reduceLT, Nat.reduceLeDiff, Nat.reduceAdd, Nat.reduceMul, Nat.reduceSub, Nat.add_zero, Nat.zero_add, Nat.mul_one, exists_eq_left, exists_eq_left', exists_const, existsSome, Nat.zero_le, Nat.le_refl, bin_add, bin_adds, hP, h4_27, h4_0, h4_1, h4_3, h4_4]
          refine hK3 (j + 1) _ ([]) _ (by first | exact Less.refl _ | exact Less.drop _ _ | exact Less.drops (Less.drop _ _) | exact Less.drops (Less.drops (Less.drop _ _)) | exact Less.drops (Less.drops (Less.drops (Less.drop _ _))) | exact Less.drops (Less.drops (Less.drops (Less.drops (Less.drop _ _))))) ?_ ?_
          · try dsimp only
            refine ⟨?_, ?_, ?_, ?_, ?_, ?_⟩
            · simp (maxSteps := 1000000) only [upd_app, env0_zero, env0_succ, env0_nil, ev, Φa, andThen_ret, andThen_exit, inBlk_normal, inBlk_ret, inBlk_exit, Φb, Nat.reduceBEq, reduceIte, reduceCtorEq, if_true, if_false, Bool.not_true, Φc, Φd, Φe, true_and, and_true, false_and, and_false, true_implies, forall_const, false_implies, ne_eq, not_true_eq_false, not_false_eq_true, decide_true, decide_false, Int.reduceEq, and_self, true_or, or_true, dite_true, dite_false, Φf, Φg, decide_eq_true_eq, decide_eq_false_iff_not, Φh, Φi, Φj, Φk, beq_self_eq_true, Bool.and_true, Bool.true_and, Bool.and_self, Φl, Φm, eq_self, hP, h4_27, h4_0, h4_1, h4_3, h4_4]
              rw [inc64 (by omega)]
            · simp (maxSteps := 1000000) only [upd_app, env0_zero, env0_succ, env0_nil, ev, Φa, andThen_ret, andThen_exit, inBlk_normal, inBlk_ret, inBlk_exit, Φb, Nat.reduceBEq, reduceIte, reduceCtorEq, if_true, if_false, Bool.not_true, Φc, Φd, Φe, true_and, and_true, false_and, and_false, true_implies, forall_const, false_implies, ne_eq, not_true_eq_false, not_false_eq_true, decide_true, decide_false, Int.reduceEq, and_self, true_or, or_true, dite_true, dite_false, Φf, Φg, decide_eq_true_eq, decide_eq_false_iff_not, Φh, Φi, Φj, Φk, beq_self_eq_true, Bool.and_true, Bool.true_and, Bool.and_self, Φl, Φm, eq_self, hP, h4_27, h4_0, h4_1, h4_3, h4_4]
            · simp (maxSteps := 1000000) only [upd_app, env0_zero, env0_succ, env0_nil, ev, Φa, andThen_ret, andThen_exit, inBlk_normal, inBlk_ret, inBlk_exit, Φb, Nat.reduceBEq, reduceIte, reduceCtorEq, if_true, if_false, Bool.not_true, Φc, Φd, Φe, true_and, and_true, false_and, and_false, true_implies, forall_const, false_implies, ne_eq, not_true_eq_false, not_false_eq_true, decide_true, decide_false, Int.reduceEq, and_self, true_or, or_true, dite_true, dite_false, Φf, Φg, decide_eq_true_eq, decide_eq_false_iff_not, Φh, Φi, Φj, Φk, beq_self_eq_true, Bool.and_true, Bool.true_and, Bool.and_self, Φl, Φm, eq_self, hP, h4_27, h4_0, h4_1, h4_3, h4_4]
            · simp (maxSteps := 1000000) only [upd_app, env0_zero, env0_succ, env0_nil, ev, Φa, andThen_ret, andThen_exit, inBlk_normal, inBlk_ret, inBlk_exit, Φb, Nat.reduceBEq, reduceIte, reduceCtorEq, if_true, if_false, Bool.not_true, Φc, Φd, Φe, true_and, and_true, false_and, and_false, true_implies, forall_const, false_implies, ne_eq, not_true_eq_false, not_false_eq_true, decide_true, decide_false, Int.reduceEq, and_self, true_or, or_true, dite_true, dite_false, Φf, Φg, decide_eq_true_eq, decide_eq_false_iff_not, Φh, Φi, Φj, Φk, beq_self_eq_true, Bool.and_true, Bool.true_and, Bool.and_self, Φl, Φm, eq_self, hP, h4_27, h4_0, h4_1, h4_3, h4_4]
            · rfl
            · have hj2 := hc27'.1
              exact ⟨⟨by omega, by omega⟩, by rw [hst, stopAt_yes hj2 hc27'.2]⟩
          · (try dsimp only); omega
        · clear hX10 hY10 X10 Y10
          have hc27' : j < qs.length → qs.getD j false ≠ qs.getD i false := by simpa using hc27
          refine SX.exit ?_
          try simp only [Φa, andThen_ret, andThen_exit, inBlk_normal, inBlk_ret, inBlk_exit, Φb, if_true, if_false, reduceIte]
          refine hQ' _ _ _ ?_
          intro w' hs'
          refine ⟨⟨?_, ?_, ?_, ?_⟩, hs.still hs', hJs _ _ _ hs' hj⟩
          all_goals (first | (simp (maxSteps := 1000000) only [upd_app, env0_zero, env0_succ, env0_nil, ev, Φa, andThen_ret, andThen_exit, inBlk_normal, inBlk_ret, inBlk_exit, Φb, Nat.reduceBEq, reduceIte, reduceCtorEq, if_true, if_false, Bool.not_true, Φc, Φd, Φe, true_and, and_true, false_and, and_false, true_implies, forall_const, false_implies, ne_eq, not_true_eq_false, not_false_eq_true, decide_true, decide_false, Int.reduceEq, and_self, true_or, or_true, dite_true, dite_false, Φf, Φg, decide_eq_true_eq, decide_eq_false_iff_not, Φh, Φi, Φj, Φk, beq_self_eq_true, Bool.and_true, Bool.true_and, Bool.and_self, Φl, Φm, eq_self, hP, h4_27, h4_0, h4_1, h4_3, h4_4]; done) | (simp (maxSteps := 1000000) only [upd_app, env0_zero, env0_succ, env0_nil, ev, Φa, andThen_ret, andThen_exit, inBlk_normal, inBlk_ret, inBlk_exit, Φb, Nat.reduceBEq, reduceIte, reduceCtorEq, if_true, if_false, Bool.not_true, Φc, Φd, Φe, true_and, and_true, false_and, and_false, true_implies, forall_const, false_implies, ne_eq, not_true_eq_false, not_false_eq_true, decide_true, decide_false, Int.reduceEq, and_self, true_or, or_true, dite_true, dite_false, Φf, Φg, decide_eq_true_eq, decide_eq_false_iff_not, Φh, Φi, Φj, Φk, beq_self_eq_true, Bool.and_true, Bool.true_and, Bool.and_self, Φl, Φm, eq_self, hP, h4_27, h4_0, h4_1, h4_3, h4_4]; rw [hst, stopAt_no hc27']))
  clear h0 h1 h3 h4 hs hj U w
  rintro U w ⟨⟨h0, h1, h3, h4⟩, hs, hj⟩
  rw [rowsAt_cons hil] at hr
  have hst1 := stopAt_ge qs (qs.getD i false) (i + 1)
  have hst2 := stopAt_le (qs := qs) (q := qs.getD i false) (i := i + 1) (by omega)
  generalize hE : stopAt qs (qs.getD i false) (i + 1) = E at *
  refine GX.seq (K := fun U' w' => (U' 0 = .func (.yield l) #[] #[] ∧ U' 1 = .pointer (some p) ∧ U' 4 = .int .i64 (E : Int)) ∧ SrcQ p (some a) c qs w' ∧ J (pre ++ [(i, E, qs.getD i false)]) w') ?_ ?_
  · refine GX.seq (K := fun U' w' => (U' 0 = .func (.yield l) #[] #[] ∧ U' 1 = .pointer (some p) ∧ U' 4 = .int .i64 (E : Int)) ∧ ∃ b, U' 40 = .bool (!b) ∧ (b = true → SrcQ p (some a) c qs w' ∧ J (pre ++ [(i, E, qs.getD i false)]) w') ∧ (b = false → Jx (pre ++ [(i, E, qs.getD i false)]) w')) ?_ ?_
    · refine GX.yields_at (l := l) (m := m - 1) (vs := encR (i, E, qs.getD i false)) (R := fun b w' => (b = true → SrcQ p (some a) c qs w' ∧ J (pre ++ [(i, E, qs.getD i false)]) w') ∧ (b = false → Jx (pre ++ [(i, E, qs.getD i false)]) w')) 9 rfl rfl rfl rfl rfl (by decide) rfl rfl ?_
      obtain ⟨Γ, hΓ⟩ : ∃ Γ, Γ = (⟨Try.prog, w, []⟩ : Ctx) := ⟨_, rfl⟩
      rw [← hΓ]
      have hP : Γ.P = Try.prog := by rw [hΓ]
      have hsl : Cell Γ [] p (.slice (some a) qs.length c) := by rw [hΓ]; exact Cell.old (by simp) hs.box
      have hQ : ∀ j, j < qs.length → Cell Γ [] (a.add (j * 8 + 6)) (.bool (qs.getD j false)) := fun j hj => by
        obtain ⟨a', ha, h⟩ := hs.q j hj
        cases ha
        rw [hΓ]; exact Cell.old (by simp) h
      intro K hK
      simp (maxSteps := 1000000) only [upd_app, env0_zero, env0_succ, env0_nil, ev, Φa, andThen_ret, andThen_exit, inBlk_normal, inBlk_ret, inBlk_exit, Φb, Nat.reduceBEq, reduceIte, reduceCtorEq, if_true, if_false, Bool.not_true, Φc, Φd, Φe, true_and, and_true, false_and, and_false, true_implies, forall_const, false_implies, ne_eq, not_true_eq_false, not_false_eq_true, decide_true, decide_false, Int.reduceEq, and_self, true_or, or_true, dite_true, dite_false, Φf, Φg, decide_eq_true_eq, decide_eq_false_iff_not, Φh, Φi, Φj, Φk, beq_self_eq_true, Bool.and_true, Bool.true_and, Bool.and_self, Φl, Φm, eq_self, VCplan, less_refl_t, less_drop_t, VCops, VQops, guardVC, putVC, VC, VQ, Option.map_some, Option.map_none, Option.bind_some, Option.bind_none, Option.isSome_some, Option.isSome_none, Option.some.injEq, List.getElem?_cons_zero, List.getElem?_cons_succ, List.getElem?_nil, List.getElem?_toArray, List.map_cons, List.map_nil, List.map_toArray, List.toList_toArray, List.append_toArray, List.nil_append, List.cons_append, List.append_nil, List.flatMap_cons, List.flatMap_nil, List.length_cons, List.length_nil, List.set_cons_zero, List.set_cons_succ, List.drop_zero, List.drop_succ_cons, List.take_succ_cons, List.take_zero, List.size_toArray, Nat.reduceLT, Nat.reduceLeDiff, Nat.reduceAdd, Nat.reduceMul, Nat.reduceSub, Nat.add_zero, Nat.zero_add, Nat.mul_one, exists_eq_left, exists_eq_left', exists_const, existsSome, Nat.zero_le, Nat.le_refl, ld_ptr, loadVC, loadN, Addr.add_lit, Addr.add_zero', add_addS, Int.toNat_natCast, Int.toNat_zero, Int.toNat_one, Int.reduceToNat, T.elS_22, T.szA_22, T.zr_22, Try.underlying22, ia_slice, ia_arr, fa_ptr, T.elA_41, T.lay_41, T.szA_41, T.zr_41, Try.underlying41, T.szA_4, T.zr_4, Try.underlying4, partVC, buildVC, placeL, fillL, setN, cells_int, cells_bool, cells_string, cells_pointer, cells_slice, cells_agg, oneB_nil, oneB_cons, one_int, one_bool, one_string, one_pointer, one_slice, one_map, one_func, one_nilFunc, one_nilIface, one_iface, cells_map, cells_func, cells_nilFunc, cells_nilIface, cells_iface, T.elA_45, T.lay_45, T.szA_45, T.zr_45, Try.underlying45, hP, h0, h1, h3, h4, Int.toNat_natCast]
      refine ⟨_, hsl, ?_⟩
      try simp (maxSteps := 1000000) only [upd_app, env0_zero, env0_succ, env0_nil, ev, Φa, andThen_ret, andThen_exit, inBlk_normal, inBlk_ret, inBlk_exit, Φb, Nat.reduceBEq, reduceIte, reduceCtorEq, if_true, if_false, Bool.not_true, Φc, Φd, Φe, true_and, and_true, false_and, and_false, true_implies, forall_const, false_implies, ne_eq, not_true_eq_false, not_false_eq_true, decide_true, decide_false, Int.reduceEq, and_self, true_or, or_true, dite_true, dite_false, Φf, Φg, decide_eq_true_eq, decide_eq_false_iff_not, Φh, Φi, Φj, Φk, beq_self_eq_true, Bool.and_true, Bool.true_and, Bool.and_self, Φl, Φm, eq_self, VCplan, less_refl_t, less_drop_t, VCops, VQops, guardVC, putVC, VC, VQ, Option.map_some, Option.map_none, Option.bind_some, Option.bind_none, Option.isSome_some, Option.isSome_none, Option.some.injEq, List.getElem?_cons_zero, List.getElem?_cons_succ, List.getElem?_nil, List.getElem?_toArray, List.map_cons, List.map_nil, List.map_toArray, List.toList_toArray, List.append_toArray, List.nil_append, List.cons_append, List.append_nil, List.flatMap_cons, List.flatMap_nil, List.length_cons, List.length_nil, List.set_cons_zero, List.set_cons_succ, List.drop_zero, List.drop_succ_cons, List.take_succ_cons, List.take_zero, List.size_toArray, Nat.reduceLT, Nat.reduceLeDiff, Nat.reduceAdd, Nat.reduceMul, Nat.reduceSub, Nat.add_zero, Nat.zero_add, Nat.mul_one, exists_eq_left, exists_eq_left', exists_const, existsSome, Nat.zero_le, Nat.le_refl, ld_ptr, loadVC, loadN, Addr.add_lit, Addr.add_zero', add_addS, Int.toNat_natCast, Int.toNat_zero, Int.toNat_one, Int.reduceToNat, T.elS_22, T.szA_22, T.zr_22, Try.underlying22, ia_slice, ia_arr, fa_ptr, T.elA_41, T.lay_41, T.szA_41, T.zr_41, Try.underlying41, T.szA_4, T.zr_4, Try.underlying4, partVC, buildVC, placeL, fillL, setN, cells_int, cells_bool, cells_string, cells_pointer, cells_slice, cells_agg, oneB_nil, oneB_cons, one_int, one_bool, one_string, one_pointer, one_slice, one_map, one_func, one_nilFunc, one_nilIface, one_iface, cells_map, cells_func, cells_nilFunc, cells_nilIface, cells_iface, T.elA_45, T.lay_45, T.szA_45, T.zr_45, Try.underlying45, hP, h0, h1, h3, h4, Int.toNat_natCast]
      refine And.intro (by omega) ?_
      try simp (maxSteps := 1000000) only [upd_app, env0_zero, env0_succ, env0_nil, ev, Φa, andThen_ret, andThen_exit, inBlk_normal, inBlk_ret, inBlk_exit, Φb, Nat.reduceBEq, reduceIte, reduceCtorEq, if_true, if_false, Bool.not_true, Φc, Φd, Φe, true_and, and_true, false_and, and_false, true_implies, forall_const, false_implies, ne_eq, not_true_eq_false, not_false_eq_true, decide_true, decide_false, Int.reduceEq, and_self, true_or, or_true, dite_true, dite_false, Φf, Φg, decide_eq_true_eq, decide_eq_false_iff_not, Φh, Φi, Φj, Φk, beq_self_eq_true, Bool.and_true, Bool.true_and, Bool.and_self, Φl, Φm, eq_self, VCplan, less_refl_t, less_drop_t, VCops, VQops, guardVC, putVC, VC, VQ, Option.map_some, Option.map_none, Option.bind_some, Option.bind_none, Option.isSome_some, Option.isSome_none, Option.some.injEq, List.getElem?_cons_zero, List.getElem?_cons_succ, List.getElem?_nil, List.getElem?_toArray, List.map_cons, List.map_nil, List.map_toArray, List.toList_toArray, List.append_toArray, List.nil_append, List.cons_append, List.append_nil, List.flatMap_cons, List.flatMap_nil, List.length_cons, List.length_nil, List.set_cons_zero, List.set_cons_succ, List.drop_zero, List.drop_succ_cons, List.take_succ_cons, List.take_zero, List.size_toArray, Nat.reduceLT, Nat.reduceLeDiff, Nat.reduceAdd, Nat.reduceMul, Nat.reduceSub, Nat.add_zero, Nat.zero_add, Nat.mul_one, exists_eq_left, exists_eq_left', exists_const, existsSome, Nat.zero_le, Nat.le_refl, ld_ptr, loadVC, loadN, Addr.add_lit, Addr.add_zero', add_addS, Int.toNat_natCast, Int.toNat_zero, Int.toNat_one, Int.reduceToNat, T.elS_22, T.szA_22, T.zr_22, Try.underlying22, ia_slice, ia_arr, fa_ptr, T.elA_41, T.lay_41, T.szA_41, T.zr_41, Try.underlying41, T.szA_4, T.zr_4, Try.underlying4, partVC, buildVC, placeL, fillL, setN, cells_int, cells_bool, cells_string, cells_pointer, cells_slice, cells_agg, oneB_nil, oneB_cons, one_int, one_bool, one_string, one_pointer, one_slice, one_map, one_func, one_nilFunc, one_nilIface, one_iface, cells_map, cells_func, cells_nilFunc, cells_nilIface, cells_iface, T.elA_45, T.lay_45, T.szA_45, T.zr_45, Try.underlying45, hP, h0, h1, h3, h4, Int.toNat_natCast]
      refine ⟨_, hQ i hil, ?_⟩
      try simp (maxSteps := 1000000) only [upd_app, env0_zero, env0_succ, env0_nil, ev, Φa, andThen_ret, andThen_exit, inBlk_normal, inBlk_ret, inBlk_exit, Φb, Nat.reduceBEq, reduceIte, reduceCtorEq, if_true, if_false, Bool.not_true, Φc, Φd, Φe, true_and, and_true, false_and, and_false, true_implies, forall_const, false_implies, ne_eq, not_true_eq_false, not_false_eq_true, decide_true, decide_false, Int.reduceEq, and_self, true_or, or_true, dite_true, dite_false, Φf, Φg, decide_eq_true_eq, decide_eq_false_iff_not, Φh, Φi, Φj, Φk, beq_self_eq_true, Bool.and_true, Bool.true_and, Bool.and_self, Φl, Φm, eq_self, VCplan, less_refl_t, less_drop_t, VCops, VQops, guardVC, putVC, VC, VQ, Option.map_some, Option.map_none, Option.bind_some, Option.bind_none, Option.isSome_some, Option.isSome_none, Option.some.injEq, List.getElem?_cons_zero, List.getElem?_cons_succ, List.getElem?_nil, List.getElem?_toArray, List.map_cons, List.map_nil, List.map_toArray, List.toList_toArray, List.append_toArray, List.nil_append, List.cons_append, List.append_nil, List.flatMap_cons, List.flatMap_nil, List.length_cons, List.length_nil, List.set_cons_zero, List.set_cons_succ, List.drop_zero, List.drop_succ_cons, List.take_succ_cons, List.take_zero, List.size_toArray, Nat.reduceLT, Nat.reduceLeDiff, Nat.reduceAdd, Nat.reduceMul, Nat.reduceSub, Nat.add_zero, Nat.zero_add, Nat.mul_one, exists_eq_left, exists_eq_left', exists_const, existsSome, Nat.zero_le, Nat.le_refl, ld_ptr, loadVC, loadN, Addr.add_lit, Addr.add_zero', add_addS, Int.toNat_natCast, Int.toNat_zero, Int.toNat_one, Int.reduceToNat, T.elS_22, T.szA_22, T.zr_22, Try.underlying22, ia_slice, ia_arr, fa_ptr, T.elA_41, T.lay_41, T.szA_41, T.zr_41, Try.underlying41, T.szA_4, T.zr_4, Try.underlying4, partVC, buildVC, placeL, fillL, setN, cells_int, cells_bool, cells_string, cells_pointer, cells_slice, cells_agg, oneB_nil, oneB_cons, one_int, one_bool, one_string, one_pointer, one_slice, one_map, one_func, one_nilFunc, one_nilIface, one_iface, cells_map, cells_func, cells_nilFunc, cells_nilIface, cells_iface, T.elA_45, T.lay_45, T.szA_45, T.zr_45, Try.underlying45, hP, h0, h1, h3, h4, Int.toNat_natCast]
      refine hK _ _ ?_ ?_ ?_ ?_
      · simp (maxSteps := 1000000) only [upd_app, env0_zero, env0_succ, env0_nil, ev, Φa, andThen_ret, andThen_exit, inBlk_normal, inBlk_ret, inBlk_exit, Φb, Nat.reduceBEq, reduceIte, reduceCtorEq, if_true, if_false, Bool.not_true, Φc, Φd, Φe, true_and, and_true, false_and, and_false, true_implies, forall_const, false_implies, ne_eq, not_true_eq_false, not_false_eq_true, decide_true, decide_false, Int.reduceEq, and_self, true_or, or_true, dite_true, dite_false, Φf, Φg, decide_eq_true_eq, decide_eq_false_iff_not, Φh, Φi, Φj, Φk, beq_self_eq_true, Bool.and_true, Bool.true_and, Bool.and_self, Φl, Φm, eq_self, hP, h0, h1, h3, h4]; done
      · simp only [List.map_toArray, List.map_cons, List.map_nil, encR]
        simp (maxSteps := 1000000) only [upd_app, env0_zero, env0_succ, env0_nil, ev, Φa, andThen_ret, andThen_exit, inBlk_normal, inBlk_ret, inBlk_exit, Φb, Nat.reduceBEq, reduceIte, reduceCtorEq, if_true, if_false, Bool.not_true, Φc, Φd, Φe, true_and, and_true, false_and, and_false, true_implies, forall_const, false_implies, ne_eq, not_true_eq_false, not_false_eq_true, decide_true, decide_false, Int.reduceEq, and_self, true_or, or_true, dite_true, dite_false, Φf, Φg, decide_eq_true_eq, decide_eq_false_iff_not, Φh, Φi, Φj, Φk, beq_self_eq_true, Bool.and_true, Bool.true_and, Bool.and_self, Φl, Φm, eq_self, hP, h0, h1, h3, h4]; done
      · intro w1 hs1
        obtain ⟨fn, tmps, assign, body, h1, h2⟩ := hY pre (i, E, qs.getD i false) w1 (hJs _ _ _ hs1 hj) (by omega)
        refine ⟨fn, tmps, assign, body, h1, RoundIn.mono h2 ?_⟩
        rintro e w2 (⟨rfl, ha, hb⟩ | ⟨rfl, ha⟩)
        · exact ⟨true, rfl, ⟨fun _ => ⟨hKp _ _ hb (hs.still hs1), ha⟩, fun h => (by cases h)⟩⟩
        · exact ⟨false, rfl, ⟨fun h => (by cases h), fun _ => ha⟩⟩
      · intro b w2 hR
        simp (maxSteps := 1000000) only [VCops, guardVC, putVC, VC, VQ, un_not, ev, upd_app, Φb, reduceIte, Nat.reduceLT, true_and, List.drop_succ_cons, List.drop_zero, List.toList_toArray]
        intro w3 hs3
        refine ⟨⟨?_, ?_, ?_⟩, b, ?_, fun h => ⟨(hR.1 h).1.still hs3, hJs _ _ _ hs3 (hR.1 h).2⟩, fun h => hJxs _ _ _ hs3 (hR.2 h)⟩
        all_goals (simp only [upd_app, Φb, reduceIte, h0, h1, h4])
    · rintro U' w' ⟨⟨g0, g1, g4⟩, b, g40, hb1, hb2⟩
      refine GX.cond (b := !b) g40 (fun hb => GX.ret ?_) (fun hb => GX.skip ?_)
      · exact .inr ⟨_, trivial, hb2 (by simpa using hb)⟩
      · obtain ⟨x1, x2⟩ := hb1 (by simpa using hb)
        exact ⟨⟨g0, g1, g4⟩, x1, x2⟩
  · clear h0 h1 h3 h4 hs hj U w
    rintro U w ⟨⟨h0, h1, h4⟩, hs, hj⟩
    refine GX.still ?_
    obtain ⟨Γ, hΓ⟩ : ∃ Γ, Γ = (⟨Try.prog, w, []⟩ : Ctx) := ⟨_, rfl⟩
    rw [← hΓ]
    have hP : Γ.P = Try.prog := by rw [hΓ]
    have hsl : Cell Γ [] p (.slice (some a) qs.length c) := by rw [hΓ]; exact Cell.old (by simp) hs.box
    refine SX.to_k fun Q' hQ' => ?_
    refine SX.region ?_
    simp (maxSteps := 1000000) only [upd_app, env0_zero, env0_succ, env0_nil, ev, Φa, andThen_ret, andThen_exit, inBlk_normal, inBlk_ret, inBlk_exit, Φb, Nat.reduceBEq, reduceIte, reduceCtorEq, if_true, if_false, Bool.not_true, Φc, Φd, Φe, true_and, and_true, false_and, and_false, true_implies, forall_const, false_implies, ne_eq, not_true_eq_false, not_false_eq_true, decide_true, decide_false, Int.reduceEq, and_self, true_or, or_true, dite_true, dite_false, Φf, Φg, decide_eq_true_eq, decide_eq_false_iff_not, Φh, Φi, Φj, Φk, beq_self_eq_true, Bool.and_true, Bool.true_and, Bool.and_self, Φl, Φm, eq_self, VCplan, less_refl_t, less_drop_t, VCops, VQops, guardVC, putVC, VC, VQ, Option.map_some, Option.map_none, Option.bind_some, Option.bind_none, Option.isSome_some, Option.isSome_none, Option.some.injEq, List.getElem?_cons_zero, List.getElem?_cons_succ, List.getElem?_nil, List.getElem?_toArray, List.map_cons, List.map_nil, List.map_toArray, List.toList_toArray, List.append_toArray, List.nil_append, List.cons_append, List.append_nil, List.flatMap_cons, List.flatMap_nil, List.length_cons, List.length_nil, List.set_cons_zero, List.set_cons_succ, List.drop_zero, List.drop_succ_cons, List.take_succ_cons, List.take_zero, List.size_toArray, Nat.reduceLT, Nat.reduceLeDiff, Nat.reduceAdd, Nat.reduceMul, Nat.reduceSub, Nat.add_zero, Nat.zero_add, Nat.mul_one, exists_eq_left, exists_eq_left', exists_const, existsSome, Nat.zero_le, Nat.le_refl, hP, h0, h1, h4]
    refine hQ' _ _ _ ?_
    intro w' hs'
    refine ⟨(pre ++ [(i, E, qs.getD i false)], E), ⟨⟨?_, ?_, ?_⟩, hs.still hs', hJs _ _ _ hs' hj, by rw [List.append_assoc]; exact hr, hst2⟩, by dsimp only; omega⟩
    all_goals (simp (maxSteps := 1000000) only [upd_app, env0_zero, env0_succ, env0_nil, ev, Φa, andThen_ret, andThen_exit, inBlk_normal, inBlk_ret, inBlk_exit, Φb, Nat.reduceBEq, reduceIte, reduceCtorEq, if_true, if_false, Bool.not_true, Φc, Φd, Φe, true_and, and_true, false_and, and_false, true_implies, forall_const, false_implies, ne_eq, not_true_eq_false, not_false_eq_true, decide_true, decide_false, Int.reduceEq, and_self, true_or, or_true, dite_true, dite_false, Φf, Φg, decide_eq_true_eq, decide_eq_false_iff_not, Φh, Φi, Φj, Φk, beq_self_eq_true, Bool.and_true, Bool.true_and, Bool.and_self, Φl, Φm, eq_self, hP, h0, h1, h4]; done)
end Go.Proofs.Ytkeefmneldflaaa
