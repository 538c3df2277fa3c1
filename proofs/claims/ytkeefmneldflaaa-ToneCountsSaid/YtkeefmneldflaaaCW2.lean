/- A part of the proof of ToneCountsSaid. -/
import Derived.Test.YtkeefmneldflaaaCW1
set_option linter.unusedVariables false
set_option linter.unusedSimpArgs false
namespace Go.Proofs.Ytkeefmneldflaaa
open Go.RowKit Go.SX
set_option maxHeartbeats 1000000 in
set_option maxRecDepth 100000 in
theorem rows_spec {Γ : Ctx} (hP : Γ.P = Try.prog) {L : Hp} {A : Option Addr} {m c : Nat} :
    SCall Γ 23 #[(.slice A m c)] L (fun v L' => ∃ b, v = .func (.func 24) #[] #[.pointer (some ⟨b, 0, none⟩)] ∧ L' = some (b, .cells #[.slice A m c] 22 (0, 0)) :: L) := by
  refine SCall.enter (n := 4) (res1 2) (hP ▸ Try.func23) rfl rfl (by simp) (res1_ok rfl) ?_
  refine SX.seq_k fun K1 hK1 => ?_
  refine SX.region ?_
  simp (maxSteps := 1000000) only [upd_app, env0_zero, env0_succ, env0_nil, ev, andThen_normal, andThen_ret, andThen_exit, inBlk_normal, inBlk_ret, inBlk_exit, Nat.reduceEqDiff, Nat.reduceBEq, reduceIte, reduceCtorEq, if_true, if_false, Bool.not_true, Bool.not_false, Bool.false_eq_true, Bool.true_eq_false, true_and, and_true, false_and, and_false, true_implies, forall_const, false_implies, ne_eq, not_true_eq_false, not_false_eq_true, decide_true, decide_false, Int.reduceEq, and_self, true_or, or_true, dite_true, dite_false, Bool.not_eq_true', Bool.not_eq_false', decide_eq_true_eq, decide_eq_false_iff_not, Decidable.not_not, Bool.not_eq_true, Bool.not_eq_false, Int.natCast_inj, beq_self_eq_true, Bool.and_true, Bool.true_and, Bool.and_self, Bool.and_false, Bool.false_and, eq_self, VCplan, less_refl_t, less_drop_t, VCops, VQops, guardVC, putVC, VC, VQ, Option.map_some, Option.map_none, Option.bind_some, Option.bind_none, Option.isSome_some, Option.isSome_none, Option.some.injEq, List.getElem?_cons_zero, List.getElem?_cons_succ, List.getElem?_nil, List.getElem?_toArray, List.map_cons, List.map_nil, List.map_toArray, List.toList_toArray, List.append_toArray, List.nil_append, List.cons_append, List.append_nil, List.flatMap_cons, List.flatMap_nil, List.length_cons, List.length_nil, List.set_cons_zero, List.set_cons_succ, List.drop_zero, List.drop_succ_cons, List.take_succ_cons, List.take_zero, List.size_toArray, Nat.reduceLT, Nat.reduceLeDiff, Nat.reduceAdd, Nat.reduceMul, Nat.reduceSub, Nat.add_zero, Nat.zero_add, Nat.mul_one, exists_eq_left, exists_eq_left', exists_const, existsSome, Nat.zero_le, Nat.le_refl, cells_int, cells_bool, cells_string, cells_pointer, cells_slice, cells_agg, oneB_nil, oneB_cons, one_int, one_bool, one_string, one_pointer, one_slice, one_map, one_func, one_nilFunc, one_nilIface, one_iface, cells_map, cells_func, cells_nilFunc, cells_nilIface, cells_iface, T.elS_22, T.szA_22, T.zr_22, Try.underlying22, hP]
  intro b
  refine hK1 _ _ ?_
  try clear hK1 K1
  refine SX.seq_k fun K2 hK2 => ?_
  refine SX.region ?_
  simp (maxSteps := 1000000) only [upd_app, env0_zero, env0_succ, env0_nil, ev, andThen_normal, andThen_ret, andThen_exit, inBlk_normal, inBlk_ret, inBlk_exit, Nat.reduceEqDiff, Nat.reduceBEq, reduceIte, reduceCtorEq, if_true, if_false, Bool.not_true, Bool.not_false, Bool.false_eq_true, Bool.true_eq_false, true_and, and_true, false_and, and_false, true_implies, forall_const, false_implies, ne_eq, not_true_eq_false, not_false_eq_true, decide_true, decide_false, Int.reduceEq, and_self, true_or, or_true, dite_true, dite_false, Bool.not_eq_true', Bool.not_eq_false', decide_eq_true_eq, decide_eq_false_iff_not, Decidable.not_not, Bool.not_eq_true, Bool.not_eq_false, Int.natCast_inj, beq_self_eq_true, Bool.and_true, Bool.true_and, Bool.and_self, Bool.and_false, Bool.false_and, eq_self, VCplan, less_refl_t, less_drop_t, VCops, VQops, guardVC, putVC, VC, VQ, Option.map_some, Option.map_none, Option.bind_some, Option.bind_none, Option.isSome_some, Option.isSome_none, Option.some.injEq, List.getElem?_cons_zero, List.getElem?_cons_succ, List.getElem?_nil, List.getElem?_toArray, List.map_cons, List.map_nil, List.map_toArray, List.toList_toArray, List.append_toArray, List.nil_append, List.cons_append, List.append_nil, List.flatMap_cons, List.flatMap_nil, List.length_cons, List.length_nil, List.set_cons_zero, List.set_cons_succ, List.drop_zero, List.drop_succ_cons, List.take_succ_cons, List.take_zero, List.size_toArray, Nat.reduceLT, Nat.reduceLeDiff, Nat.reduceAdd, Nat.reduceMul, Nat.reduceSub, Nat.add_zero, Nat.zero_add, Nat.mul_one, exists_eq_left, exists_eq_left', exists_const, existsSome, Nat.zero_le, Nat.le_refl, hP]
  refine hK2 _ _ ?_
  try clear hK2 K2
  refine SX.ret ?_
  simp only [andThen_normal, andThen_ret, andThen_exit, inBlk_normal, inBlk_ret, inBlk_exit, Nat.reduceEqDiff, if_true, if_false, reduceIte, retQ_ret]
  try simp only [res0, res1, res2, res3, upd_app, env0_zero, env0_succ, env0_nil, ev, andThen_normal, andThen_ret, andThen_exit, inBlk_normal, inBlk_ret, inBlk_exit, Nat.reduceEqDiff, Nat.reduceBEq, reduceIte, reduceCtorEq, if_true, if_false, Bool.not_true, Bool.not_false, Bool.false_eq_true, Bool.true_eq_false, true_and, and_true, false_and, and_false, true_implies, forall_const, false_implies, ne_eq, not_true_eq_false, not_false_eq_true, decide_true, decide_false, Int.reduceEq, and_self, true_or, or_true, dite_true, dite_false, Bool.not_eq_true', Bool.not_eq_false', decide_eq_true_eq, decide_eq_false_iff_not, Decidable.not_not, Bool.not_eq_true, Bool.not_eq_false, Int.natCast_inj, beq_self_eq_true, Bool.and_true, Bool.true_and, Bool.and_self, Bool.and_false, Bool.false_and, eq_self, hP]
  exact ⟨_, _, Less.refl _, rfl, b, rfl, rfl⟩

theorem fits_enter {n : Nat} (args : List Value) (hle : args.length ≤ n) : Fits n (env0 args) { tmps := args.toArray ++ Array.replicate (n - args.toArray.size) undef, defers := [] } := by
  refine ⟨?_, rfl, fun i => ?_⟩
  · simp; omega
  · rw [env0_getD]
    simp only [Array.getD_eq_getD_getElem?, List.getD_eq_getElem?_getD]
    rw [Array.getElem?_append]
    split
    · simp
    · rename_i hge
      simp at hge
      rw [List.getElem?_eq_none hge]
      simp only [Array.getElem?_replicate]
      split <;> rfl
theorem SrcQ.below {p : Addr} {A : Option Addr} {c : Nat} {qs : List Bool} {W W' : World} (h : SrcQ p A c qs W) (hb : Below W.heap.size W W') : SrcQ p A c qs W' :=
  have key : ∀ (a : Addr) v, W.cell? a = some v → W'.cell? a = some v := fun a v hv => by
    rw [World.cell?_of_block (hb.block _ (World.block_lt_of_cell? _ _ hv))]; exact hv
  ⟨key _ _ h.box, h.le, fun j hj => let ⟨a, h1, h2⟩ := h.q j hj; ⟨a, h1, key _ _ h2⟩⟩
theorem SrcQ.put {p : Addr} {A : Option Addr} {c : Nat} {qs : List Bool} {W : World} {l : Nat} {o : Obj} (o' : Obj) (h : SrcQ p A c qs W) (hl : W.heap[l]? = some o) (ho : o.isCells = false) : SrcQ p A c qs (W.putObj l o') :=
  have key : ∀ (a : Addr) v, W.cell? a = some v → (W.putObj l o').cell? a = some v := fun a v hv => by
    have hne : a.block ≠ l := fun e => by
      unfold World.cell? at hv
      rw [e, hl] at hv
      cases o <;> simp_all [Obj.isCells]
    rw [World.cell?_of_block (World.putObj_heap_other hne)]; exact hv
  ⟨key _ _ h.box, h.le, fun j hj => let ⟨a, h1, h2⟩ := h.q j hj; ⟨a, h1, key _ _ h2⟩⟩
theorem enters_24 (args : Array Value) (w : World) : (callFunc 24 args).run Try.prog w = .ok (.enter 24 args) w := by
  have hc : callable Try.prog 24 = true := by kernel_rfl
  unfold callable at hc
  split at hc
  · rename_i fn hfn
    simp only [Bool.and_eq_true, Bool.not_eq_true', Option.isSome_iff_exists] at hc
    obtain ⟨⟨body, hb⟩, hn⟩ := hc
    simp [callFunc, hfn, (by simpa using hn : ¬ fn.name = "runtime.NumGoroutine"), hb]
  · cases hc
set_option maxHeartbeats 1000000 in
set_option maxRecDepth 100000 in
theorem each_spec {Γ : Ctx} (hP : Γ.P = Try.prog) {L : Hp} {A : Option Addr} {c : Nat} {qs : List Bool} {fd : Nat} {caps : Array Value} {I : List Rw → Hp → Prop} (hm : qs.length < 9223372036854775807) (hc : qs.length ≤ c) (hcall : callable Try.prog fd = true)
    (hI : ∀ pre L', I pre L' → (∀ b o, some (b, o) ∈ L' → tagged [45, 46, 22] o) ∧ ∀ j, j < qs.length → ∃ a, A = some a ∧ Cell Γ L' (a.add (j * 8 + 6)) (.bool (qs.getD j false)))
    (hdo : ∀ Γ' : Ctx, Γ'.P = Try.prog → ∀ pre x L', I pre L' → pre.length ≤ qs.length → SCall Γ' fd (encR x ++ caps) L' (fun v L'' => I (pre ++ [x]) L'')) (h0 : I [] L) :
    SCall Γ 18 #[.slice A qs.length c, .func (.func fd) #[] caps] L (fun v L' => I (rows qs) L') := by
  intro w hi
  refine (callsIn_FR (ro := none) (m := 5)).1 ?_
  refine callsIn_of_wp_marks (F := FR none) (n := 5) (hP ▸ Try.func18) rfl trivial ?_ rfl
  refine wpIn_seq ?_
  refine region_in_k (n := 11) (T := env0 [.slice A qs.length c, .func (.func fd) #[] caps]) (L := L) (fun T1 L1 => ∃ bd, T1 0 = .slice A qs.length c ∧ T1 3 = .pointer (some ⟨bd, 0, none⟩) ∧ L1 = some (bd, .cells #[.func (.func fd) #[] caps] 46 (0, 0)) :: L) ?_ rfl (fits_enter _ (by simp)) hi ?_
  · intro K' hK'
    simp (maxSteps := 1000000) only [upd_app, env0_zero, env0_succ, env0_nil, ev, andThen_normal, andThen_ret, andThen_exit, inBlk_normal, inBlk_ret, inBlk_exit, Nat.reduceEqDiff, Nat.reduceBEq, reduceIte, reduceCtorEq, if_true, if_false, Bool.not_true, Bool.not_false, Bool.false_eq_true, Bool.true_eq_false, true_and, and_true, false_and, and_false, true_implies, forall_const, false_implies, ne_eq, not_true_eq_false, not_false_eq_true, decide_true, decide_false, Int.reduceEq, and_self, true_or, or_true, dite_true, dite_false, Bool.not_eq_true', Bool.not_eq_false', decide_eq_true_eq, decide_eq_false_iff_not, Decidable.not_not, Bool.not_eq_true, Bool.not_eq_false, Int.natCast_inj, beq_self_eq_true, Bool.and_true, Bool.true_and, Bool.and_self, Bool.and_false, Bool.false_and, eq_self, VCplan, less_refl_t, less_drop_t, VCops, VQops, guardVC, putVC, VC, VQ, Option.map_some, Option.map_none, Option.bind_some, Option.bind_none, Option.isSome_some, Option.isSome_none, Option.some.injEq, List.getElem?_cons_zero, List.getElem?_cons_succ, List.getElem?_nil, List.getElem?_toArray, List.map_cons, List.map_nil, List.map_toArray, List.toList_toArray, List.append_toArray, List.nil_append, List.cons_append, List.append_nil, List.flatMap_cons, List.flatMap_nil, List.length_cons, List.length_nil, List.set_cons_zero, List.set_cons_succ, List.drop_zero, List.drop_succ_cons, List.take_succ_cons, List.take_zero, List.size_toArray, Nat.reduceLT, Nat.reduceLeDiff, Nat.reduceAdd, Nat.reduceMul, Nat.reduceSub, Nat.add_zero, Nat.zero_add, Nat.mul_one, exists_eq_left, exists_eq_left', exists_const, existsSome, Nat.zero_le, Nat.le_refl, cells_int, cells_bool, cells_string, cells_pointer, cells_slice, cells_agg, oneB_nil, oneB_cons, one_int, one_bool, one_string, one_pointer, one_slice, one_map, one_func, one_nilFunc, one_nilIface, one_iface, cells_map, cells_func, cells_nilFunc, cells_nilIface, cells_iface, T.szA_46, T.zr_46, Try.underlying46, hP]
    intro bd
    exact hK' _ _ ⟨bd, rfl, rfl, rfl⟩
  rintro T1 L1 ⟨bd, h0_, h3, rfl⟩ a1 w1 hf1 hi1
  refine wpIn_seq ?_
  refine region_in_k (n := 11) (T := T1) (fun T2 L2 => ∃ bl, T2 3 = .pointer (some ⟨bd, 0, none⟩) ∧ T2 6 = .func (.func 24) #[] #[.pointer (some ⟨bl, 0, none⟩)] ∧ L2 = some (bl, .cells #[.slice A qs.length c] 22 (0, 0)) :: some (bd, .cells #[.func (.func fd) #[] caps] 46 (0, 0)) :: L) ?_ rfl hf1 hi1 ?_
  · intro K' hK'
    simp (maxSteps := 1000000) only [upd_app, env0_zero, env0_succ, env0_nil, ev, andThen_normal, andThen_ret, andThen_exit, inBlk_normal, inBlk_ret, inBlk_exit, Nat.reduceEqDiff, Nat.reduceBEq, reduceIte, reduceCtorEq, if_true, if_false, Bool.not_true, Bool.not_false, Bool.false_eq_true, Bool.true_eq_false, true_and, and_true, false_and, and_false, true_implies, forall_const, false_implies, ne_eq, not_true_eq_false, not_false_eq_true, decide_true, decide_false, Int.reduceEq, and_self, true_or, or_true, dite_true, dite_false, Bool.not_eq_true', Bool.not_eq_false', decide_eq_true_eq, decide_eq_false_iff_not, Decidable.not_not, Bool.not_eq_true, Bool.not_eq_false, Int.natCast_inj, beq_self_eq_true, Bool.and_true, Bool.true_and, Bool.and_self, Bool.and_false, Bool.false_and, eq_self, VCplan, less_refl_t, less_drop_t, VCops, VQops, guardVC, putVC, VC, VQ, Option.map_some, Option.map_none, Option.bind_some, Option.bind_none, Option.isSome_some, Option.isSome_none, Option.some.injEq, List.getElem?_cons_zero, List.getElem?_cons_succ, List.getElem?_nil, List.getElem?_toArray, List.map_cons, List.map_nil, List.map_toArray, List.toList_toArray, List.append_toArray, List.nil_append, List.cons_append, List.append_nil, List.flatMap_cons, List.flatMap_nil, List.length_cons, List.length_nil, List.set_cons_zero, List.set_cons_succ, List.drop_zero, List.drop_succ_cons, List.take_succ_cons, List.take_zero, List.size_toArray, Nat.reduceLT, Nat.reduceLeDiff, Nat.reduceAdd, Nat.reduceMul, Nat.reduceSub, Nat.add_zero, Nat.zero_add, Nat.mul_one, exists_eq_left, exists_eq_left', exists_const, existsSome, Nat.zero_le, Nat.le_refl, qcall_f, call_f, len_slice, len_str, cap_slice, min_int, max_int, T.elS_22, T.szA_22, T.zr_22, Try.underlying22, T.callable_23, hP, h0_, h3]
    refine SCall.mono (rows_spec hP) ?_
    rintro v_ L_ ⟨b, hv_, hL_⟩
    rw [hv_, hL_]
    try simp (maxSteps := 1000000) only [upd_app, env0_zero, env0_succ, env0_nil, ev, andThen_normal, andThen_ret, andThen_exit, inBlk_normal, inBlk_ret, inBlk_exit, Nat.reduceEqDiff, Nat.reduceBEq, reduceIte, reduceCtorEq, if_true, if_false, Bool.not_true, Bool.not_false, Bool.false_eq_true, Bool.true_eq_false, true_and, and_true, false_and, and_false, true_implies, forall_const, false_implies, ne_eq, not_true_eq_false, not_false_eq_true, decide_true, decide_false, Int.reduceEq, and_self, true_or, or_true, dite_true, dite_false, Bool.not_eq_true', Bool.not_eq_false', decide_eq_true_eq, decide_eq_false_iff_not, Decidable.not_not, Bool.not_eq_true, Bool.not_eq_false, Int.natCast_inj, beq_self_eq_true, Bool.and_true, Bool.true_and, Bool.and_self, Bool.and_false, Bool.false_and, eq_self, VCplan, less_refl_t, less_drop_t, VCops, VQops, guardVC, putVC, VC, VQ, Option.map_some, Option.map_none, Option.bind_some, Option.bind_none, Option.isSome_some, Option.isSome_none, Option.some.injEq, List.getElem?_cons_zero, List.getElem?_cons_succ, List.getElem?_nil, List.getElem?_toArray, List.map_cons, List.map_nil, List.map_toArray, List.toList_toArray, List.append_toArray, List.nil_append, List.cons_append, List.append_nil, List.flatMap_cons, List.flatMap_nil, List.length_cons, List.length_nil, List.set_cons_zero, List.set_cons_succ, List.drop_zero, List.drop_succ_cons, List.take_succ_cons, List.take_zero, List.size_toArray, Nat.reduceLT, Nat.reduceLeDiff, Nat.reduceAdd, Nat.reduceMul, Nat.reduceSub, Nat.add_zero, Nat.zero_add, Nat.mul_one, exists_eq_left, exists_eq_left', exists_const, existsSome, Nat.zero_le, Nat.le_refl, qcall_f, call_f, len_slice, len_str, cap_slice, min_int, max_int, T.elS_22, T.szA_22, T.zr_22, Try.underlying22, T.callable_23, hP, h0_, h3]
    exact hK' _ _ ⟨b, h3, rfl, rfl⟩
  clear h0_ h3 hf1 hi1
  rintro U L2 ⟨bl, h3, h6, rfl⟩ a w2 hf hi2
  have hbd : w2.heap[bd]? = some (Obj.cells #[.func (.func fd) #[] caps] 46 (0, 0)) := hi2.blk _ _ (by simp)
  have hbl : w2.heap[bl]? = some (Obj.cells #[.slice A qs.length c] 22 (0, 0)) := hi2.blk _ _ (by simp)
  have hiL : Inv Γ L w2 := hi2.drop.drop
  have lt_of : ∀ {W : World} {k : Nat} {o : Obj}, W.heap[k]? = some o → k < W.heap.size := fun h => (Array.getElem?_eq_some_iff.1 h).1
  let IW : List Rw → World → Prop := fun pre W => (∃ L', I pre L' ∧ Inv Γ L' W) ∧ W.heap[bd]? = some (Obj.cells #[.func (.func fd) #[] caps] 46 (0, 0)) ∧ W.heap[bl]? = some (Obj.cells #[.slice A qs.length c] 22 (0, 0))
  have hsrcW : ∀ pre W, IW pre W → SrcQ ⟨bl, 0, none⟩ A c qs W := fun pre W ⟨⟨L', h1, h2⟩, _, h4⟩ =>
    ⟨by simp [World.cell?, h4], hc, fun j hj => by
      obtain ⟨a', ha, hcell⟩ := (hI pre L' h1).2 j hj
      exact ⟨a', ha, hcell.real h2⟩⟩
  have hIW0 : IW [] w2 := ⟨⟨L, h0, hiL⟩, hbd, hbl⟩
  have hkeep : ∀ {pre L' L'' W W'}, I pre L' → Inv Γ L' W → Inv (Γ.rebase W L') L'' W' → KeepsFrom w2.heap.size W W' := fun {pre L' L'' W W'} h1 h2 h3 => ⟨h3.size, fun k o hk ho hnc => by
    refine (h3.old k (lt_of ho) (fun hm => ?_)).trans ho
    obtain ⟨o', hm⟩ := mem_blks.1 hm
    obtain ⟨cs, t, fr, rfl, _⟩ := (hI pre L' h1).1 k o' hm
    rw [h2.blk k _ hm] at ho
    cases ho
    cases hnc⟩
  have hbox : ∀ {pre L' L'' W W' b t cs}, I pre L' → Inv Γ L' W → Inv (Γ.rebase W L') L'' W' → W.heap[b]? = some (Obj.cells cs t (0, 0)) → t ∈ [45, 46, 22] → W'.heap[b]? = some (Obj.cells cs t (0, 0)) := fun {pre L' L'' W W' b t cs} h1 h2 h3 h4 h5 =>
    (h3.old b (lt_of h4) (not_blks h2 (hI pre L' h1).1 h4 h5)).trans h4
  refine wpIn_block ?_
  refine wpIn_rangeFunc_ownH (α := Rw) (F := FR none) (n := 5) rfl (by decide) (gf := 24) (lb := #[.pointer (some ⟨bl, 0, none⟩)]) (by rw [hf.eval]; exact h6) trivial (by rw [hP]; exact enters_24)
    (encs := encR) (Kp := fun W W' => SrcQ ⟨bl, 0, none⟩ A c qs W → SrcQ ⟨bl, 0, none⟩ A c qs W') (S := fun xs => xs = rows qs) (Sp := fun _ => True) (N := qs.length + 1) (w0 := w2)
    (by rw [hP]; exact rows_iter (fun W hb => (hsrcW [] w2 hIW0).below hb) (fun W W' h => h) hm)
    (fun h k x => k (h x)) (fun W l o o' _ hl ho _ h => h.put o' hl ho) (Below.refl _ _) (fun _ => rfl) IW (fun _ _ _ => False) ?own (fun _ _ _ _ _ h _ _ => h) hIW0
    (fun x a' W => ∃ b4 T', Fits 11 T' a' ∧ T' 3 = .pointer (some ⟨bd, 0, none⟩) ∧ T' 4 = .pointer (some ⟨b4, 0, none⟩) ∧ W.heap[b4]? = some (Obj.cells #[.int .i64 (x.1 : Int), .int .i64 (x.2.1 : Int), .bool x.2.2] 45 (0, 0))) ?ownx ?assign ?body ?done (fun _ _ _ _ _ _ h _ => h.elim)
  case own =>
    rintro pre W W' row ⟨⟨L', h1, h2⟩, h4, h5⟩ hg hr
    have other : ∀ {b cs t fr}, W.heap[b]? = some (Obj.cells cs t fr) → W'.heap[b]? = some (Obj.cells cs t fr) := fun {b cs t fr} hb => (hg.block b (lt_of hb) (fun e => by
      obtain ⟨_, o, ho, hn⟩ := hr b e.symm
      rw [hb] at ho; cases ho; cases hn)).trans hb
    exact ⟨⟨L', h1, h2.others (hI pre L' h1).1 hi2.size hg hr⟩, other h4, other h5⟩
  case ownx =>
    rintro x a' _ W W' row ⟨b4, T', h1, h2, h3, h4⟩ hg hr
    exact ⟨b4, T', h1, h2, h3, (hg.block b4 (lt_of h4) (fun e => by
      obtain ⟨_, o, ho, hn⟩ := hr b4 e.symm
      rw [h4] at ho; cases ho; cases hn)).trans h4⟩
  case assign =>
    rintro l pre x W K hIW hK
    have hIW' := hIW
    obtain ⟨⟨L', hIp, hinv⟩, hbdW, hblW⟩ := hIW
    have hin := hinv.rebase_in
    have hact : ({ tmps := ((#[7] : Array Tmp).zip (encR x)).foldl (fun t (p, v) => t.setIfInBounds p v) a.tmps, defers := [] } : Act) = a.put (some 7) (.agg #[.int .i64 (x.1 : Int), .int .i64 (x.2.1 : Int), .bool x.2.2]) := by
      simp [Act.put, encR, hf.2.1]
    rw [hact]
    refine region_in_k (Γ := Γ.rebase W L') (n := 11) (T := upd U 7 (.agg #[.int .i64 (x.1 : Int), .int .i64 (x.2.1 : Int), .bool x.2.2])) (L := L') (fun T' L1 => ∃ b4, T' 3 = .pointer (some ⟨bd, 0, none⟩) ∧ T' 4 = .pointer (some ⟨b4, 0, none⟩) ∧ L1 = some (b4, .cells #[.int .i64 (x.1 : Int), .int .i64 (x.2.1 : Int), .bool x.2.2] 45 (0, 0)) :: L') ?_ rfl (hf.put (by decide) _) hin ?_
    · intro K' hK'
      simp (maxSteps := 1000000) only [upd_app, env0_zero, env0_succ, env0_nil, ev, andThen_normal, andThen_ret, andThen_exit, inBlk_normal, inBlk_ret, inBlk_exit, Nat.reduceEqDiff, Nat.reduceBEq, reduceIte, reduceCtorEq, if_true, if_false, Bool.not_true, Bool.not_false, Bool.false_eq_true, Bool.true_eq_false, true_and, and_true, false_and, and_false, true_implies, forall_const, false_implies, ne_eq, not_true_eq_false, not_false_eq_true, decide_true, decide_false, Int.reduceEq, and_self, true_or, or_true, dite_true, dite_false, Bool.not_eq_true', Bool.not_eq_false', decide_eq_true_eq, decide_eq_false_iff_not, Decidable.not_not, Bool.not_eq_true, Bool.not_eq_false, Int.natCast_inj, beq_self_eq_true, Bool.and_true, Bool.true_and, Bool.and_self, Bool.and_false, Bool.false_and, eq_self, VCplan, less_refl_t, less_drop_t, VCops, VQops, guardVC, putVC, VC, VQ, Option.map_some, Option.map_none, Option.bind_some, Option.bind_none, Option.isSome_some, Option.isSome_none, Option.some.injEq, List.getElem?_cons_zero, List.getElem?_cons_succ, List.getElem?_nil, List.getElem?_toArray, List.map_cons, List.map_nil, List.map_toArray, List.toList_toArray, List.append_toArray, List.nil_append, List.cons_append, List.append_nil, List.flatMap_cons, List.flatMap_nil, List.length_cons, List.length_nil, List.set_cons_zero, List.set_cons_succ, List.drop_zero, List.drop_succ_cons, List.take_succ_cons, List.take_zero, List.size_toArray, Nat.reduceLT, Nat.reduceLeDiff, Nat.reduceAdd, Nat.reduceMul, Nat.reduceSub, Nat.add_zero, Nat.zero_add, Nat.mul_one, exists_eq_left, exists_eq_left', exists_const, existsSome, Nat.zero_le, Nat.le_refl, cells_int, cells_bool, cells_string, cells_pointer, cells_slice, cells_agg, oneB_nil, oneB_cons, one_int, one_bool, one_string, one_pointer, one_slice, one_map, one_func, one_nilFunc, one_nilIface, one_iface, cells_map, cells_func, cells_nilFunc, cells_nilIface, cells_iface, T.elA_45, T.lay_45, T.szA_45, T.zr_45, Try.underlying45, st_ptr, storeVC, setN, Addr.add_lit, Addr.add_zero', add_addS, Int.toNat_natCast, Int.toNat_zero, Int.toNat_one, Int.reduceToNat, hP]
      intro b4
      refine ⟨0, _, _, _, rfl, by first | decide | simp, .inr (by first | decide | simp), ?_⟩
      try simp (maxSteps := 1000000) only [upd_app, env0_zero, env0_succ, env0_nil, ev, andThen_normal, andThen_ret, andThen_exit, inBlk_normal, inBlk_ret, inBlk_exit, Nat.reduceEqDiff, Nat.reduceBEq, reduceIte, reduceCtorEq, if_true, if_false, Bool.not_true, Bool.not_false, Bool.false_eq_true, Bool.true_eq_false, true_and, and_true, false_and, and_false, true_implies, forall_const, false_implies, ne_eq, not_true_eq_false, not_false_eq_true, decide_true, decide_false, Int.reduceEq, and_self, true_or, or_true, dite_true, dite_false, Bool.not_eq_true', Bool.not_eq_false', decide_eq_true_eq, decide_eq_false_iff_not, Decidable.not_not, Bool.not_eq_true, Bool.not_eq_false, Int.natCast_inj, beq_self_eq_true, Bool.and_true, Bool.true_and, Bool.and_self, Bool.and_false, Bool.false_and, eq_self, VCplan, less_refl_t, less_drop_t, VCops, VQops, guardVC, putVC, VC, VQ, Option.map_some, Option.map_none, Option.bind_some, Option.bind_none, Option.isSome_some, Option.isSome_none, Option.some.injEq, List.getElem?_cons_zero, List.getElem?_cons_succ, List.getElem?_nil, List.getElem?_toArray, List.map_cons, List.map_nil, List.map_toArray, List.toList_toArray, List.append_toArray, List.nil_append, List.cons_append, List.append_nil, List.flatMap_cons, List.flatMap_nil, List.length_cons, List.length_nil, List.set_cons_zero, List.set_cons_succ, List.drop_zero, List.drop_succ_cons, List.take_succ_cons, List.take_zero, List.size_toArray, Nat.reduceLT, Nat.reduceLeDiff, Nat.reduceAdd, Nat.reduceMul, Nat.reduceSub, Nat.add_zero, Nat.zero_add, Nat.mul_one, exists_eq_left, exists_eq_left', exists_const, existsSome, Nat.zero_le, Nat.le_refl, cells_int, cells_bool, cells_string, cells_pointer, cells_slice, cells_agg, oneB_nil, oneB_cons, one_int, one_bool, one_string, one_pointer, one_slice, one_map, one_func, one_nilFunc, one_nilIface, one_iface, cells_map, cells_func, cells_nilFunc, cells_nilIface, cells_iface, T.elA_45, T.lay_45, T.szA_45, T.zr_45, Try.underlying45, st_ptr, storeVC, setN, Addr.add_lit, Addr.add_zero', add_addS, Int.toNat_natCast, Int.toNat_zero, Int.toNat_one, Int.reduceToNat, hP]
      exact hK' _ _ ⟨b4, h3, rfl, rfl⟩
    · rintro T' L1 ⟨b4, g3, g4, rfl⟩ a' W' hf' hi'
      have hIW2 : IW pre W' := ⟨⟨L', hIp, hinv.rebase_out hi'.drop⟩, hbox hIp hinv hi' hbdW (by simp), hbox hIp hinv hi' hblW (by simp)⟩
      exact hK a' W' (hkeep hIp hinv hi') (fun _ => hsrcW _ _ hIW2) hIW2 ⟨b4, T', hf', g3, g4, hi'.blk _ _ (by simp)⟩
  case body =>
    rintro l pre x a' W hBl hrec ⟨⟨L', hIp, hinv⟩, hbdW, hblW⟩ ⟨b4, T', hf', g3, g4, hb4⟩ hlen
    have hin := hinv.rebase_in
    refine wpIn_block ?_
    have nb : ∀ {b cs t}, W.heap[b]? = some (Obj.cells cs t (0, 0)) → t ∈ [45, 46, 22] → b ∉ (Γ.rebase W L').own := fun h1 h2 => not_blks hinv (hI pre L' hIp).1 h1 h2
    have c1 : Cell (Γ.rebase W L') L' ⟨bd, 0, none⟩ (.func (.func fd) #[] caps) := Cell.old (nb hbdW (by simp)) (by simp [World.cell?, hbdW])
    have c2 : Cell (Γ.rebase W L') L' ⟨b4, 0, none⟩ (.int .i64 (x.1 : Int)) := Cell.old (nb hb4 (by simp)) (by simp [World.cell?, hb4])
    have c3 : Cell (Γ.rebase W L') L' ⟨b4, 1, none⟩ (.int .i64 (x.2.1 : Int)) := Cell.old (nb hb4 (by simp)) (by simp [World.cell?, hb4])
    have c4 : Cell (Γ.rebase W L') L' ⟨b4, 2, none⟩ (.bool x.2.2) := Cell.old (nb hb4 (by simp)) (by simp [World.cell?, hb4])
    refine region_in_k (Γ := Γ.rebase W L') (n := 11) (T := T') (L := L') (fun _ L'' => I (pre ++ [x]) L'') ?_ rfl hf' hin ?_
    · intro K' hK'
      simp (maxSteps := 1000000) only [upd_app, env0_zero, env0_succ, env0_nil, ev, andThen_normal, andThen_ret, andThen_exit, inBlk_normal, inBlk_ret, inBlk_exit, Nat.reduceEqDiff, Nat.reduceBEq, reduceIte, reduceCtorEq, if_true, if_false, Bool.not_true, Bool.not_false, Bool.false_eq_true, Bool.true_eq_false, true_and, and_true, false_and, and_false, true_implies, forall_const, false_implies, ne_eq, not_true_eq_false, not_false_eq_true, decide_true, decide_false, Int.reduceEq, and_self, true_or, or_true, dite_true, dite_false, Bool.not_eq_true', Bool.not_eq_false', decide_eq_true_eq, decide_eq_false_iff_not, Decidable.not_not, Bool.not_eq_true, Bool.not_eq_false, Int.natCast_inj, beq_self_eq_true, Bool.and_true, Bool.true_and, Bool.and_self, Bool.and_false, Bool.false_and, eq_self, VCplan, less_refl_t, less_drop_t, VCops, VQops, guardVC, putVC, VC, VQ, Option.map_some, Option.map_none, Option.bind_some, Option.bind_none, Option.isSome_some, Option.isSome_none, Option.some.injEq, List.getElem?_cons_zero, List.getElem?_cons_succ, List.getElem?_nil, List.getElem?_toArray, List.map_cons, List.map_nil, List.map_toArray, List.toList_toArray, List.append_toArray, List.nil_append, List.cons_append, List.append_nil, List.flatMap_cons, List.flatMap_nil, List.length_cons, List.length_nil, List.set_cons_zero, List.set_cons_succ, List.drop_zero, List.drop_succ_cons, List.take_succ_cons, List.take_zero, List.size_toArray, Nat.reduceLT, Nat.reduceLeDiff, Nat.reduceAdd, Nat.reduceMul, Nat.reduceSub, Nat.add_zero, Nat.zero_add, Nat.mul_one, exists_eq_left, exists_eq_left', exists_const, existsSome, Nat.zero_le, Nat.le_refl, ld_ptr, loadVC, loadN, Addr.add_lit, Addr.add_zero', add_addS, Int.toNat_natCast, Int.toNat_zero, Int.toNat_one, Int.reduceToNat, T.szA_46, T.zr_46, Try.underlying46, T.elA_45, T.lay_45, T.szA_45, T.zr_45, Try.underlying45, qcall_f, call_f, len_slice, len_str, cap_slice, min_int, max_int, hP, g3, g4]
      refine ⟨_, c1, ?_⟩
      try simp (maxSteps := 1000000) only [upd_app, env0_zero, env0_succ, env0_nil, ev, andThen_normal, andThen_ret, andThen_exit, inBlk_normal, inBlk_ret, inBlk_exit, Nat.reduceEqDiff, Nat.reduceBEq, reduceIte, reduceCtorEq, if_true, if_false, Bool.not_true, Bool.not_false, Bool.false_eq_true, Bool.true_eq_false, true_and, and_true, false_and, and_false, true_implies, forall_const, false_implies, ne_eq, not_true_eq_false, not_false_eq_true, decide_true, decide_false, Int.reduceEq, and_self, true_or, or_true, dite_true, dite_false, Bool.not_eq_true', Bool.not_eq_false', decide_eq_true_eq, decide_eq_false_iff_not, Decidable.not_not, Bool.not_eq_true, Bool.not_eq_false, Int.natCast_inj, beq_self_eq_true, Bool.and_true, Bool.true_and, Bool.and_self, Bool.and_false, Bool.false_and, eq_self, VCplan, less_refl_t, less_drop_t, VCops, VQops, guardVC, putVC, VC, VQ, Option.map_some, Option.map_none, Option.bind_some, Option.bind_none, Option.isSome_some, Option.isSome_none, Option.some.injEq, List.getElem?_cons_zero, List.getElem?_cons_succ, List.getElem?_nil, List.getElem?_toArray, List.map_cons, List.map_nil, List.map_toArray, List.toList_toArray, List.append_toArray, List.nil_append, List.cons_append, List.append_nil, List.flatMap_cons, List.flatMap_nil, List.length_cons, List.length_nil, List.set_cons_zero, List.set_cons_succ, List.drop_zero, List.drop_succ_cons, List.take_succ_cons, List.take_zero, List.size_toArray, Nat.reduceLT, Nat.reduceLeDiff, Nat.reduceAdd, Nat.reduceMul, Nat.reduceSub, Nat.add_zero, Nat.zero_add, Nat.mul_one, exists_eq_left, exists_eq_left', exists_const, existsSome, Nat.zero_le, Nat.le_refl, ld_ptr, loadVC, loadN, Addr.add_lit, Addr.add_zero', add_addS, Int.toNat_natCast, Int.toNat_zero, Int.toNat_one, Int.reduceToNat, T.szA_46, T.zr_46, Try.underlying46, T.elA_45, T.lay_45, T.szA_45, T.zr_45, Try.underlying45, qcall_f, call_f, len_slice, len_str, cap_slice, min_int, max_int, hP, g3, g4]
      refine ⟨_, c2, _, c3, _, c4, ?_⟩
      try simp (maxSteps := 1000000) only [upd_app, env0_zero, env0_succ, env0_nil, ev, andThen_normal, andThen_ret, andThen_exit, inBlk_normal, inBlk_ret, inBlk_exit, Nat.reduceEqDiff, Nat.reduceBEq, reduceIte, reduceCtorEq, if_true, if_false, Bool.not_true, Bool.not_false, Bool.false_eq_true, Bool.true_eq_false, true_and, and_true, false_and, and_false, true_implies, forall_const, false_implies, ne_eq, not_true_eq_false, not_false_eq_true, decide_true, decide_false, Int.reduceEq, and_self, true_or, or_true, dite_true, dite_false, Bool.not_eq_true', Bool.not_eq_false', decide_eq_true_eq, decide_eq_false_iff_not, Decidable.not_not, Bool.not_eq_true, Bool.not_eq_false, Int.natCast_inj, beq_self_eq_true, Bool.and_true, Bool.true_and, Bool.and_self, Bool.and_false, Bool.false_and, eq_self, VCplan, less_refl_t, less_drop_t, VCops, VQops, guardVC, putVC, VC, VQ, Option.map_some, Option.map_none, Option.bind_some, Option.bind_none, Option.isSome_some, Option.isSome_none, Option.some.injEq, List.getElem?_cons_zero, List.getElem?_cons_succ, List.getElem?_nil, List.getElem?_toArray, List.map_cons, List.map_nil, List.map_toArray, List.toList_toArray, List.append_toArray, List.nil_append, List.cons_append, List.append_nil, List.flatMap_cons, List.flatMap_nil, List.length_cons, List.length_nil, List.set_cons_zero, List.set_cons_succ, List.drop_zero, List.drop_succ_cons, List.take_succ_cons, List.take_zero, List.size_toArray, Nat.reduceLT, Nat.reduceLeDiff, Nat.reduceAdd, Nat.reduceMul, Nat.reduceSub, Nat.add_zero, Nat.zero_add, Nat.mul_one, exists_eq_left, exists_eq_left', exists_const, existsSome, Nat.zero_le, Nat.le_refl, ld_ptr, loadVC, loadN, Addr.add_lit, Addr.add_zero', add_addS, Int.toNat_natCast, Int.toNat_zero, Int.toNat_one, Int.reduceToNat, T.szA_46, T.zr_46, Try.underlying46, T.elA_45, T.lay_45, T.szA_45, T.zr_45, Try.underlying45, qcall_f, call_f, len_slice, len_str, cap_slice, min_int, max_int, hP, g3, g4]
      refine ⟨hP ▸ hcall, SCall.mono (hdo (Γ.rebase W L') hP pre x L' hIp (by omega)) ?_⟩
      rintro v_ L_ h_
      try simp (maxSteps := 1000000) only [upd_app, env0_zero, env0_succ, env0_nil, ev, andThen_normal, andThen_ret, andThen_exit, inBlk_normal, inBlk_ret, inBlk_exit, Nat.reduceEqDiff, Nat.reduceBEq, reduceIte, reduceCtorEq, if_true, if_false, Bool.not_true, Bool.not_false, Bool.false_eq_true, Bool.true_eq_false, true_and, and_true, false_and, and_false, true_implies, forall_const, false_implies, ne_eq, not_true_eq_false, not_false_eq_true, decide_true, decide_false, Int.reduceEq, and_self, true_or, or_true, dite_true, dite_false, Bool.not_eq_true', Bool.not_eq_false', decide_eq_true_eq, decide_eq_false_iff_not, Decidable.not_not, Bool.not_eq_true, Bool.not_eq_false, Int.natCast_inj, beq_self_eq_true, Bool.and_true, Bool.true_and, Bool.and_self, Bool.and_false, Bool.false_and, eq_self, VCplan, less_refl_t, less_drop_t, VCops, VQops, guardVC, putVC, VC, VQ, Option.map_some, Option.map_none, Option.bind_some, Option.bind_none, Option.isSome_some, Option.isSome_none, Option.some.injEq, List.getElem?_cons_zero, List.getElem?_cons_succ, List.getElem?_nil, List.getElem?_toArray, List.map_cons, List.map_nil, List.map_toArray, List.toList_toArray, List.append_toArray, List.nil_append, List.cons_append, List.append_nil, List.flatMap_cons, List.flatMap_nil, List.length_cons, List.length_nil, List.set_cons_zero, List.set_cons_succ, List.drop_zero, List.drop_succ_cons, List.take_succ_cons, List.take_zero, List.size_toArray, Nat.reduceLT, Nat.reduceLeDiff, Nat.reduceAdd, Nat.reduceMul, Nat.reduceSub, Nat.add_zero, Nat.zero_add, Nat.mul_one, exists_eq_left, exists_eq_left', exists_const, existsSome, Nat.zero_le, Nat.le_refl, ld_ptr, loadVC, loadN, Addr.add_lit, Addr.add_zero', add_addS, Int.toNat_natCast, Int.toNat_zero, Int.toNat_one, Int.reduceToNat, T.szA_46, T.zr_46, Try.underlying46, T.elA_45, T.lay_45, T.szA_45, T.zr_45, Try.underlying45, qcall_f, call_f, len_slice, len_str, cap_slice, min_int, max_int, hP, g3, g4]
      exact hK' _ _ h_
    · rintro T'' L'' hIp2 a'' W'' hf'' hi''
      have hIW2 : IW (pre ++ [x]) W'' := ⟨⟨L'', hIp2, hinv.rebase_out hi''⟩, hbox hIp hinv hi'' hbdW (by simp), hbox hIp hinv hi'' hblW (by simp)⟩
      exact ⟨hkeep hIp hinv hi'', fun _ => hsrcW _ _ hIW2, hIW2⟩
  case done =>
    rintro D xs W hBD rfl ⟨⟨L', hIp, hinv⟩, _, _⟩ hD
    refine ⟨by simp, .inl ⟨_, _, rfl, run_takeDeferred hD, ?_⟩⟩
    rw [hf.2.1]
    refine ⟨_, results_none rfl _ _ _, _, L', rfl, ?_, hIp⟩
    exact hinv.others (hI _ L' hIp).1 (Nat.le_trans hi2.size hBD) (grownBy_putObj' W D _) (fun r e => by cases e; exact ⟨Nat.le_refl _, _, hD, rfl⟩)
end Go.Proofs.Ytkeefmneldflaaa
