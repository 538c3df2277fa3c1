/- A part of the proof of OpsLinesCardSaid. -/
import Derived.Test.YthhogfnghaikaaaDoorCSxMore
import Derived.RangeFuncNested
import Derived.RangeFuncBound
import Derived.RangeFuncLeaves
set_option linter.unusedVariables false
set_option linter.unusedSimpArgs false
/-! A range over a function: the round's code, and the iterator's code between two rounds, by the walk by lists. -/
namespace Go.SX
open Go.RowKit
section
variable {Γ : Ctx} {n : Nat} {T : Env} {L : Hp}
/-- In a round, or outside one: no fence else. -/
abbrev FR (ro : Option Nat) : Fence := { Fence.wide with round := ro }
theorem callsIn_FR {ro : Option Nat} {m : Nat} {P : Program} {f : FuncId} {args : Array Value} {w : World} {R : Ending → World → Prop} : CallsIn (FR ro) m P f args w R ↔ Calls P f args w R :=
  callsIn_wide (n := m)
def noDefer (o : Oper) : Bool := match o.op with | .defer _ => false | _ => true
theorem VCops_soundIn {ro : Option Nat} {m : Nat} {ops : Array Oper} {Q : Exit → Act → World → Prop} {l2 : List Oper} : ∀ (l : List Oper) (K : Env → Hp → Prop) (T : Env) (L : Hp), VCops Γ n ops l K T L → (l.all noDefer) = true → ∀ a w, Fits n T a → Inv Γ L w →
    (∀ T L, K T L → ∀ a w, Fits n T a → Inv Γ L w → wpListIn (FR ro) m Γ.P ops Q l2 a w) → wpListIn (FR ro) m Γ.P ops Q (l ++ l2) a w := by
  intro l
  induction l with
  | nil => intro K T L h _ a w hf hi hk; exact hk _ _ h _ _ hf hi
  | cons o rest ih =>
    intro K T L h hd a w hf hi hk
    simp only [List.all_cons, Bool.and_eq_true] at hd
    simp only [VCops] at h
    rw [List.cons_append]
    rcases guardVC_sound hf h with ⟨hw, h⟩ | ⟨hw, h⟩
    · have hy := VC_sound h w hi
      rw [← hf.eval] at hy
      simp only [wpListIn, hw, if_true]
      refine ⟨fun _ _ => trivial, ?_⟩
      have he : o.semAt ro a.eval = execOp a.eval o := Oper.semAt_eq ro a.eval o (fun c hc => by rw [noDefer, hc] at hd; cases hd.1)
      rw [show (FR ro).round = ro from rfl, he]
      revert hy
      generalize (execOp a.eval o).run Γ.P w = r
      intro hy
      cases r with
      | halt x w' => exact hy.elim
      | ok nx w' =>
        cases nx <;> first | exact hy.elim | skip
        case value v =>
          obtain ⟨L', hi', hk'⟩ := hy
          obtain ⟨T', hf', hk'⟩ := putVC_sound hf hk'
          exact ih _ _ _ hk' hd.2 _ _ hf' hi' hk
        case skip =>
          obtain ⟨L', hi', hk'⟩ := hy
          obtain ⟨T', hf', hk'⟩ := putVC_sound hf hk'
          exact ih _ _ _ hk' hd.2 _ _ hf' hi' hk
        case enter f args =>
          refine ⟨fun h => absurd h (by simp [FR, Fence.wide]), callsIn_FR.2 (Calls.mono hy ?_)⟩
          rintro e w'' ⟨v, L', rfl, hi', hk'⟩
          obtain ⟨T', hf', hk'⟩ := putVC_sound hf hk'
          exact ih _ _ _ hk' hd.2 _ _ hf' hi' hk
    · simp only [wpListIn, hw, Bool.false_eq_true, if_false]
      obtain ⟨T', hf', hk'⟩ := putVC_sound hf h
      exact ⟨fun _ _ => trivial, ih _ _ _ hk' hd.2 _ _ hf' hi hk⟩
/-- A region of a round. -/
theorem region_in {ro : Option Nat} {m : Nat} {id : Nat} {l : List Oper} {Q : Exit → Act → World → Prop} {K : Env → Hp → Prop} {a : Act} {w : World} (h : VCops Γ n l.toArray l K T L) (hd : l.all noDefer = true) (hf : Fits n T a) (hi : Inv Γ L w)
    (hK : ∀ T L, K T L → ∀ a w, Fits n T a → Inv Γ L w → Q .normal a w) : (Code.region id l.toArray false).wpIn (FR ro) m Γ.P Q a w := by
  refine wpIn_region_lit ?_
  have := VCops_soundIn (ro := ro) (m := m) (l2 := []) (Q := Q) l K T L h hd a w hf hi fun T L hk a w hf hi => hK T L hk a w hf hi
  rwa [List.append_nil] at this
theorem region_in_k {ro : Option Nat} {m : Nat} {id : Nat} {l : List Oper} {Q : Exit → Act → World → Prop} (K : Env → Hp → Prop) {a : Act} {w : World} (h : ∀ K' : Env → Hp → Prop, (∀ T L, K T L → K' T L) → VCops Γ n l.toArray l K' T L) (hd : l.all noDefer = true) (hf : Fits n T a) (hi : Inv Γ L w)
    (hK : ∀ T L, K T L → ∀ a w, Fits n T a → Inv Γ L w → Q .normal a w) : (Code.region id l.toArray false).wpIn (FR ro) m Γ.P Q a w := region_in (h K fun _ _ h => h) hd hf hi hK
end

/-! The iterator's code: its own steps turn nothing that lay. -/
/-- The world has gone on by itself: what lay lies as it lay. -/
abbrev Still (P : Program) (w w' : World) : Prop := Inv ⟨P, w, []⟩ [] w'
theorem Still.refl (P : Program) (w : World) : Still P w w := ⟨fun i j b o o' h => by simp at h, fun b o h => by simp at h, fun b o h => by simp at h, rfl, rfl, rfl, Nat.le_refl _, fun _ _ _ => rfl⟩
theorem Still.grown {P : Program} {w w' : World} (h : Still P w w') : w.grownBy w' none := ⟨h.os, h.tape, h.output, h.size, fun k hk _ => h.old k hk (by simp)⟩
theorem Still.block {P : Program} {w w' : World} (h : Still P w w') {k : Nat} (hk : k < w.heap.size) : w'.heap[k]? = w.heap[k]? := h.old k hk (by simp)
/-- The judgement, the world at hand. -/
def GX (P : Program) (n : Nat) (c : Code) (Q : Exit → Env → World → Prop) (T : Env) (w : World) : Prop :=
  ∀ a, Fits n T a → c.wp P (fun e a' w' => ∃ T', Fits n T' a' ∧ Q e T' w') a w
section
variable {P : Program} {n : Nat} {T : Env} {w : World} {Q : Exit → Env → World → Prop}
theorem GX.still {c : Code} (h : SX ⟨P, w, []⟩ n c (fun e T' _ => ∀ w', Still P w w' → Q e T' w') T []) : GX P n c Q T w := fun a hf =>
  Code.wp_mono (fun e a' w' ⟨T', L', h1, h2, h3⟩ => ⟨T', h1, h3 w' (Inv.tail (A := L') (by rw [List.append_nil]; exact h2))⟩) (h a w hf (Still.refl P w))
theorem GX.seq {x y : Code} {K : Env → World → Prop} (h : GX P n x (fun e T' w' => match e with | .normal => K T' w' | e => Q e T' w') T w) (k : ∀ T' w', K T' w' → GX P n y Q T' w') : GX P n (.seq x y) Q T w := fun a hf => by
  refine wp_seq (Code.wp_mono ?_ (h a hf))
  rintro e a' w' ⟨T', h1, h2⟩
  cases e with
  | normal => exact k T' w' h2 a' h1
  | _ => exact ⟨T', h1, h2⟩
theorem GX.block {id : Nat} {c : Code} (h : GX P n c (fun e T' w' => match e with | .exit id' => if id' = id then Q .normal T' w' else Q (.exit id') T' w' | e => Q e T' w') T w) : GX P n (.block id c) Q T w := fun a hf => by
  refine wp_block (Code.wp_mono ?_ (h a hf))
  rintro e a' w' ⟨T', h1, h2⟩
  cases e with
  | exit id' =>
    simp only [Exit.inBlock] at h2 ⊢
    split at h2
    · rename_i e; subst e; simp; exact ⟨T', h1, h2⟩
    · rename_i e; simp [e]; exact ⟨T', h1, h2⟩
  | _ => exact ⟨T', h1, h2⟩
theorem GX.mono {c : Code} {Q' : Exit → Env → World → Prop} (h : GX P n c Q T w) (k : ∀ e T w, Q e T w → Q' e T w) : GX P n c Q' T w := fun a hf =>
  Code.wp_mono (fun e a' w' ⟨T', h1, h2⟩ => ⟨T', h1, k _ _ _ h2⟩) (h a hf)
theorem GX.loop {c : Code} {σ : Type} (I : σ → Env → World → Prop) (μ : σ → Nat) (s₀ : σ) (h₀ : I s₀ T w)
    (round : ∀ s T w, I s T w → GX P n c (fun e T' w' => match e with | .normal => ∃ s', I s' T' w' ∧ μ s' < μ s | e => Q e T' w') T w) : GX P n (.loop c) Q T w := fun a hf => by
  have key : ∀ m s T w, μ s = m → I s T w → ∀ a, Fits n T a → ∀ b k cs,
      ∃ e a' w', (∃ T', Fits n T' a' ∧ Q e T' w') ∧ Arrives P (lone (b.at a (.code c :: .inLoop c :: k)) cs w) b k cs e a' w' := by
    intro m
    induction m using Nat.strongRecOn with
    | _ m ih =>
      intro s T w hm hI a hf b k cs
      obtain ⟨e, a₁, w₁, ⟨T₁, hf₁, hq⟩, harr⟩ := round s T w hI a hf b (.inLoop c :: k) cs
      cases e with
      | normal =>
        obtain ⟨s₁, hI₁, hlt⟩ := hq
        obtain ⟨e₂, a₂, w₂, hq₂, harr₂⟩ := ih (μ s₁) (hm ▸ hlt) s₁ T₁ w₁ rfl hI₁ a₁ hf₁ b k cs
        exact ⟨e₂, a₂, w₂, hq₂, .of_steps (Steps.trans harr (.one step_inLoop)) harr₂⟩
      | _ => exact ⟨_, a₁, w₁, ⟨T₁, hf₁, hq⟩, .pass (x := .inLoop c) rfl (fun _ _ => .inl (by simp)) harr⟩
  intro b k cs
  obtain ⟨e, a', w', hq, harr⟩ := key _ s₀ T w rfl h₀ a hf b k cs
  exact ⟨e, a', w', hq, .of_steps (.one step_loop) harr⟩
theorem GX.cond {o : Operand} {x y : Code} {b : Bool} (hb : ev T o = .bool b) (ht : b = true → GX P n x Q T w) (hf : b = false → GX P n y Q T w) : GX P n (.cond o x y) Q T w := fun a hft =>
  wp_cond_split (t := b) (by rw [hft.eval]; exact hb) (fun h => ht h a hft) (fun h => hf h a hft)
theorem GX.ret (h : Q .ret T w) : GX P n .ret Q T w := fun a hf => wp_ret ⟨T, hf, h⟩
theorem GX.skip (h : Q .normal T w) : GX P n .skip Q T w := fun a hf => wp_skip ⟨T, hf, h⟩
theorem GX.exit {id : Nat} (h : Q (.exit id) T w) : GX P n (.exit id) Q T w := fun a hf => wp_exit ⟨T, hf, h⟩
theorem run_yield {o : Oper} {x : Operand} {cl : Call} {l : Nat} {w : World} (hop : o.op = .call cl) (hcal : cl.callee = .value x) (hx : ev T x = .func (.yield l) #[] #[]) :
    (execOp (ev T) o).run P w = (Instr.yield l (cl.args.map (ev T))).run P w := by
  simp [execOp, hop, resolve, hcal, hx, Deferred.ofValue, invoke]
/-- A region in which a round is run: l1 ahead of the call of yield, l2 behind it. -/
theorem GX.yields {id : Nat} {l1 l2 : List Oper} {o : Oper} {x : Operand} {cl : Call} {l m d : Nat} {vs : Array Value} {R : Bool → World → Prop}
    (hop : o.op = .call cl) (hcal : cl.callee = .value x) (hg : o.guard = none) (hd : o.dst = some d) (hdn : d < n) (hq1 : l1.all noDefer = true) (hq2 : l2.all noDefer = true)
    (h1 : VCops ⟨P, w, []⟩ n (l1 ++ o :: l2).toArray l1 (fun T1 _ => ev T1 x = .func (.yield l) #[] #[] ∧ cl.args.map (ev T1) = vs ∧
      (∀ w1, Still P w w1 → YieldAt (FR none) m P l vs w1 fun e w2 => ∃ b, e = .returned (.bool b) ∧ R b w2) ∧
      ∀ b w2, R b w2 → VCops ⟨P, w2, []⟩ n (l1 ++ o :: l2).toArray l2 (fun T2 _ => ∀ w3, Still P w2 w3 → Q .normal T2 w3) (upd T1 d (.bool b)) []) T []) :
    GX P n (.region id (l1 ++ o :: l2).toArray false) Q T w := fun a hf => by
  refine (wpIn_wide (n := m + 1)).1 (show (Code.region id (l1 ++ o :: l2).toArray false).wpIn (FR none) (m + 1) P _ a w from wpIn_region_lit ?_)
  refine VCops_soundIn (Γ := ⟨P, w, []⟩) l1 _ T [] h1 hq1 a w hf (Still.refl P w) ?_
  rintro T1 L1 ⟨hx, hv, hY, hk⟩ a1 w1 hf1 hi1
  have hs1 : Still P w w1 := Inv.tail (A := L1) (by rw [List.append_nil]; exact hi1)
  obtain ⟨fn, tmps, assign, body, hrun, hround⟩ := hY w1 hs1
  have hw : Region.wanted o (yielded (l1 ++ o :: l2).toArray a1.tmps) = true := by unfold Region.wanted; rw [hg]
  simp only [wpListIn, hw, if_true]
  refine ⟨fun _ _ => trivial, ?_⟩
  rw [show (FR none).round = none from rfl, Oper.semAt_none, hf1.eval, run_yield hop hcal hx, hv, hrun]
  refine ⟨fun h => absurd h (by simp [FR, Fence.wide]), RoundIn.mono hround ?_⟩
  rintro e w2 ⟨b, rfl, hr⟩
  show wpListIn (FR none) (m + 1) P _ _ l2 (a1.put o.dst (.bool b)) w2
  rw [hd]
  have := VCops_soundIn (Γ := ⟨P, w2, []⟩) (ro := none) (m := m + 1) (l2 := []) (Q := fun e a' w' => ∃ T', Fits n T' a' ∧ Q e T' w') l2 _ _ [] (hk b w2 hr) hq2 _ w2 (hf1.put hdn _) (Still.refl P w2)
    (fun T2 L2 h2 a2 w3 hf2 hi2 => ⟨T2, hf2, h2 w3 (Inv.tail (A := L2) (by rw [List.append_nil]; exact hi2))⟩)
  rwa [List.append_nil] at this
theorem GX.enter {f : FuncId} {fn : Func} {c : Code} {args : List Value} {R : World → Prop} (hf : P.funcs[f]? = some fn) (hb : fn.body = some c) (hn : fn.ntmps = n) (hle : args.length ≤ n) (hres : fn.results = #[])
    (h : GX P n c (fun e _ w' => match e with | .normal => R w' | .ret => R w' | _ => False) (env0 args) w) : Calls P f args.toArray w fun e w' => (∃ v, e = .returned v) ∧ R w' := by
  refine calls_of_wp hf hb (Code.wp_mono ?_ (h _ ⟨?_, rfl, fun i => ?_⟩))
  · rintro e a' w' ⟨T', h1, h2⟩
    cases e with
    | normal => exact ⟨h1.2.1, _, results_none hres _ _ _, ⟨_, rfl⟩, h2⟩
    | ret => exact ⟨h1.2.1, _, results_none hres _ _ _, ⟨_, rfl⟩, h2⟩
    | _ => exact h2.elim
  · simp [hn]; omega
  · rw [env0_getD]
    simp only [Array.getD_eq_getD_getElem?, List.getD_eq_getElem?_getD]
    rw [Array.getElem?_append]
    split
    · simp
    · rename_i hge
      simp at hge
      rw [List.getElem?_eq_none hge]
      simp only [Array.getElem?_replicate]
      split <;> rfl
theorem GX.yields_at {id : Nat} {ops : Array Oper} (k : Nat) {o : Oper} {x : Operand} {cl : Call} {l m d : Nat} {vs : Array Value} {R : Bool → World → Prop}
    (hk : ops.toList[k]? = some o) (hop : o.op = .call cl) (hcal : cl.callee = .value x) (hg : o.guard = none) (hd : o.dst = some d) (hdn : d < n) (hq1 : (ops.toList.take k).all noDefer = true) (hq2 : (ops.toList.drop (k + 1)).all noDefer = true)
    (h1 : ∀ K : Env → Hp → Prop, (∀ T1 L1, ev T1 x = .func (.yield l) #[] #[] → cl.args.map (ev T1) = vs →
      (∀ w1, Still P w w1 → YieldAt (FR none) m P l vs w1 fun e w2 => ∃ b, e = .returned (.bool b) ∧ R b w2) →
      (∀ b w2, R b w2 → VCops ⟨P, w2, []⟩ n ops (ops.toList.drop (k + 1)) (fun T2 _ => ∀ w3, Still P w2 w3 → Q .normal T2 w3) (upd T1 d (.bool b)) []) → K T1 L1) → VCops ⟨P, w, []⟩ n ops (ops.toList.take k) K T []) :
    GX P n (.region id ops false) Q T w := by
  have he : ops.toList = ops.toList.take k ++ o :: ops.toList.drop (k + 1) := by
    have hl := (List.getElem?_eq_some_iff.1 hk)
    obtain ⟨hlt, he⟩ := hl
    rw [← he, ← List.drop_eq_getElem_cons hlt, List.take_append_drop]
  have ha : ops = (ops.toList.take k ++ o :: ops.toList.drop (k + 1)).toArray := by rw [← he]
  have hmain := GX.yields (P := P) (n := n) (T := T) (w := w) (Q := Q) (id := id) (l1 := ops.toList.take k) (l2 := ops.toList.drop (k + 1)) (o := o) (l := l) (m := m) (d := d) (vs := vs) (R := R) hop hcal hg hd hdn hq1 hq2 (by
    rw [← ha]
    exact h1 _ fun T1 L1 a b c d => ⟨a, b, c, d⟩)
  rwa [← ha] at hmain
theorem SX.to_k {Γ : Ctx} {c : Code} {L : Hp} {Q : Exit → Env → Hp → Prop} (h : ∀ Q' : Exit → Env → Hp → Prop, (∀ e T L, Q e T L → Q' e T L) → SX Γ n c Q' T L) : SX Γ n c Q T L := h Q fun _ _ _ h => h
end
/-! Round by round: the slots' blocks are the round's own, all else lies as it lay. -/
def blks (L : Hp) : List Nat := L.filterMap (Option.map (·.1))
theorem mem_blks {L : Hp} {b : Nat} : b ∈ blks L ↔ ∃ o : Obj, some (b, o) ∈ L := by
  simp only [blks, List.mem_filterMap]
  constructor
  · rintro ⟨s, hs, he⟩
    obtain ⟨⟨b', o⟩, rfl, rfl⟩ := Option.map_eq_some_iff.1 he
    exact ⟨o, hs⟩
  · rintro ⟨o, ho⟩
    exact ⟨_, ho, rfl⟩
abbrev Ctx.rebase (Γ : Ctx) (W : World) (L : Hp) : Ctx := ⟨Γ.P, W, blks L⟩
theorem Inv.rebase_in {Γ : Ctx} {L : Hp} {W : World} (h : Inv Γ L W) : Inv (Γ.rebase W L) L W :=
  ⟨h.inj, h.blk, fun b o hm => .inl (mem_blks.2 ⟨o, hm⟩), rfl, rfl, rfl, Nat.le_refl _, fun _ _ _ => rfl⟩
theorem Inv.rebase_out {Γ : Ctx} {L L' : Hp} {W W' : World} (h : Inv Γ L W) (h' : Inv (Γ.rebase W L) L' W') : Inv Γ L' W' :=
  ⟨h'.inj, h'.blk, fun b o hm => (h'.src b o hm).elim (fun hb => let ⟨o', ho'⟩ := mem_blks.1 hb; h.src b o' ho') fun hb => .inr (Nat.le_trans h.size hb),
    h'.os.trans h.os, h'.tape.trans h.tape, h'.output.trans h.output, Nat.le_trans h.size h'.size, fun b hb ho =>
    (h'.old b (Nat.lt_of_lt_of_le hb h.size) (fun hm => by
      obtain ⟨o, hm⟩ := mem_blks.1 hm
      rcases h.src b o hm with h1 | h1
      · exact ho h1
      · omega)).trans (h.old b hb ho)⟩
theorem Inv.other {Γ : Ctx} {L : Hp} {W W' : World} {row : Option Nat} (h : Inv Γ L W) (hg : W.grownBy W' row) (hr : ∀ r, row = some r → Γ.w0.heap.size ≤ r ∧ ∀ o, some (r, o) ∉ L) : Inv Γ L W' :=
  ⟨h.inj, fun b o hm => (hg.block b (h.lt hm) (fun e => (hr b e.symm).2 o hm)).trans (h.blk b o hm), h.src, hg.os.trans h.os, hg.tape.trans h.tape, hg.output.trans h.output, Nat.le_trans h.size hg.size,
    fun b hb ho => (hg.block b (Nat.lt_of_lt_of_le hb h.size) (fun e => by have := (hr b e.symm).1; omega)).trans (h.old b hb ho)⟩
/-- A block of cells of a type that is none of these. -/
def tagged (ts : List Nat) (o : Obj) : Prop := ∃ cs t fr, o = .cells cs t fr ∧ t ∉ ts
theorem Inv.others {Γ : Ctx} {L : Hp} {W W' : World} {row : Option Nat} {ts : List Nat} {B : Nat} (h : Inv Γ L W) (hL : ∀ b o, some (b, o) ∈ L → tagged ts o) (hB : Γ.w0.heap.size ≤ B) (hg : W.grownBy W' row) (hr : ∀ r, row = some r → B ≤ r ∧ ∃ o : Obj, W.heap[r]? = some o ∧ o.isCells = false) : Inv Γ L W' :=
  h.other hg fun r e => ⟨Nat.le_trans hB (hr r e).1, fun o hm => by
    obtain ⟨cs, t, fr, rfl, _⟩ := hL r o hm
    obtain ⟨_, o', ho', hc⟩ := hr r e
    rw [h.blk r _ hm] at ho'
    cases ho'
    cases hc⟩
theorem not_blks {Γ : Ctx} {L : Hp} {W : World} {ts : List Nat} {b t : Nat} {cs : Array Value} {fr : Nat × Nat} (h : Inv Γ L W) (hL : ∀ b o, some (b, o) ∈ L → tagged ts o) (hb : W.heap[b]? = some (.cells cs t fr)) (ht : t ∈ ts) : b ∉ blks L := fun hm => by
  obtain ⟨o, hm⟩ := mem_blks.1 hm
  obtain ⟨cs', t', fr', rfl, ht'⟩ := hL b o hm
  rw [h.blk b _ hm] at hb
  cases hb
  exact ht' ht
theorem Less.drop1 (a b : Slot) (L : Hp) : Less (a :: b :: L) (a :: L) := fun Γ w h => by
  have key : ∀ (i : Nat) (x : Slot), (a :: L)[i]? = some x → ∃ j, (a :: b :: L)[j]? = some x ∧ (j = 0 ↔ i = 0) ∧ (i ≠ 0 → j = i + 1) := by
    intro i x hx
    cases i with
    | zero => exact ⟨0, hx, by simp, fun h => absurd rfl h⟩
    | succ i => exact ⟨i + 2, by simpa using hx, by simp, fun _ => rfl⟩
  have mem : ∀ x, x ∈ a :: L → x ∈ a :: b :: L := fun x hx => by
    rcases List.mem_cons.1 hx with rfl | hx
    · exact List.mem_cons_self ..
    · exact List.mem_cons_of_mem _ (List.mem_cons_of_mem _ hx)
  exact { h with
    inj := fun i j b1 o o' hi hj => by
      obtain ⟨i', hi', h1, h2⟩ := key i _ hi
      obtain ⟨j', hj', h3, h4⟩ := key j _ hj
      have := h.inj i' j' b1 o o' hi' hj'
      omega
    blk := fun b1 o hm => h.blk b1 o (mem _ hm)
    src := fun b1 o hm => h.src b1 o (mem _ hm) }
end Go.SX
