/- A part of the proof of OpsLinesCardSaid. -/
import Derived.Test.YthhogfnghaikaaaDoorCSxSimp
set_option linter.unusedVariables false
set_option linter.unusedSimpArgs false
namespace Go.SX
open Go.RowKit
section
variable {Γ : Ctx} {n : Nat} {Q : Exit → Env → Hp → Prop} {T : Env} {L : Hp}
/-- What is still wanted of a frame. -/
theorem SX.live {c : Code} (l : List Nat) (h : ∀ T', (∀ i, i ∈ l → T' i = T i) → SX Γ n c Q T' L) : SX Γ n c Q T L := h T fun _ _ => rfl
def condVC (v : Value) (X Y : Prop) : Prop := match v with | .bool b => (b = true → X) ∧ (b = false → Y) | _ => False
theorem SX.cond_k {o : Operand} {x y : Code} (h : ∀ X Y : Prop, (SX Γ n x Q T L → X) → (SX Γ n y Q T L → Y) → condVC (ev T o) X Y) : SX Γ n (.cond o x y) Q T L := by
  have h1 := h _ _ id id
  unfold condVC at h1
  split at h1
  · rename_i b hb
    exact SX.cond hb h1.1 h1.2
  · exact h1.elim
/-- A loop, what it has done so far being told by s. -/
theorem SX.loop_g {c : Code} {σ : Type} (I : σ → Env → Hp → Prop) (μ : σ → Nat) (s₀ : σ) (h₀ : I s₀ T L)
    (round : ∀ s T L, I s T L → SX Γ n c (andThen (fun T' L' => ∃ s', I s' T' L' ∧ μ s' < μ s) Q) T L) : SX Γ n (.loop c) Q T L := fun a w hf hi => by
  have key : ∀ m s T L, μ s = m → I s T L → ∀ a w, Fits n T a → Inv Γ L w → ∀ b k cs,
      ∃ e a' w', lift Γ n Q e a' w' ∧ Arrives Γ.P (lone (b.at a (.code c :: .inLoop c :: k)) cs w) b k cs e a' w' := by
    intro m
    induction m using Nat.strongRecOn with
    | _ m ih =>
      intro s T L hm hI a w hf hi b k cs
      obtain ⟨e, a₁, w₁, ⟨T₁, L₁, hf₁, hi₁, hq⟩, harr⟩ := round s T L hI a w hf hi b (.inLoop c :: k) cs
      cases e with
      | normal =>
        obtain ⟨s₁, hI₁, hlt⟩ := hq
        obtain ⟨e₂, a₂, w₂, hq₂, harr₂⟩ := ih (μ s₁) (hm ▸ hlt) s₁ T₁ L₁ rfl hI₁ a₁ w₁ hf₁ hi₁ b k cs
        exact ⟨e₂, a₂, w₂, hq₂, .of_steps (Steps.trans harr (.one step_inLoop)) harr₂⟩
      | _ => exact ⟨_, a₁, w₁, ⟨T₁, L₁, hf₁, hi₁, hq⟩, .pass (x := .inLoop c) rfl (fun _ _ => .inl (by simp)) harr⟩
  intro b k cs
  obtain ⟨e, a', w', hq, harr⟩ := key _ s₀ T L rfl h₀ a w hf hi b k cs
  exact ⟨e, a', w', hq, .of_steps (.one step_loop) harr⟩
theorem SX.less {c : Code} {L' : Hp} (hl : Less L L') (h : SX Γ n c Q T L') : SX Γ n c Q T L := fun a w hf hi => h a w hf (hl _ _ hi)
theorem SX.loop_k {c : Code} {σ : Type} (I : σ → Env → Hp → Prop) (μ : σ → Nat) (s₀ : σ) (h₀ : I s₀ T L)
    (round : ∀ s T L, I s T L → ∀ K : Env → Hp → Prop, (∀ s' T' L' L'', Less L'' L' → I s' T' L' → μ s' < μ s → K T' L'') → SX Γ n c (andThen K Q) T L) : SX Γ n (.loop c) Q T L :=
  SX.loop_g (fun s T L => ∃ L', Less L L' ∧ I s T L') μ s₀ ⟨L, Less.refl _, h₀⟩ fun s T L ⟨L', hl, hI⟩ => SX.less hl (round s T L' hI _ fun s' T' L1 L2 h0 h1 h2 => ⟨s', ⟨L1, h0, h1⟩, h2⟩)
/-- Where ways meet again. -/
theorem SX.join {x y : Code} {σ : Type} (I : σ → Env → Hp → Prop) (h : ∀ K : Env → Hp → Prop, (∀ s T' L' L'', Less L'' L' → I s T' L' → K T' L'') → SX Γ n x (andThen K Q) T L) (k : ∀ s T L, I s T L → SX Γ n y Q T L) : SX Γ n (.seq x y) Q T L :=
  SX.seq (h _ fun s T' L' L'' hl hI => SX.less hl (k s T' L' hI))
theorem Less.none (L : Hp) : Less L (none :: L) := fun _ _ h => h.none
end
theorem kbits_u8 : IntKind.u8.bits = 8 := rfl
theorem kbits_u16 : IntKind.u16.bits = 16 := rfl
theorem kbits_i64 : IntKind.i64.bits = 64 := rfl
theorem kbits_u64 : IntKind.u64.bits = 64 := rfl
theorem forall_mem_cons' {p : Nat → Prop} (a : Nat) (l : List Nat) : (∀ i, i ∈ a :: l → p i) = (p a ∧ ∀ i, i ∈ l → p i) := by simp
theorem forall_mem_nil' {p : Nat → Prop} : (∀ i, i ∈ ([] : List Nat) → p i) = True := by simp
/-! ### results, in temporaries or in cells -/
def resK (Γ : Ctx) (T : Env) (L : Hp) : List ResultVar → List Value → (List Value → Prop) → Prop
  | [], acc, K => K acc
  | .tmp t :: r, acc, K => resK Γ T L r (acc ++ [T t]) K
  | .cell a t :: r, acc, K => ldVC Γ t (T a) L (fun v => resK Γ T L r (acc ++ [v]) K) False
def oneOr : List Value → Value
  | [x] => x
  | vs => .tuple vs.toArray
def resX (Γ : Ctx) (rs : List ResultVar) : Env → Hp → Value → Prop := fun T L v => resK Γ T L rs [] fun vs => v = oneOr vs
theorem resK_sound {Γ : Ctx} {n : Nat} {T : Env} {L : Hp} {a : Act} {w : World} (hf : Fits n T a) (hi : Inv Γ L w) : ∀ (rs : List ResultVar) (acc : List Value) (K : List Value → Prop), resK Γ T L rs acc K →
    ∃ vs, K (acc ++ vs) ∧ (rs.mapM (m := Sem) fun | .tmp t => pure (a.tmps.getD t undef) | .cell a' t => do loadVar t (← asAddr (a.tmps.getD a' undef))).run Γ.P w = .ok vs w
  | [], acc, K, h => ⟨[], by rw [List.append_nil]; exact h, rfl⟩
  | .tmp t :: r, acc, K, h => by
    obtain ⟨vs, hk, hr⟩ := resK_sound hf hi r _ K h
    refine ⟨T t :: vs, by simpa using hk, ?_⟩
    simp only [List.mapM_cons, Sem.run_bind, Sem.run_pure, Result.andThen_ok, hf.2.2 t]
    rw [hr]
    rfl
  | .cell c t :: r, acc, K, h => by
    simp only [resK, ldVC] at h
    split at h
    · rename_i ad had
      obtain ⟨v, hk0, hl⟩ := loadVC_sound h
      obtain ⟨vs, hk, hr⟩ := resK_sound hf hi r _ K hk0
      refine ⟨v :: vs, by simpa using hk, ?_⟩
      have h1 := hl w hi
      have h2 : (asAddr (.pointer (some ad))).run Γ.P w = .ok ad w := rfl
      simp only [List.mapM_cons, Sem.run_bind, Sem.run_pure, Result.andThen_ok, hf.2.2 c, had, h2, h1]
      rw [hr]
      rfl
    · exact h.elim
theorem resX_ok {Γ : Ctx} {fn : Func} {n : Nat} {rs : List ResultVar} (h : fn.results = rs.toArray) : ∀ T L v a w, resX Γ rs T L v → Fits n T a → Inv Γ L w → (results fn a.tmps).run Γ.P w = .ok v w := by
  intro T L v a w hr hf hi
  obtain ⟨vs, hk, hrun⟩ := resK_sound hf hi rs [] _ hr
  subst hk
  unfold results
  rw [h, Array.mapM_eq_mapM_toList]
  have key : ∀ (m : Sem (List Value)), m.run Γ.P w = .ok vs w → ((do let vs ← List.toArray <$> m; pure (if h : vs.size = 1 then vs[0] else .tuple vs)) : Sem Value).run Γ.P w = .ok (oneOr vs) w := by
    intro m hm
    rw [← bind_pure_comp]
    simp only [Sem.run_bind, hm, Result.andThen_ok, Sem.run_pure]
    match vs with
    | [] => rfl
    | [x] => rfl
    | x :: y :: r => rfl
  refine key _ (Eq.trans ?_ hrun)
  congr 1
theorem iteB {b : Bool} {A B : Prop} (h : b = true → A) (k : b = false → B) : if b = true then A else B := by
  cases b
  · exact k rfl
  · exact h rfl
end Go.SX
