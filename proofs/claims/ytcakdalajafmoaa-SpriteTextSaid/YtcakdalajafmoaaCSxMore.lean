/- A part of the proof of SpriteTextSaid. -/
import Derived.Test.YtcakdalajafmoaaCSxSimp
set_option linter.unusedVariables false
set_option linter.unusedSimpArgs false
namespace Go.SX
open Go.RowKit
section
variable {Γ : Ctx} {n : Nat} {Q : Exit → Env → Hp → Prop} {T : Env} {L : Hp}
/-- What is still wanted of a frame. -/
theorem SX.live {c : Code} (l : List Nat) (h : ∀ T', (∀ i, i ∈ l → T' i = T i) → SX Γ n c Q T' L) : SX Γ n c Q T L := h T fun _ _ => rfl
def condVC (v : Value) (X Y : Prop) : Prop := match v with | .bool b => (b = true → X) ∧ (b = false → Y) | _ => False
theorem SX.cond_k {o : Operand} {x y : Code} (h : ∀ X Y : Prop, (SX Γ n x Q T L → X) → (SX Γ n y Q T L → Y) → condVC (ev T o) X Y) : SX Γ n (.cond o x y) Q T L := by
  have h1 := h _ _ id id
  unfold condVC at h1
  split at h1
  · rename_i b hb
    exact SX.cond hb h1.1 h1.2
  · exact h1.elim
/-- A loop, what it has done so far being told by s. -/
theorem SX.loop_g {c : Code} {σ : Type} (I : σ → Env → Hp → Prop) (μ : σ → Nat) (s₀ : σ) (h₀ : I s₀ T L)
    (round : ∀ s T L, I s T L → SX Γ n c (andThen (fun T' L' => ∃ s', I s' T' L' ∧ μ s' < μ s) Q) T L) : SX Γ n (.loop c) Q T L := fun a w hf hi => by
  have key : ∀ m s T L, μ s = m → I s T L → ∀ a w, Fits n T a → Inv Γ L w → ∀ b k cs,
      ∃ e a' w', lift Γ n Q e a' w' ∧ Arrives Γ.P (lone (b.at a (.code c :: .inLoop c :: k)) cs w) b k cs e a' w' := by
    intro m
    induction m using Nat.strongRecOn with
    | _ m ih =>
      intro s T L hm hI a w hf hi b k cs
      obtain ⟨e, a₁, w₁, ⟨T₁, L₁, hf₁, hi₁, hq⟩, harr⟩ := round s T L hI a w hf hi b (.inLoop c :: k) cs
      cases e with
      | normal =>
        obtain ⟨s₁, hI₁, hlt⟩ := hq
        obtain ⟨e₂, a₂, w₂, hq₂, harr₂⟩ := ih (μ s₁) (hm ▸ hlt) s₁ T₁ L₁ rfl hI₁ a₁ w₁ hf₁ hi₁ b k cs
        exact ⟨e₂, a₂, w₂, hq₂, .of_steps (Steps.trans harr (.one step_inLoop)) harr₂⟩
      | _ => exact ⟨_, a₁, w₁, ⟨T₁, L₁, hf₁, hi₁, hq⟩, .pass (x := .inLoop c) rfl (fun _ _ => .inl (by simp)) harr⟩
  intro b k cs
  obtain ⟨e, a', w', hq, harr⟩ := key _ s₀ T L rfl h₀ a w hf hi b k cs
  exact ⟨e, a', w', hq, .of_steps (.one step_loop) harr⟩
theorem SX.less {c : Code} {L' : Hp} (hl : Less L L') (h : SX Γ n c Q T L') : SX Γ n c Q T L := fun a w hf hi => h a w hf (hl _ _ hi)
theorem SX.loop_k {c : Code} {σ : Type} (I : σ → Env → Hp → Prop) (μ : σ → Nat) (s₀ : σ) (h₀ : I s₀ T L)
    (round : ∀ s T L, I s T L → ∀ K : Env → Hp → Prop, (∀ s' T' L' L'', Less L'' L' → I s' T' L' → μ s' < μ s → K T' L'') → SX Γ n c (andThen K Q) T L) : SX Γ n (.loop c) Q T L :=
  SX.loop_g (fun s T L => ∃ L', Less L L' ∧ I s T L') μ s₀ ⟨L, Less.refl _, h₀⟩ fun s T L ⟨L', hl, hI⟩ => SX.less hl (round s T L' hI _ fun s' T' L1 L2 h0 h1 h2 => ⟨s', ⟨L1, h0, h1⟩, h2⟩)
/-- Where ways meet again. -/
theorem SX.join {x y : Code} {σ : Type} (I : σ → Env → Hp → Prop) (h : ∀ K : Env → Hp → Prop, (∀ s T' L' L'', Less L'' L' → I s T' L' → K T' L'') → SX Γ n x (andThen K Q) T L) (k : ∀ s T L, I s T L → SX Γ n y Q T L) : SX Γ n (.seq x y) Q T L :=
  SX.seq (h _ fun s T' L' L'' hl hI => SX.less hl (k s T' L' hI))
theorem Less.none (L : Hp) : Less L (none :: L) := fun _ _ h => h.none
end
theorem kbits_u8 : IntKind.u8.bits = 8 := rfl
theorem kbits_u16 : IntKind.u16.bits = 16 := rfl
theorem kbits_i64 : IntKind.i64.bits = 64 := rfl
theorem kbits_u64 : IntKind.u64.bits = 64 := rfl
theorem forall_mem_cons' {p : Nat → Prop} (a : Nat) (l : List Nat) : (∀ i, i ∈ a :: l → p i) = (p a ∧ ∀ i, i ∈ l → p i) := by simp
theorem forall_mem_nil' {p : Nat → Prop} : (∀ i, i ∈ ([] : List Nat) → p i) = True := by simp
end Go.SX
