/- GameCalls: a call, and the return from it: the order behind it, the stack as it was; a thirteenth call is too deep; no condition. -/
import Derived.Test.YtgioegdjeodpiaaCE
import Derived.KernelRfl
import Derived.Test.YtgioegdjeodpiaaRows
set_option linter.unusedVariables false
set_option linter.unusedSimpArgs false
namespace Go.Proofs.Ytgioegdjeodpiaa
open Go.RowKit Go.SX
/-! A call and its return. -/
def callsB (g : GM) (t : Int) : GM := { g with PC := 512, mm := (((g.mm.set 0 (32 + t / 256)).set 1 (t % 256)).set (t - 512).toNat 0).set (t + 1 - 512).toNat 238 }
theorem dec_call_all : ((List.range 64).all fun a => (List.range 64).all fun b => decide (decode (8192 + (64 * a + b)) = some ⟨5, 0, 0, 0, 0, 64 * a + b⟩)) = true := by kernel_rfl
theorem dec_call {t : Nat} (h : t < 4096) : decode (8192 + t) = some ⟨5, 0, 0, 0, 0, t⟩ := by
  have h1 := List.all_eq_true.1 dec_call_all (t / 64) (List.mem_range.2 (by omega))
  have h2 := List.all_eq_true.1 h1 (t % 64) (List.mem_range.2 (Nat.mod_lt _ (by omega)))
  rw [Nat.div_add_mod] at h2
  exact of_decide_eq_true h2
theorem dec_back : decode 238 = some ⟨3, 0, 0, 0, 0, 0⟩ := by kernel_rfl
theorem getD_set2 (l : List Int) (i j : Nat) (x : Int) : (l.set i x).getD j 0 = if i = j ∧ i < l.length then x else l.getD j 0 := by
  by_cases h : i < l.length
  · rw [getD_set l i j x h]
    by_cases e : i = j
    · rw [if_pos e, if_pos ⟨e, h⟩]
    · rw [if_neg e, if_neg (fun c => e c.1)]
  · rw [List.set_eq_of_length_le (by omega), if_neg (fun c => h c.2)]
section
variable {g : GM} {t : Int} {f : Fnt}
theorem callsB_fine (h : Fine g) (h1 : 516 ≤ t) (h2 : t ≤ 3742) : Fine (callsB g t) := by
  have hm := h.mm
  refine ⟨⟨h.ok.V, h.ok.Vb, h.ok.I, ?_, h.ok.st, h.ok.dl, h.ok.sd, h.ok.pg, ?_⟩, h.pg, ?_, h.st⟩
  · show (0 : Int) ≤ 512 ∧ (512 : Int) ≤ 65535
    omega
  · exact byte_set (byte_set (byte_set (byte_set h.ok.mm (by omega)) (by omega)) (by omega)) (by omega)
  · show List.length (List.set _ _ _) = 3232
    simp only [List.length_set]
    exact hm
theorem callsB_mm (h : Fine g) (h1 : 516 ≤ t) (h2 : t ≤ 3742) : (callsB g t).mm.getD 0 0 = 32 + t / 256 ∧ (callsB g t).mm.getD 1 0 = t % 256 ∧ (callsB g t).mm.getD (t - 512).toNat 0 = 0 ∧ (callsB g t).mm.getD (t - 512 + 1).toNat 0 = 238 := by
  have hm := h.mm
  show ((((g.mm.set 0 (32 + t / 256)).set 1 (t % 256)).set (t - 512).toNat 0).set (t + 1 - 512).toNat 238).getD 0 0 = _ ∧ ((((g.mm.set 0 (32 + t / 256)).set 1 (t % 256)).set (t - 512).toNat 0).set (t + 1 - 512).toNat 238).getD 1 0 = _ ∧ ((((g.mm.set 0 (32 + t / 256)).set 1 (t % 256)).set (t - 512).toNat 0).set (t + 1 - 512).toNat 238).getD (t - 512).toNat 0 = _ ∧ ((((g.mm.set 0 (32 + t / 256)).set 1 (t % 256)).set (t - 512).toNat 0).set (t + 1 - 512).toNat 238).getD (t - 512 + 1).toNat 0 = _
  refine ⟨?_, ?_, ?_, ?_⟩
  · rw [getD_set2, if_neg (by omega), getD_set2, if_neg (by omega), getD_set2, if_neg (by omega), getD_set2, if_pos ⟨rfl, by omega⟩]
  · rw [getD_set2, if_neg (by omega), getD_set2, if_neg (by omega), getD_set2, if_pos ⟨rfl, by simp only [List.length_set]; omega⟩]
  · rw [getD_set2, if_neg (by omega), getD_set2, if_pos ⟨rfl, by simp only [List.length_set]; omega⟩]
  · rw [getD_set2, if_pos ⟨by omega, by simp only [List.length_set]; omega⟩]
theorem callsB_next (h : Fine g) (h1 : 516 ≤ t) (h2 : t ≤ 3742) : nextG (callsB g t) = (⟨5, 0, 0, 0, 0, t.toNat⟩, 1) := by
  have hm := h.mm
  have w : wordG (callsB g t) = 8192 + t.toNat := by
    obtain ⟨e0, e1, _, _⟩ := callsB_mm h h1 h2
    unfold wordG
    rw [show ((callsB g t).PC - 512).toNat = 0 from rfl, show ((callsB g t).PC - 512 + 1).toNat = 1 from rfl, e0, e1]
    omega
  have hc := (callsB_fine h h1 h2).check
  unfold nextG
  rw [if_neg (by rw [hc]; simp), if_neg (by show ¬ ¬ ((512 : Int) ≤ 512 ∧ (512 : Int) + 1 < 3744); omega), w, dec_call (by omega)]
  rfl
theorem calls_one (h : Fine g) (h1 : 516 ≤ t) (h2 : t ≤ 3742) (he : (stepG (callsB g t) f quietD).2.2 = 0) :
    stepG (callsB g t) f quietD = if g.st.length = 12 then (callsB g t, 5, 0) else ({ callsB g t with PC := t, st := g.st ++ [514] }, 1, 0) := by
  have hc := (callsB_fine h h1 h2).check
  have hn := callsB_next h h1 h2
  unfold stepG at he ⊢
  rw [if_neg (by rw [hc]; simp)] at he ⊢
  split at he
  · cases he
  · rename_i h3
    have hne : ¬ (nextG (callsB g t)).2 ≠ 1 := by rw [hn]; simp
    rw [if_neg h3, if_neg hne, hn]
    show (let r := callG { callsB g t with PC := IntKind.u16.wrap (512 + 2) } ⟨5, 0, 0, 0, 0, t.toNat⟩; if r.1 ≠ 1 then (callsB g t, r.1, 0) else (r.2, 1, 0)) = _
    unfold callG
    by_cases hs : g.st.length = 12
    · rw [if_pos hs, if_pos (show (callsB g t).st.length = 12 from hs)]
      rfl
    · rw [if_neg hs, if_neg (show ¬ (callsB g t).st.length = 12 from hs)]
      dsimp only
      rw [if_neg (by simp)]
      rw [show ((t.toNat : Nat) : Int) = t by omega, show IntKind.u16.wrap (512 + 2) = 514 from rfl]
      rfl
theorem callsC_next (h : Fine g) (h1 : 516 ≤ t) (h2 : t ≤ 3742) (hs : g.st.length < 12) : Fine { callsB g t with PC := t, st := g.st ++ [514] } ∧ nextG { callsB g t with PC := t, st := g.st ++ [514] } = (⟨3, 0, 0, 0, 0, 0⟩, 1) := by
  have hm := h.mm
  have hb := callsB_fine h h1 h2
  have hC : Fine { callsB g t with PC := t, st := g.st ++ [514] } := ⟨⟨hb.ok.V, hb.ok.Vb, hb.ok.I, (by show 0 ≤ t ∧ t ≤ 65535; omega), wd_app h.ok.st (by omega), hb.ok.dl, hb.ok.sd, hb.ok.pg, hb.ok.mm⟩, hb.pg, hb.mm, by show (g.st ++ [514]).length ≤ 12; rw [List.length_append]; simp only [List.length_cons, List.length_nil]; omega⟩
  refine ⟨hC, ?_⟩
  have w : wordG { callsB g t with PC := t, st := g.st ++ [514] } = 238 := by
    obtain ⟨_, _, e0, e1⟩ := callsB_mm h h1 h2
    show ((callsB g t).mm.getD (t - 512).toNat 0 * 256 + (callsB g t).mm.getD (t - 512 + 1).toNat 0).toNat = 238
    rw [e0, e1]
    rfl
  have hc := hC.check
  unfold nextG
  rw [if_neg (by rw [hc]; simp), if_neg (by show ¬ ¬ (512 ≤ t ∧ t + 1 < 3744); omega), w, dec_back]
  rfl
theorem calls_two (h : Fine g) (h1 : 516 ≤ t) (h2 : t ≤ 3742) (hs : g.st.length < 12) (he : (stepG (callsB g t) f quietD).2.2 = 0) :
    stepG { callsB g t with PC := t, st := g.st ++ [514] } f quietD = ({ callsB g t with PC := 514 }, 1, 0) := by
  have hc0 := (callsB_fine h h1 h2).check
  obtain ⟨hC, hn⟩ := callsC_next h h1 h2 hs
  have hc := hC.check
  have hf : ¬ (65536 < f.from_ + (f.bs.length : Int) ∨ 16 ≤ quietD.key) := by
    intro hx
    unfold stepG at he
    rw [if_neg (by rw [hc0]; simp), if_pos hx] at he
    cases he
  unfold stepG
  have hne : ¬ (nextG { callsB g t with PC := t, st := g.st ++ [514] }).2 ≠ 1 := by rw [hn]; simp
  rw [if_neg (by rw [hc]; simp), if_neg hf, if_neg hne, hn]
  show (let r := backG { callsB g t with PC := IntKind.u16.wrap (t + 2), st := g.st ++ [514] }; if r.1 ≠ 1 then ({ callsB g t with PC := t, st := g.st ++ [514] }, r.1, 0) else (r.2, 1, 0)) = _
  unfold backG
  dsimp only
  rw [if_neg (show ¬ (g.st ++ [(514 : Int)]).length = 0 by simp)]
  dsimp only
  rw [if_neg (by simp)]
  have e1 : (g.st ++ [(514 : Int)]).length - 1 = g.st.length := by simp
  rw [e1, List.take_left, show (g.st ++ [(514 : Int)]).getD g.st.length 0 = 514 by simp]
  rfl
end
end Go.Proofs.Ytgioegdjeodpiaa
set_option linter.unusedVariables false
set_option linter.unusedSimpArgs false
namespace Go.Proofs.Ytgioegdjeodpiaa
open Go.RowKit Go.SX
open Go.SX renaming ia_someH → Φa
set_option maxHeartbeats 4000000 in
set_option maxRecDepth 100000 in
theorem GameCalls_spec {Γ : Ctx} (hP : Γ.P = Try.prog) {L : Hp} {g : GM} {sv pv mv : Value} {a : Int} (ha : -9223372036854775808 ≤ a ∧ a ≤ 9223372036854775807) {f : Fnt} {fv : Value} (hg : OkG g) (hF : OkF f) (hs : SlI .u16 (Cell Γ []) sv g.st) (hp : SlI .u8 (Cell Γ []) pv g.pg) (hm : SlI .u8 (Cell Γ []) mv g.mm) (hf : SlI .u8 (Cell Γ []) fv f.bs) :
    SCall Γ 8 #[(.agg (g.cells sv pv mv).toArray), (.agg (f.cells fv).toArray), (.int .i64 a)] L (fun v L' => v = .bool true ∧ L' = L) := by
  obtain ⟨As, cs, rfl, hcs⟩ := slShape hs
  obtain ⟨Ap, cp, rfl, hcp⟩ := slShape hp
  obtain ⟨Am, cm, rfl, hcm⟩ := slShape hm
  obtain ⟨Af, cf, rfl, hcf⟩ := slShape hf
  refine SCall.enter (n := 138) (res1 6) (hP ▸ Try.func8) rfl rfl (by simp) (res1_ok rfl) ?_
  refine SX.seq_k fun K1 hK1 => ?_
  refine SX.region_d [some 3, some 4, some 6] rfl (fun ops hops => ?_)
  unfold Dsts at hops
  simp (maxSteps:=1000000)(dsimp:=false)(disch:=omega) only [go_sem, Φa, hP, hops]
  intro b0
  try with_reducible refine stI ?_
  try simp (maxSteps:=1000000)(dsimp:=false)(disch:=omega) only [go_sem, Φa, hP, hops]
  intro b1
  try with_reducible refine stI ?_
  try simp (maxSteps:=1000000)(dsimp:=false)(disch:=omega) only [go_sem, Φa, hP, hops]
  refine hK1 _ _ ?_
  try clear hK1 K1
  refine SX.seq_k fun K2 hK2 => ?_
  refine SX.region_d [some 19, some 7] rfl (fun ops hops => ?_)
  unfold Dsts at hops
  simp (maxSteps:=1000000)(dsimp:=false)(disch:=omega) only [go_sem, Φa, hP, hops]
  first | (refine SCall.mono (awake_spec hP) ?_; rintro v_ L_ ⟨hv_, hL_⟩; rw [hv_, hL_]; clear hv_ hL_ v_ L_) | refine ⟨_, awake_spec hP, ?_⟩ | refine ⟨_, fun L0 hl0 => awake_spec hP, ?_⟩
  try with_reducible refine stI ?_
  try simp (maxSteps:=1000000)(dsimp:=false)(disch:=omega) only [go_sem, Φa, hP, hops]
  refine hK2 _ _ ?_
  try clear hK2 K2
  refine SX.seq_k fun K3 hK3 => ?_
  refine SX.seq_k fun K4 hK4 => ?_
  refine SX.region_d [some 20, some 21, some 22] rfl (fun ops hops => ?_)
  unfold Dsts at hops
  simp (maxSteps:=1000000)(dsimp:=false)(disch:=omega) only [go_sem, Φa, hP, hops]
  refine ⟨_, Cell.at 1 rfl rfl, ?_⟩
  try with_reducible refine stI ?_
  try simp (maxSteps:=1000000)(dsimp:=false)(disch:=omega) only [go_sem, Φa, hP, hops]
  refine ⟨_, Cell.at 1 rfl rfl, ?_⟩
  try with_reducible refine stI ?_
  try simp (maxSteps:=1000000)(dsimp:=false)(disch:=omega) only [go_sem, Φa, hP, hops]
  refine ⟨_, Cell.at 1 rfl rfl, ?_⟩
  try with_reducible refine stI ?_
  try simp (maxSteps:=1000000)(dsimp:=false)(disch:=omega) only [go_sem, Φa, hP, hops]
  refine ⟨_, Cell.at 1 rfl rfl, ?_⟩
  try with_reducible refine stI ?_
  try simp (maxSteps:=1000000)(dsimp:=false)(disch:=omega) only [go_sem, Φa, hP, hops]
  refine ⟨_, Cell.at 1 rfl rfl, ?_⟩
  try with_reducible refine stI ?_
  try simp (maxSteps:=1000000)(dsimp:=false)(disch:=omega) only [go_sem, Φa, hP, hops]
  refine ⟨_, Cell.at 1 rfl rfl, ?_⟩
  try with_reducible refine stI ?_
  try simp (maxSteps:=1000000)(dsimp:=false)(disch:=omega) only [go_sem, Φa, hP, hops]
  refine ⟨_, Cell.at 1 rfl rfl, ?_⟩
  try with_reducible refine stI ?_
  try simp (maxSteps:=1000000)(dsimp:=false)(disch:=omega) only [go_sem, Φa, hP, hops]
  refine ⟨_, Cell.at 1 rfl rfl, ?_⟩
  try with_reducible refine stI ?_
  try simp (maxSteps:=1000000)(dsimp:=false)(disch:=omega) only [go_sem, Φa, hP, hops]
  refine ⟨_, Cell.at 1 rfl rfl, ?_⟩
  try with_reducible refine stI ?_
  try simp (maxSteps:=1000000)(dsimp:=false)(disch:=omega) only [go_sem, Φa, hP, hops]
  refine ⟨_, Cell.at 1 rfl rfl, ?_⟩
  try with_reducible refine stI ?_
  try simp (maxSteps:=1000000)(dsimp:=false)(disch:=omega) only [go_sem, Φa, hP, hops]
  refine ⟨_, Cell.at 1 rfl rfl, ?_⟩
  try with_reducible refine stI ?_
  try simp (maxSteps:=1000000)(dsimp:=false)(disch:=omega) only [go_sem, Φa, hP, hops]
  refine ⟨_, Cell.at 1 rfl rfl, ?_⟩
  try with_reducible refine stI ?_
  try simp (maxSteps:=1000000)(dsimp:=false)(disch:=omega) only [go_sem, Φa, hP, hops]
  refine ⟨_, Cell.at 1 rfl rfl, ?_⟩
  try with_reducible refine stI ?_
  try simp (maxSteps:=1000000)(dsimp:=false)(disch:=omega) only [go_sem, Φa, hP, hops]
  refine ⟨_, Cell.at 1 rfl rfl, ?_⟩
  try with_reducible refine stI ?_
  try simp (maxSteps:=1000000)(dsimp:=false)(disch:=omega) only [go_sem, Φa, hP, hops]
  refine ⟨_, Cell.at 1 rfl rfl, ?_⟩
  try with_reducible refine stI ?_
  try simp (maxSteps:=1000000)(dsimp:=false)(disch:=omega) only [go_sem, Φa, hP, hops]
  refine ⟨_, Cell.at 1 rfl rfl, ?_⟩
  try with_reducible refine stI ?_
  try simp (maxSteps:=1000000)(dsimp:=false)(disch:=omega) only [go_sem, Φa, hP, hops]
  refine ⟨_, Cell.at 1 rfl rfl, ?_⟩
  try with_reducible refine stI ?_
  try simp (maxSteps:=1000000)(dsimp:=false)(disch:=omega) only [go_sem, Φa, hP, hops]
  refine ⟨_, Cell.at 1 rfl rfl, ?_⟩
  try with_reducible refine stI ?_
  try simp (maxSteps:=1000000)(dsimp:=false)(disch:=omega) only [go_sem, Φa, hP, hops]
  refine ⟨_, Cell.at 1 rfl rfl, ?_⟩
  try with_reducible refine stI ?_
  try simp (maxSteps:=1000000)(dsimp:=false)(disch:=omega) only [go_sem, Φa, hP, hops]
  refine ⟨_, Cell.at 1 rfl rfl, ?_⟩
  try with_reducible refine stI ?_
  try simp (maxSteps:=1000000)(dsimp:=false)(disch:=omega) only [go_sem, Φa, hP, hops]
  refine ⟨_, Cell.at 1 rfl rfl, ?_⟩
  try with_reducible refine stI ?_
  try simp (maxSteps:=1000000)(dsimp:=false)(disch:=omega) only [go_sem, Φa, hP, hops]
  refine ⟨_, Cell.at 1 rfl rfl, ?_⟩
  try with_reducible refine stI ?_
  try simp (maxSteps:=1000000)(dsimp:=false)(disch:=omega) only [go_sem, Φa, hP, hops]
  refine ⟨_, Cell.at 1 rfl rfl, ?_⟩
  try with_reducible refine stI ?_
  try simp (maxSteps:=1000000)(dsimp:=false)(disch:=omega) only [go_sem, Φa, hP, hops]
  refine ⟨_, Cell.at 0 rfl rfl, ?_⟩
  try with_reducible refine stI ?_
  try simp (maxSteps:=1000000)(dsimp:=false)(disch:=omega) only [go_sem, Φa, hP, hops]
  refine ⟨_, Cell.at 0 rfl rfl, ?_⟩
  try with_reducible refine stI ?_
  try simp (maxSteps:=1000000)(dsimp:=false)(disch:=omega) only [go_sem, Φa, hP, hops]
  refine ⟨_, Cell.at 0 rfl rfl, ?_⟩
  try with_reducible refine stI ?_
  try simp (maxSteps:=1000000)(dsimp:=false)(disch:=omega) only [go_sem, Φa, hP, hops]
  refine ⟨_, Cell.at 0 rfl rfl, ?_⟩
  try with_reducible refine stI ?_
  try simp (maxSteps:=1000000)(dsimp:=false)(disch:=omega) only [go_sem, Φa, hP, hops]
  refine ⟨_, Cell.at 0 rfl rfl, ?_⟩
  try with_reducible refine stI ?_
  try simp (maxSteps:=1000000)(dsimp:=false)(disch:=omega) only [go_sem, Φa, hP, hops]
  refine ⟨_, Cell.at 0 rfl rfl, ?_⟩
  try with_reducible refine stI ?_
  try simp (maxSteps:=1000000)(dsimp:=false)(disch:=omega) only [go_sem, Φa, hP, hops]
  refine ⟨_, Cell.at 0 rfl rfl, ?_⟩
  try with_reducible refine stI ?_
  try simp (maxSteps:=1000000)(dsimp:=false)(disch:=omega) only [go_sem, Φa, hP, hops]
  refine ⟨_, Cell.at 0 rfl rfl, ?_⟩
  try with_reducible refine stI ?_
  try simp (maxSteps:=1000000)(dsimp:=false)(disch:=omega) only [go_sem, Φa, hP, hops]
  refine ⟨_, Cell.at 0 rfl rfl, ?_⟩
  try with_reducible refine stI ?_
  try simp (maxSteps:=1000000)(dsimp:=false)(disch:=omega) only [go_sem, Φa, hP, hops]
  refine ⟨_, Cell.at 0 rfl rfl, ?_⟩
  try with_reducible refine stI ?_
  try simp (maxSteps:=1000000)(dsimp:=false)(disch:=omega) only [go_sem, Φa, hP, hops]
  refine ⟨_, Cell.at 0 rfl rfl, ?_⟩
  try with_reducible refine stI ?_
  try simp (maxSteps:=1000000)(dsimp:=false)(disch:=omega) only [go_sem, Φa, hP, hops]
  refine ⟨_, Cell.at 0 rfl rfl, ?_⟩
  try with_reducible refine stI ?_
  try simp (maxSteps:=1000000)(dsimp:=false)(disch:=omega) only [go_sem, Φa, hP, hops]
  refine ⟨_, Cell.at 0 rfl rfl, ?_⟩
  try with_reducible refine stI ?_
  try simp (maxSteps:=1000000)(dsimp:=false)(disch:=omega) only [go_sem, Φa, hP, hops]
  refine ⟨_, Cell.at 0 rfl rfl, ?_⟩
  try with_reducible refine stI ?_
  try simp (maxSteps:=1000000)(dsimp:=false)(disch:=omega) only [go_sem, Φa, hP, hops]
  refine ⟨_, Cell.at 0 rfl rfl, ?_⟩
  try with_reducible refine stI ?_
  try simp (maxSteps:=1000000)(dsimp:=false)(disch:=omega) only [go_sem, Φa, hP, hops]
  refine ⟨_, Cell.at 0 rfl rfl, ?_⟩
  try with_reducible refine stI ?_
  try simp (maxSteps:=1000000)(dsimp:=false)(disch:=omega) only [go_sem, Φa, hP, hops]
  refine ⟨_, Cell.at 0 rfl rfl, ?_⟩
  try with_reducible refine stI ?_
  try simp (maxSteps:=1000000)(dsimp:=false)(disch:=omega) only [go_sem, Φa, hP, hops]
  refine ⟨_, Cell.at 0 rfl rfl, ?_⟩
  try with_reducible refine stI ?_
  try simp (maxSteps:=1000000)(dsimp:=false)(disch:=omega) only [go_sem, Φa, hP, hops]
  first | (refine SCall.mono (vast_spec (g := g) (f := f) hP (SlI.any hs) (SlI.any hp) (SlI.any hm) (SlI.any hf)) ?_; rintro v_ L_ ⟨hv_, hL_⟩; rw [hv_, hL_]; clear hv_ hL_ v_ L_) | refine ⟨_, vast_spec (g := g) (f := f) hP (SlI.any hs) (SlI.any hp) (SlI.any hm) (SlI.any hf), ?_⟩ | refine ⟨_, fun L0 hl0 => vast_spec (g := g) (f := f) hP (SlI.any hs) (SlI.any hp) (SlI.any hm) (SlI.any hf), ?_⟩
  try with_reducible refine stI ?_
  try simp (maxSteps:=1000000)(dsimp:=false)(disch:=omega) only [go_sem, Φa, hP, hops]
  refine hK4 _ _ ?_
  try clear hK4 K4
  refine SX.cond_k fun X5 Y5 hX5 hY5 => ?_
  simp (maxSteps:=1000000)(dsimp:=false)(disch:=omega) only [go_sem, Φa, hP, condVC]
  refine ⟨fun hc22 => hX5 ?_, fun hc22 => hY5 ?_⟩
  · clear hX5 hY5 X5 Y5
    refine SX.seq_k fun K6 hK6 => ?_
    refine SX.region_d [some 6] rfl (fun ops hops => ?_)
    unfold Dsts at hops
    simp (maxSteps:=1000000)(dsimp:=false)(disch:=omega) only [go_sem, Φa, hP, hops]
    refine hK6 _ _ ?_
    try clear hK6 K6
    refine SX.ret ?_
    simp only [andThen_normal, andThen_ret, andThen_exit, inBlk_normal, inBlk_ret, inBlk_exit, Nat.reduceEqDiff, if_true, if_false, ↓reduceIte, retQ_ret]
    try simp only [res0, res1, res2, res3, stK_e, go_sem, Φa, hP]
    exact ⟨_, _, Less.tail [_, _] _, rfl, rfl, rfl⟩
  · clear hX5 hY5 X5 Y5
    refine SX.skip ?_
    try simp only [andThen_normal, andThen_ret, andThen_exit, inBlk_normal, inBlk_ret, inBlk_exit, Nat.reduceEqDiff, if_true, if_false, ↓reduceIte]
    refine hK3 _ _ ?_
    try clear hK3 K3
    refine SX.seq_k fun K7 hK7 => ?_
    obtain ⟨hs1, hs2, hs3, hs4⟩ := vast_no (by simpa using hc22)
    refine SX.region_d [some 23, some 24, some 8] rfl (fun ops hops => ?_)
    unfold Dsts at hops
    simp (maxSteps:=1000000)(dsimp:=false)(disch:=omega) only [go_sem, Φa, hP, hops]
    refine ⟨_, Cell.at 1 rfl rfl, ?_⟩
    try with_reducible refine stI ?_
    try simp (maxSteps:=1000000)(dsimp:=false)(disch:=omega) only [go_sem, Φa, hP, hops]
    refine ⟨_, Cell.at 1 rfl rfl, ?_⟩
    try with_reducible refine stI ?_
    try simp (maxSteps:=1000000)(dsimp:=false)(disch:=omega) only [go_sem, Φa, hP, hops]
    refine ⟨_, Cell.at 1 rfl rfl, ?_⟩
    try with_reducible refine stI ?_
    try simp (maxSteps:=1000000)(dsimp:=false)(disch:=omega) only [go_sem, Φa, hP, hops]
    refine ⟨_, Cell.at 1 rfl rfl, ?_⟩
    try with_reducible refine stI ?_
    try simp (maxSteps:=1000000)(dsimp:=false)(disch:=omega) only [go_sem, Φa, hP, hops]
    refine ⟨_, Cell.at 1 rfl rfl, ?_⟩
    try with_reducible refine stI ?_
    try simp (maxSteps:=1000000)(dsimp:=false)(disch:=omega) only [go_sem, Φa, hP, hops]
    refine ⟨_, Cell.at 1 rfl rfl, ?_⟩
    try with_reducible refine stI ?_
    try simp (maxSteps:=1000000)(dsimp:=false)(disch:=omega) only [go_sem, Φa, hP, hops]
    refine ⟨_, Cell.at 1 rfl rfl, ?_⟩
    try with_reducible refine stI ?_
    try simp (maxSteps:=1000000)(dsimp:=false)(disch:=omega) only [go_sem, Φa, hP, hops]
    refine ⟨_, Cell.at 1 rfl rfl, ?_⟩
    try with_reducible refine stI ?_
    try simp (maxSteps:=1000000)(dsimp:=false)(disch:=omega) only [go_sem, Φa, hP, hops]
    refine ⟨_, Cell.at 1 rfl rfl, ?_⟩
    try with_reducible refine stI ?_
    try simp (maxSteps:=1000000)(dsimp:=false)(disch:=omega) only [go_sem, Φa, hP, hops]
    refine ⟨_, Cell.at 1 rfl rfl, ?_⟩
    try with_reducible refine stI ?_
    try simp (maxSteps:=1000000)(dsimp:=false)(disch:=omega) only [go_sem, Φa, hP, hops]
    refine ⟨_, Cell.at 1 rfl rfl, ?_⟩
    try with_reducible refine stI ?_
    try simp (maxSteps:=1000000)(dsimp:=false)(disch:=omega) only [go_sem, Φa, hP, hops]
    refine ⟨_, Cell.at 1 rfl rfl, ?_⟩
    try with_reducible refine stI ?_
    try simp (maxSteps:=1000000)(dsimp:=false)(disch:=omega) only [go_sem, Φa, hP, hops]
    refine ⟨_, Cell.at 1 rfl rfl, ?_⟩
    try with_reducible refine stI ?_
    try simp (maxSteps:=1000000)(dsimp:=false)(disch:=omega) only [go_sem, Φa, hP, hops]
    refine ⟨_, Cell.at 1 rfl rfl, ?_⟩
    try with_reducible refine stI ?_
    try simp (maxSteps:=1000000)(dsimp:=false)(disch:=omega) only [go_sem, Φa, hP, hops]
    refine ⟨_, Cell.at 1 rfl rfl, ?_⟩
    try with_reducible refine stI ?_
    try simp (maxSteps:=1000000)(dsimp:=false)(disch:=omega) only [go_sem, Φa, hP, hops]
    refine ⟨_, Cell.at 1 rfl rfl, ?_⟩
    try with_reducible refine stI ?_
    try simp (maxSteps:=1000000)(dsimp:=false)(disch:=omega) only [go_sem, Φa, hP, hops]
    refine ⟨_, Cell.at 1 rfl rfl, ?_⟩
    try with_reducible refine stI ?_
    try simp (maxSteps:=1000000)(dsimp:=false)(disch:=omega) only [go_sem, Φa, hP, hops]
    refine ⟨_, Cell.at 1 rfl rfl, ?_⟩
    try with_reducible refine stI ?_
    try simp (maxSteps:=1000000)(dsimp:=false)(disch:=omega) only [go_sem, Φa, hP, hops]
    refine ⟨_, Cell.at 1 rfl rfl, ?_⟩
    try with_reducible refine stI ?_
    try simp (maxSteps:=1000000)(dsimp:=false)(disch:=omega) only [go_sem, Φa, hP, hops]
    refine ⟨_, Cell.at 1 rfl rfl, ?_⟩
    try with_reducible refine stI ?_
    try simp (maxSteps:=1000000)(dsimp:=false)(disch:=omega) only [go_sem, Φa, hP, hops]
    refine ⟨_, Cell.at 1 rfl rfl, ?_⟩
    try with_reducible refine stI ?_
    try simp (maxSteps:=1000000)(dsimp:=false)(disch:=omega) only [go_sem, Φa, hP, hops]
    refine ⟨_, Cell.at 1 rfl rfl, ?_⟩
    try with_reducible refine stI ?_
    try simp (maxSteps:=1000000)(dsimp:=false)(disch:=omega) only [go_sem, Φa, hP, hops]
    refine ⟨_, Cell.at 1 rfl rfl, ?_⟩
    try with_reducible refine stI ?_
    try simp (maxSteps:=1000000)(dsimp:=false)(disch:=omega) only [go_sem, Φa, hP, hops]
    first | (refine SCall.mono (refCheck_spec (g := g) hP (SlI.any hs) (SlI.any hp) (SlI.any hm) (by omega) (by omega) (by omega)) ?_; rintro v_ L_ ⟨hv_, hL_⟩; rw [hv_, hL_]; clear hv_ hL_ v_ L_) | refine ⟨_, refCheck_spec (g := g) hP (SlI.any hs) (SlI.any hp) (SlI.any hm) (by omega) (by omega) (by omega), ?_⟩ | refine ⟨_, fun L0 hl0 => refCheck_spec (g := g) hP (SlI.any hs) (SlI.any hp) (SlI.any hm) (by omega) (by omega) (by omega), ?_⟩
    try with_reducible refine stI ?_
    try simp (maxSteps:=1000000)(dsimp:=false)(disch:=omega) only [go_sem, Φa, hP, hops]
    refine hK7 _ _ ?_
    try clear hK7 K7
    refine SX.live [2, 3, 4, 7, 8] (fun T1 hT1 => ?_)
    simp only [forall_mem_cons', forall_mem_nil', go_sem, Φa, hP] at hT1
    obtain ⟨h1_2, h1_3, h1_4, h1_7, h1_8⟩ := hT1
    refine SX.seq_k fun K8 hK8 => ?_
    refine SX.seq_k fun K9 hK9 => ?_
    refine SX.region_d [some 25, some 26] rfl (fun ops hops => ?_)
    unfold Dsts at hops
    simp (maxSteps:=1000000)(dsimp:=false)(disch:=omega) only [go_sem, Φa, hP, h1_2, h1_3, h1_4, h1_7, h1_8, hops]
    repeat' ((first | refine And.intro (by omega) ?_ | fail); try (with_reducible refine stI ?_); try simp (maxSteps:=1000000)(dsimp:=false)(disch:=omega) only [go_sem, Φa, hP, h1_2, h1_3, h1_4, h1_7, h1_8, hops])
    refine hK9 _ _ ?_
    try clear hK9 K9
    refine SX.cond_k fun X10 Y10 hX10 hY10 => ?_
    simp (maxSteps:=1000000)(dsimp:=false)(disch:=omega) only [go_sem, Φa, hP, h1_2, h1_3, h1_4, h1_7, h1_8, condVC]
    refine ⟨fun hc26 => hX10 ?_, fun hc26 => hY10 ?_⟩
    · clear hX10 hY10 X10 Y10
      refine SX.seq_k fun K11 hK11 => ?_
      refine SX.region_d [some 27, some 6] rfl (fun ops hops => ?_)
      unfold Dsts at hops
      simp (maxSteps:=1000000)(dsimp:=false)(disch:=omega) only [go_sem, Φa, hP, h1_2, h1_3, h1_4, h1_7, h1_8, hops]
      refine hK11 _ _ ?_
      try clear hK11 K11
      refine SX.ret ?_
      simp only [andThen_normal, andThen_ret, andThen_exit, inBlk_normal, inBlk_ret, inBlk_exit, Nat.reduceEqDiff, if_true, if_false, ↓reduceIte, retQ_ret]
      try simp only [res0, res1, res2, res3, stK_e, go_sem, Φa, hP, h1_2, h1_3, h1_4, h1_7, h1_8]
      exact ⟨_, _, Less.tail [_, _] _, rfl, rfl, rfl⟩
    · clear hX10 hY10 X10 Y10
      refine SX.skip ?_
      try simp only [andThen_normal, andThen_ret, andThen_exit, inBlk_normal, inBlk_ret, inBlk_exit, Nat.reduceEqDiff, if_true, if_false, ↓reduceIte]
      refine hK8 _ _ ?_
      try clear hK8 K8
      refine SX.seq_k fun K12 hK12 => ?_
      have hc0 : checkE g = 0 := by simpa using hc26
      have hfine := fine_of hg hc0
      have q1 := hfine.st
      have q2 := hfine.pg
      have q3 := hfine.mm
      have hpk := pickI_lt (c := a) (n := 3227) (by decide)
      obtain ⟨t, ht⟩ : ∃ t, 516 + pickI a 3227 = t := ⟨_, rfl⟩
      have ht1 : 516 ≤ t := by omega
      have ht2 : t ≤ 3742 := by omega
      have htd : t.tdiv 256 = t / 256 := Int.tdiv_eq_ediv_of_nonneg (by omega)
      have htm : t.tmod 256 = t % 256 := Int.tmod_eq_emod_of_nonneg (by omega)
      have hB := callsB_fine hfine ht1 ht2
      refine SX.region_d [some 28, some 29, some 30, some 9] rfl (fun ops hops => ?_)
      unfold Dsts at hops
      simp (maxSteps:=1000000)(dsimp:=false)(disch:=omega) only [go_sem, Φa, hP, h1_2, h1_3, h1_4, h1_7, h1_8, hops, ht]
      first | (refine SCall.mono (pick_spec (c := a) (n := 3227) hP ha (by decide)) ?_; rintro v_ L_ ⟨hv_, hL_⟩; rw [hv_, hL_]; clear hv_ hL_ v_ L_) | refine ⟨_, pick_spec (c := a) (n := 3227) hP ha (by decide), ?_⟩ | refine ⟨_, fun L0 hl0 => pick_spec (c := a) (n := 3227) hP ha (by decide), ?_⟩
      try with_reducible refine stI ?_
      try simp (maxSteps:=1000000)(dsimp:=false)(disch:=omega) only [go_sem, Φa, hP, h1_2, h1_3, h1_4, h1_7, h1_8, hops, ht]
      refine hK12 _ _ ?_
      try clear hK12 K12
      refine SX.seq_k fun K13 hK13 => ?_
      refine SX.region_d [some 31, some 32, none] rfl (fun ops hops => ?_)
      unfold Dsts at hops
      simp (maxSteps:=1000000)(dsimp:=false)(disch:=omega) only [go_sem, Φa, hP, h1_2, h1_3, h1_4, h1_7, h1_8, hops]
      refine ⟨_, Cell.at 1 rfl rfl, ?_⟩
      try with_reducible refine stI ?_
      try simp (maxSteps:=1000000)(dsimp:=false)(disch:=omega) only [go_sem, Φa, hP, h1_2, h1_3, h1_4, h1_7, h1_8, hops]
      refine ⟨_, Cell.at 1 rfl rfl, ?_⟩
      try with_reducible refine stI ?_
      try simp (maxSteps:=1000000)(dsimp:=false)(disch:=omega) only [go_sem, Φa, hP, h1_2, h1_3, h1_4, h1_7, h1_8, hops]
      refine ⟨_, Cell.at 1 rfl rfl, ?_⟩
      try with_reducible refine stI ?_
      try simp (maxSteps:=1000000)(dsimp:=false)(disch:=omega) only [go_sem, Φa, hP, h1_2, h1_3, h1_4, h1_7, h1_8, hops]
      refine ⟨_, Cell.at 1 rfl rfl, ?_⟩
      try with_reducible refine stI ?_
      try simp (maxSteps:=1000000)(dsimp:=false)(disch:=omega) only [go_sem, Φa, hP, h1_2, h1_3, h1_4, h1_7, h1_8, hops]
      refine ⟨_, Cell.at 1 rfl rfl, ?_⟩
      try with_reducible refine stI ?_
      try simp (maxSteps:=1000000)(dsimp:=false)(disch:=omega) only [go_sem, Φa, hP, h1_2, h1_3, h1_4, h1_7, h1_8, hops]
      refine ⟨_, Cell.at 1 rfl rfl, ?_⟩
      try with_reducible refine stI ?_
      try simp (maxSteps:=1000000)(dsimp:=false)(disch:=omega) only [go_sem, Φa, hP, h1_2, h1_3, h1_4, h1_7, h1_8, hops]
      refine ⟨_, Cell.at 1 rfl rfl, ?_⟩
      try with_reducible refine stI ?_
      try simp (maxSteps:=1000000)(dsimp:=false)(disch:=omega) only [go_sem, Φa, hP, h1_2, h1_3, h1_4, h1_7, h1_8, hops]
      refine ⟨_, Cell.at 1 rfl rfl, ?_⟩
      try with_reducible refine stI ?_
      try simp (maxSteps:=1000000)(dsimp:=false)(disch:=omega) only [go_sem, Φa, hP, h1_2, h1_3, h1_4, h1_7, h1_8, hops]
      refine ⟨_, Cell.at 1 rfl rfl, ?_⟩
      try with_reducible refine stI ?_
      try simp (maxSteps:=1000000)(dsimp:=false)(disch:=omega) only [go_sem, Φa, hP, h1_2, h1_3, h1_4, h1_7, h1_8, hops]
      refine ⟨_, Cell.at 1 rfl rfl, ?_⟩
      try with_reducible refine stI ?_
      try simp (maxSteps:=1000000)(dsimp:=false)(disch:=omega) only [go_sem, Φa, hP, h1_2, h1_3, h1_4, h1_7, h1_8, hops]
      refine ⟨_, Cell.at 1 rfl rfl, ?_⟩
      try with_reducible refine stI ?_
      try simp (maxSteps:=1000000)(dsimp:=false)(disch:=omega) only [go_sem, Φa, hP, h1_2, h1_3, h1_4, h1_7, h1_8, hops]
      refine ⟨_, Cell.at 1 rfl rfl, ?_⟩
      try with_reducible refine stI ?_
      try simp (maxSteps:=1000000)(dsimp:=false)(disch:=omega) only [go_sem, Φa, hP, h1_2, h1_3, h1_4, h1_7, h1_8, hops]
      refine ⟨_, Cell.at 1 rfl rfl, ?_⟩
      try with_reducible refine stI ?_
      try simp (maxSteps:=1000000)(dsimp:=false)(disch:=omega) only [go_sem, Φa, hP, h1_2, h1_3, h1_4, h1_7, h1_8, hops]
      refine ⟨_, Cell.at 1 rfl rfl, ?_⟩
      try with_reducible refine stI ?_
      try simp (maxSteps:=1000000)(dsimp:=false)(disch:=omega) only [go_sem, Φa, hP, h1_2, h1_3, h1_4, h1_7, h1_8, hops]
      refine ⟨_, Cell.at 1 rfl rfl, ?_⟩
      try with_reducible refine stI ?_
      try simp (maxSteps:=1000000)(dsimp:=false)(disch:=omega) only [go_sem, Φa, hP, h1_2, h1_3, h1_4, h1_7, h1_8, hops]
      refine ⟨_, Cell.at 1 rfl rfl, ?_⟩
      try with_reducible refine stI ?_
      try simp (maxSteps:=1000000)(dsimp:=false)(disch:=omega) only [go_sem, Φa, hP, h1_2, h1_3, h1_4, h1_7, h1_8, hops]
      refine ⟨_, Cell.at 1 rfl rfl, ?_⟩
      try with_reducible refine stI ?_
      try simp (maxSteps:=1000000)(dsimp:=false)(disch:=omega) only [go_sem, Φa, hP, h1_2, h1_3, h1_4, h1_7, h1_8, hops]
      refine ⟨_, Cell.at 1 rfl rfl, ?_⟩
      try with_reducible refine stI ?_
      try simp (maxSteps:=1000000)(dsimp:=false)(disch:=omega) only [go_sem, Φa, hP, h1_2, h1_3, h1_4, h1_7, h1_8, hops]
      refine ⟨_, Cell.at 1 rfl rfl, ?_⟩
      try with_reducible refine stI ?_
      try simp (maxSteps:=1000000)(dsimp:=false)(disch:=omega) only [go_sem, Φa, hP, h1_2, h1_3, h1_4, h1_7, h1_8, hops]
      refine ⟨_, Cell.at 1 rfl rfl, ?_⟩
      try with_reducible refine stI ?_
      try simp (maxSteps:=1000000)(dsimp:=false)(disch:=omega) only [go_sem, Φa, hP, h1_2, h1_3, h1_4, h1_7, h1_8, hops]
      refine ⟨_, Cell.at 1 rfl rfl, ?_⟩
      try with_reducible refine stI ?_
      try simp (maxSteps:=1000000)(dsimp:=false)(disch:=omega) only [go_sem, Φa, hP, h1_2, h1_3, h1_4, h1_7, h1_8, hops]
      refine ⟨_, Cell.at 1 rfl rfl, ?_⟩
      try with_reducible refine stI ?_
      try simp (maxSteps:=1000000)(dsimp:=false)(disch:=omega) only [go_sem, Φa, hP, h1_2, h1_3, h1_4, h1_7, h1_8, hops]
      refine ⟨_, Cell.at 1 rfl rfl, ?_⟩
      try with_reducible refine stI ?_
      try simp (maxSteps:=1000000)(dsimp:=false)(disch:=omega) only [go_sem, Φa, hP, h1_2, h1_3, h1_4, h1_7, h1_8, hops]
      refine SCall.mono (Copied_spec (g := g) hP (SlI.any hs) (SlI.any hp) (SlI.any hm) (by omega) (by omega) (by omega)) ?_
      rintro v_ L_ ⟨sv0, pv0, mv0, c1, c2, c3, rfl, rfl, hr⟩
      obtain ⟨A0st, c0st, rfl, hc0st⟩ := rowShape hr.st
      obtain ⟨A0pg, c0pg, rfl, hc0pg⟩ := rowShape hr.pg
      obtain ⟨r3, cap3, jk, rfl, rfl, hcap3, hjk⟩ := RowI.form2 hr.mm (by omega)
      unfold GM.cells
      try with_reducible refine stI ?_
      try simp (maxSteps:=1000000)(dsimp:=false)(disch:=omega) only [go_sem, Φa, hP, h1_2, h1_3, h1_4, h1_7, h1_8, hops]
      refine ⟨4, _, _, _, rfl, (by simp), .inr (by decide), ?_⟩
      try with_reducible refine stI ?_
      try simp (maxSteps:=1000000)(dsimp:=false)(disch:=omega) only [go_sem, Φa, hP, h1_2, h1_3, h1_4, h1_7, h1_8, hops]
      refine hK13 _ _ ?_
      try clear hK13 K13
      refine SX.seq_k fun K14 hK14 => ?_
      refine SX.region_d [some 33, none] rfl (fun ops hops => ?_)
      unfold Dsts at hops
      simp (maxSteps:=1000000)(dsimp:=false)(disch:=omega) only [go_sem, Φa, hP, h1_2, h1_3, h1_4, h1_7, h1_8, hops]
      refine ⟨4, _, _, _, rfl, (by simp), .inr (by decide), ?_⟩
      try with_reducible refine stI ?_
      try simp (maxSteps:=1000000)(dsimp:=false)(disch:=omega) only [go_sem, Φa, hP, h1_2, h1_3, h1_4, h1_7, h1_8, hops]
      refine hK14 _ _ ?_
      try clear hK14 K14
      refine SX.live [3, 4, 7, 9] (fun T2 hT2 => ?_)
      simp only [forall_mem_cons', forall_mem_nil', go_sem, Φa, hP, h1_2, h1_3, h1_4, h1_7, h1_8] at hT2
      obtain ⟨h2_3, h2_4, h2_7, h2_9⟩ := hT2
      clear h1_2 h1_3 h1_4 h1_7 h1_8 T1
      refine SX.seq_k fun K15 hK15 => ?_
      refine SX.region_d [some 34, some 35, some 36, some 37, some 38, some 39, some 40, none] rfl (fun ops hops => ?_)
      unfold Dsts at hops
      simp (maxSteps:=1000000)(dsimp:=false)(disch:=omega) only [go_sem, Φa, hP, h2_3, h2_4, h2_7, h2_9, hops, htd]
      refine ⟨_, Cell.at 4 rfl rfl, ?_⟩
      try with_reducible refine stI ?_
      try simp (maxSteps:=1000000)(dsimp:=false)(disch:=omega) only [go_sem, Φa, hP, h2_3, h2_4, h2_7, h2_9, hops, htd]
      refine ⟨2, _, _, _, rfl, (by simp [ints_length]; omega), .inr (Nat.zero_le _), ?_⟩
      try with_reducible refine stI ?_
      try simp (maxSteps:=1000000)(dsimp:=false)(disch:=omega) only [go_sem, Φa, hP, h2_3, h2_4, h2_7, h2_9, hops, htd]
      rw [ints_app_set (by omega)]
      refine hK15 _ _ ?_
      try clear hK15 K15
      refine SX.seq_k fun K16 hK16 => ?_
      refine SX.region_d [some 41, some 42, some 43, some 44, some 45, some 46, none] rfl (fun ops hops => ?_)
      unfold Dsts at hops
      simp (maxSteps:=1000000)(dsimp:=false)(disch:=omega) only [go_sem, Φa, hP, h2_3, h2_4, h2_7, h2_9, hops, htm]
      refine ⟨_, Cell.at 4 rfl rfl, ?_⟩
      try with_reducible refine stI ?_
      try simp (maxSteps:=1000000)(dsimp:=false)(disch:=omega) only [go_sem, Φa, hP, h2_3, h2_4, h2_7, h2_9, hops, htm]
      refine ⟨2, _, _, _, rfl, (by simp [ints_length]; omega), .inr (Nat.zero_le _), ?_⟩
      try with_reducible refine stI ?_
      try simp (maxSteps:=1000000)(dsimp:=false)(disch:=omega) only [go_sem, Φa, hP, h2_3, h2_4, h2_7, h2_9, hops, htm]
      rw [ints_app_set (by simp; omega)]
      refine hK16 _ _ ?_
      try clear hK16 K16
      refine SX.live [3, 4, 7, 9] (fun T3 hT3 => ?_)
      simp only [forall_mem_cons', forall_mem_nil', go_sem, Φa, hP, h2_3, h2_4, h2_7, h2_9] at hT3
      obtain ⟨h3_3, h3_4, h3_7, h3_9⟩ := hT3
      clear h2_3 h2_4 h2_7 h2_9 T2
      refine SX.seq_k fun K17 hK17 => ?_
      refine SX.region_d [some 47, some 48, some 49, some 50, some 51, none] rfl (fun ops hops => ?_)
      unfold Dsts at hops
      simp (maxSteps:=1000000)(dsimp:=false)(disch:=omega) only [go_sem, Φa, hP, h3_3, h3_4, h3_7, h3_9, hops]
      refine ⟨_, Cell.at 4 rfl rfl, ?_⟩
      try with_reducible refine stI ?_
      try simp (maxSteps:=1000000)(dsimp:=false)(disch:=omega) only [go_sem, Φa, hP, h3_3, h3_4, h3_7, h3_9, hops]
      refine ⟨2, _, _, _, rfl, (by simp [ints_length]; omega), .inr (Nat.zero_le _), ?_⟩
      try with_reducible refine stI ?_
      try simp (maxSteps:=1000000)(dsimp:=false)(disch:=omega) only [go_sem, Φa, hP, h3_3, h3_4, h3_7, h3_9, hops]
      rw [ints_app_set (by simp; omega)]
      refine hK17 _ _ ?_
      try clear hK17 K17
      refine SX.live [3, 4, 7, 9] (fun T4 hT4 => ?_)
      simp only [forall_mem_cons', forall_mem_nil', go_sem, Φa, hP, h3_3, h3_4, h3_7, h3_9] at hT4
      obtain ⟨h4_3, h4_4, h4_7, h4_9⟩ := hT4
      clear h3_3 h3_4 h3_7 h3_9 T3
      refine SX.join (fun (ss : Unit) T L' => T 3 = T4 3 ∧ T 4 = T4 4 ∧ T 7 = T4 7 ∧ T 9 = T4 9 ∧ L' = c1 :: c2 :: some (r3, .cells (ints .u8 (callsB g t).mm ++ jk).toArray 5 (0, 0)) :: some (b1, .cells (f.cells (.slice Af f.bs.length cf)).toArray 40 (0, 0)) :: some (b0, .cells ((callsB g t).cells (.slice A0st g.st.length c0st) (.slice A0pg g.pg.length c0pg) (.slice (some ⟨r3, 0, none⟩) g.mm.length cap3)).toArray 29 (0, 0)) :: L ∧ (True)) (fun K18 hK18 => ?_) ?_
      · simp only [h4_3, h4_4, h4_7, h4_9] at hK18
        refine SX.region_d [some 52, some 53, some 54, some 55, some 56, some 57, none] rfl (fun ops hops => ?_)
        unfold Dsts at hops
        simp (maxSteps:=1000000)(dsimp:=false)(disch:=omega) only [go_sem, Φa, hP, h4_3, h4_4, h4_7, h4_9, hops]
        refine ⟨_, Cell.at 4 rfl rfl, ?_⟩
        try with_reducible refine stI ?_
        try simp (maxSteps:=1000000)(dsimp:=false)(disch:=omega) only [go_sem, Φa, hP, h4_3, h4_4, h4_7, h4_9, hops]
        refine ⟨2, _, _, _, rfl, (by simp [ints_length]; omega), .inr (Nat.zero_le _), ?_⟩
        try with_reducible refine stI ?_
        try simp (maxSteps:=1000000)(dsimp:=false)(disch:=omega) only [go_sem, Φa, hP, h4_3, h4_4, h4_7, h4_9, hops]
        rw [ints_app_set (by simp; omega)]
        refine hK18 () _ (c1 :: c2 :: some (r3, .cells (ints .u8 (callsB g t).mm ++ jk).toArray 5 (0, 0)) :: some (b1, .cells (f.cells (.slice Af f.bs.length cf)).toArray 40 (0, 0)) :: some (b0, .cells ((callsB g t).cells (.slice A0st g.st.length c0st) (.slice A0pg g.pg.length c0pg) (.slice (some ⟨r3, 0, none⟩) g.mm.length cap3)).toArray 29 (0, 0)) :: L) _ (by first | exact Less.refl _ | exact Less.drop _ _ | exact Less.drops (Less.drop _ _) | exact Less.drops (Less.drops (Less.drop _ _)) | exact Less.drops (Less.drops (Less.drops (Less.drop _ _))) | exact Less.drops (Less.drops (Less.drops (Less.drops (Less.drop _ _))))) ?_
        try dsimp only
        refine ⟨?_, ?_, ?_, ?_, ?_, ?_⟩
        · simp (maxSteps:=1000000)(dsimp:=false)(disch:=omega) only [go_sem, Φa, hP, h4_3, h4_4, h4_7, h4_9]
        · simp (maxSteps:=1000000)(dsimp:=false)(disch:=omega) only [go_sem, Φa, hP, h4_3, h4_4, h4_7, h4_9]
        · simp (maxSteps:=1000000)(dsimp:=false)(disch:=omega) only [go_sem, Φa, hP, h4_3, h4_4, h4_7, h4_9]
        · simp (maxSteps:=1000000)(dsimp:=false)(disch:=omega) only [go_sem, Φa, hP, h4_3, h4_4, h4_7, h4_9]
        · rfl
        · trivial
      · intro ss T5 L5 hI
        simp only [h4_3, h4_4, h4_7, h4_9] at hI 
        obtain ⟨h5_3, h5_4, h5_7, h5_9, hL5, hinv⟩ := hI
        replace hL5 := hL5.symm
        subst hL5
        clear h4_3 h4_4 h4_7 h4_9 T4
        refine SX.seq_k fun K19 hK19 => ?_
        refine SX.region_d [some 58, some 10, none] rfl (fun ops hops => ?_)
        unfold Dsts at hops
        simp (maxSteps:=1000000)(dsimp:=false)(disch:=omega) only [go_sem, Φa, hP, h5_3, h5_4, h5_7, h5_9, hops]
        intro b10
        try with_reducible refine stI ?_
        try simp (maxSteps:=1000000)(dsimp:=false)(disch:=omega) only [go_sem, Φa, hP, h5_3, h5_4, h5_7, h5_9, hops]
        refine ⟨0, _, _, _, rfl, by decide, .inr (by decide), ?_⟩
        try with_reducible refine stI ?_
        try simp (maxSteps:=1000000)(dsimp:=false)(disch:=omega) only [go_sem, Φa, hP, h5_3, h5_4, h5_7, h5_9, hops]
        refine hK19 _ _ ?_
        try clear hK19 K19
        refine SX.seq_k fun K20 hK20 => ?_
        have hBl : g.mm.length = (callsB g t).mm.length := by rw [hB.mm, q3]
        have w1 := hB.st
        have w2 := hB.pg
        have w3 := hB.mm
        refine SX.region_d [some 60, some 61, some 62, some 63, some 59, some 64, some 65, some 66, some 11, none, some 12, some 13] rfl (fun ops hops => ?_)
        unfold Dsts at hops
        simp (maxSteps:=1000000)(dsimp:=false)(disch:=omega) only [go_sem, Φa, hP, h5_3, h5_4, h5_7, h5_9, hops]
        refine ⟨_, Cell.at 5 rfl rfl, ?_⟩
        try with_reducible refine stI ?_
        try simp (maxSteps:=1000000)(dsimp:=false)(disch:=omega) only [go_sem, Φa, hP, h5_3, h5_4, h5_7, h5_9, hops]
        refine ⟨_, Cell.at 5 rfl rfl, ?_⟩
        try with_reducible refine stI ?_
        try simp (maxSteps:=1000000)(dsimp:=false)(disch:=omega) only [go_sem, Φa, hP, h5_3, h5_4, h5_7, h5_9, hops]
        refine ⟨_, Cell.at 5 rfl rfl, ?_⟩
        try with_reducible refine stI ?_
        try simp (maxSteps:=1000000)(dsimp:=false)(disch:=omega) only [go_sem, Φa, hP, h5_3, h5_4, h5_7, h5_9, hops]
        refine ⟨_, Cell.at 5 rfl rfl, ?_⟩
        try with_reducible refine stI ?_
        try simp (maxSteps:=1000000)(dsimp:=false)(disch:=omega) only [go_sem, Φa, hP, h5_3, h5_4, h5_7, h5_9, hops]
        refine ⟨_, Cell.at 5 rfl rfl, ?_⟩
        try with_reducible refine stI ?_
        try simp (maxSteps:=1000000)(dsimp:=false)(disch:=omega) only [go_sem, Φa, hP, h5_3, h5_4, h5_7, h5_9, hops]
        refine ⟨_, Cell.at 5 rfl rfl, ?_⟩
        try with_reducible refine stI ?_
        try simp (maxSteps:=1000000)(dsimp:=false)(disch:=omega) only [go_sem, Φa, hP, h5_3, h5_4, h5_7, h5_9, hops]
        refine ⟨_, Cell.at 5 rfl rfl, ?_⟩
        try with_reducible refine stI ?_
        try simp (maxSteps:=1000000)(dsimp:=false)(disch:=omega) only [go_sem, Φa, hP, h5_3, h5_4, h5_7, h5_9, hops]
        refine ⟨_, Cell.at 5 rfl rfl, ?_⟩
        try with_reducible refine stI ?_
        try simp (maxSteps:=1000000)(dsimp:=false)(disch:=omega) only [go_sem, Φa, hP, h5_3, h5_4, h5_7, h5_9, hops]
        refine ⟨_, Cell.at 5 rfl rfl, ?_⟩
        try with_reducible refine stI ?_
        try simp (maxSteps:=1000000)(dsimp:=false)(disch:=omega) only [go_sem, Φa, hP, h5_3, h5_4, h5_7, h5_9, hops]
        refine ⟨_, Cell.at 5 rfl rfl, ?_⟩
        try with_reducible refine stI ?_
        try simp (maxSteps:=1000000)(dsimp:=false)(disch:=omega) only [go_sem, Φa, hP, h5_3, h5_4, h5_7, h5_9, hops]
        refine ⟨_, Cell.at 5 rfl rfl, ?_⟩
        try with_reducible refine stI ?_
        try simp (maxSteps:=1000000)(dsimp:=false)(disch:=omega) only [go_sem, Φa, hP, h5_3, h5_4, h5_7, h5_9, hops]
        refine ⟨_, Cell.at 5 rfl rfl, ?_⟩
        try with_reducible refine stI ?_
        try simp (maxSteps:=1000000)(dsimp:=false)(disch:=omega) only [go_sem, Φa, hP, h5_3, h5_4, h5_7, h5_9, hops]
        refine ⟨_, Cell.at 5 rfl rfl, ?_⟩
        try with_reducible refine stI ?_
        try simp (maxSteps:=1000000)(dsimp:=false)(disch:=omega) only [go_sem, Φa, hP, h5_3, h5_4, h5_7, h5_9, hops]
        refine ⟨_, Cell.at 5 rfl rfl, ?_⟩
        try with_reducible refine stI ?_
        try simp (maxSteps:=1000000)(dsimp:=false)(disch:=omega) only [go_sem, Φa, hP, h5_3, h5_4, h5_7, h5_9, hops]
        refine ⟨_, Cell.at 5 rfl rfl, ?_⟩
        try with_reducible refine stI ?_
        try simp (maxSteps:=1000000)(dsimp:=false)(disch:=omega) only [go_sem, Φa, hP, h5_3, h5_4, h5_7, h5_9, hops]
        refine ⟨_, Cell.at 5 rfl rfl, ?_⟩
        try with_reducible refine stI ?_
        try simp (maxSteps:=1000000)(dsimp:=false)(disch:=omega) only [go_sem, Φa, hP, h5_3, h5_4, h5_7, h5_9, hops]
        refine ⟨_, Cell.at 5 rfl rfl, ?_⟩
        try with_reducible refine stI ?_
        try simp (maxSteps:=1000000)(dsimp:=false)(disch:=omega) only [go_sem, Φa, hP, h5_3, h5_4, h5_7, h5_9, hops]
        refine ⟨_, Cell.at 5 rfl rfl, ?_⟩
        try with_reducible refine stI ?_
        try simp (maxSteps:=1000000)(dsimp:=false)(disch:=omega) only [go_sem, Φa, hP, h5_3, h5_4, h5_7, h5_9, hops]
        refine ⟨_, Cell.at 5 rfl rfl, ?_⟩
        try with_reducible refine stI ?_
        try simp (maxSteps:=1000000)(dsimp:=false)(disch:=omega) only [go_sem, Φa, hP, h5_3, h5_4, h5_7, h5_9, hops]
        refine ⟨_, Cell.at 5 rfl rfl, ?_⟩
        try with_reducible refine stI ?_
        try simp (maxSteps:=1000000)(dsimp:=false)(disch:=omega) only [go_sem, Φa, hP, h5_3, h5_4, h5_7, h5_9, hops]
        refine ⟨_, Cell.at 5 rfl rfl, ?_⟩
        try with_reducible refine stI ?_
        try simp (maxSteps:=1000000)(dsimp:=false)(disch:=omega) only [go_sem, Φa, hP, h5_3, h5_4, h5_7, h5_9, hops]
        refine ⟨_, Cell.at 5 rfl rfl, ?_⟩
        try with_reducible refine stI ?_
        try simp (maxSteps:=1000000)(dsimp:=false)(disch:=omega) only [go_sem, Φa, hP, h5_3, h5_4, h5_7, h5_9, hops]
        refine ⟨_, Cell.at 5 rfl rfl, ?_⟩
        try with_reducible refine stI ?_
        try simp (maxSteps:=1000000)(dsimp:=false)(disch:=omega) only [go_sem, Φa, hP, h5_3, h5_4, h5_7, h5_9, hops]
        refine ⟨_, Cell.at 4 rfl rfl, ?_⟩
        try with_reducible refine stI ?_
        try simp (maxSteps:=1000000)(dsimp:=false)(disch:=omega) only [go_sem, Φa, hP, h5_3, h5_4, h5_7, h5_9, hops]
        refine ⟨_, Cell.at 4 rfl rfl, ?_⟩
        try with_reducible refine stI ?_
        try simp (maxSteps:=1000000)(dsimp:=false)(disch:=omega) only [go_sem, Φa, hP, h5_3, h5_4, h5_7, h5_9, hops]
        refine ⟨_, Cell.at 4 rfl rfl, ?_⟩
        try with_reducible refine stI ?_
        try simp (maxSteps:=1000000)(dsimp:=false)(disch:=omega) only [go_sem, Φa, hP, h5_3, h5_4, h5_7, h5_9, hops]
        refine ⟨_, Cell.at 4 rfl rfl, ?_⟩
        try with_reducible refine stI ?_
        try simp (maxSteps:=1000000)(dsimp:=false)(disch:=omega) only [go_sem, Φa, hP, h5_3, h5_4, h5_7, h5_9, hops]
        refine ⟨_, Cell.at 4 rfl rfl, ?_⟩
        try with_reducible refine stI ?_
        try simp (maxSteps:=1000000)(dsimp:=false)(disch:=omega) only [go_sem, Φa, hP, h5_3, h5_4, h5_7, h5_9, hops]
        refine ⟨_, Cell.at 4 rfl rfl, ?_⟩
        try with_reducible refine stI ?_
        try simp (maxSteps:=1000000)(dsimp:=false)(disch:=omega) only [go_sem, Φa, hP, h5_3, h5_4, h5_7, h5_9, hops]
        refine ⟨_, Cell.at 4 rfl rfl, ?_⟩
        try with_reducible refine stI ?_
        try simp (maxSteps:=1000000)(dsimp:=false)(disch:=omega) only [go_sem, Φa, hP, h5_3, h5_4, h5_7, h5_9, hops]
        refine ⟨_, Cell.at 4 rfl rfl, ?_⟩
        try with_reducible refine stI ?_
        try simp (maxSteps:=1000000)(dsimp:=false)(disch:=omega) only [go_sem, Φa, hP, h5_3, h5_4, h5_7, h5_9, hops]
        refine ⟨_, Cell.at 4 rfl rfl, ?_⟩
        try with_reducible refine stI ?_
        try simp (maxSteps:=1000000)(dsimp:=false)(disch:=omega) only [go_sem, Φa, hP, h5_3, h5_4, h5_7, h5_9, hops]
        refine ⟨_, Cell.at 4 rfl rfl, ?_⟩
        try with_reducible refine stI ?_
        try simp (maxSteps:=1000000)(dsimp:=false)(disch:=omega) only [go_sem, Φa, hP, h5_3, h5_4, h5_7, h5_9, hops]
        refine ⟨_, Cell.at 4 rfl rfl, ?_⟩
        try with_reducible refine stI ?_
        try simp (maxSteps:=1000000)(dsimp:=false)(disch:=omega) only [go_sem, Φa, hP, h5_3, h5_4, h5_7, h5_9, hops]
        refine ⟨_, Cell.at 4 rfl rfl, ?_⟩
        try with_reducible refine stI ?_
        try simp (maxSteps:=1000000)(dsimp:=false)(disch:=omega) only [go_sem, Φa, hP, h5_3, h5_4, h5_7, h5_9, hops]
        refine ⟨_, Cell.at 4 rfl rfl, ?_⟩
        try with_reducible refine stI ?_
        try simp (maxSteps:=1000000)(dsimp:=false)(disch:=omega) only [go_sem, Φa, hP, h5_3, h5_4, h5_7, h5_9, hops]
        refine ⟨_, Cell.at 4 rfl rfl, ?_⟩
        try with_reducible refine stI ?_
        try simp (maxSteps:=1000000)(dsimp:=false)(disch:=omega) only [go_sem, Φa, hP, h5_3, h5_4, h5_7, h5_9, hops]
        refine ⟨_, Cell.at 4 rfl rfl, ?_⟩
        try with_reducible refine stI ?_
        try simp (maxSteps:=1000000)(dsimp:=false)(disch:=omega) only [go_sem, Φa, hP, h5_3, h5_4, h5_7, h5_9, hops]
        refine ⟨_, Cell.at 4 rfl rfl, ?_⟩
        try with_reducible refine stI ?_
        try simp (maxSteps:=1000000)(dsimp:=false)(disch:=omega) only [go_sem, Φa, hP, h5_3, h5_4, h5_7, h5_9, hops]
        refine ⟨_, Cell.at 4 rfl rfl, ?_⟩
        try with_reducible refine stI ?_
        try simp (maxSteps:=1000000)(dsimp:=false)(disch:=omega) only [go_sem, Φa, hP, h5_3, h5_4, h5_7, h5_9, hops]
        refine ⟨_, Cell.at 4 rfl rfl, ?_⟩
        try with_reducible refine stI ?_
        try simp (maxSteps:=1000000)(dsimp:=false)(disch:=omega) only [go_sem, Φa, hP, h5_3, h5_4, h5_7, h5_9, hops]
        refine ⟨_, Cell.at 0 rfl rfl, ?_⟩
        try with_reducible refine stI ?_
        try simp (maxSteps:=1000000)(dsimp:=false)(disch:=omega) only [go_sem, Φa, hP, h5_3, h5_4, h5_7, h5_9, hops]
        refine ⟨_, Cell.at 0 rfl rfl, ?_⟩
        try with_reducible refine stI ?_
        try simp (maxSteps:=1000000)(dsimp:=false)(disch:=omega) only [go_sem, Φa, hP, h5_3, h5_4, h5_7, h5_9, hops]
        refine ⟨_, Cell.at 0 rfl rfl, ?_⟩
        try with_reducible refine stI ?_
        try simp (maxSteps:=1000000)(dsimp:=false)(disch:=omega) only [go_sem, Φa, hP, h5_3, h5_4, h5_7, h5_9, hops]
        refine SCall.mono (Step_spec (g := callsB g t) (f := f) (d := quietD) hP hB.ok hF quietD_ok (RowI.sl hr.st (i := 1) rfl) (RowI.sl hr.pg (i := 2) rfl) (SlI.row (xs := (callsB g t).mm) (junk := jk) 3 rfl hBl (by omega)) (SlI.any hf) (by omega) (by omega) (by omega) (by omega)) ?_
        rintro v_ L_ ⟨sv1, pv1, mv1, n1, n2, n3, rfl, rfl, hr1⟩
        obtain ⟨A1st, c1st, rfl, hc1st⟩ := rowShape hr1.st
        obtain ⟨A1pg, c1pg, rfl, hc1pg⟩ := rowShape hr1.pg
        obtain ⟨A1mm, c1mm, rfl, hc1mm⟩ := rowShape hr1.mm
        unfold GM.cells
        try with_reducible refine stI ?_
        try simp (maxSteps:=1000000)(dsimp:=false)(disch:=omega) only [go_sem, Φa, hP, h5_3, h5_4, h5_7, h5_9, hops]
        intro b11
        try with_reducible refine stI ?_
        try simp (maxSteps:=1000000)(dsimp:=false)(disch:=omega) only [go_sem, Φa, hP, h5_3, h5_4, h5_7, h5_9, hops]
        refine ⟨0, _, _, _, rfl, by decide, .inr (by decide), ?_⟩
        try with_reducible refine stI ?_
        try simp (maxSteps:=1000000)(dsimp:=false)(disch:=omega) only [go_sem, Φa, hP, h5_3, h5_4, h5_7, h5_9, hops]
        refine hK20 _ _ ?_
        try clear hK20 K20
        refine SX.live [3, 4, 7, 9, 10, 11, 12, 13] (fun T6 hT6 => ?_)
        simp only [forall_mem_cons', forall_mem_nil', go_sem, Φa, hP, h5_3, h5_4, h5_7, h5_9] at hT6
        obtain ⟨h6_3, h6_4, h6_7, h6_9, h6_10, h6_11, h6_12, h6_13⟩ := hT6
        clear h5_3 h5_4 h5_7 h5_9 T5
        refine SX.seq_k fun K21 hK21 => ?_
        refine SX.seq_k fun K22 hK22 => ?_
        refine SX.region_d [some 67, some 68] rfl (fun ops hops => ?_)
        unfold Dsts at hops
        simp (maxSteps:=1000000)(dsimp:=false)(disch:=omega) only [go_sem, Φa, hP, h6_3, h6_4, h6_7, h6_9, h6_10, h6_11, h6_12, h6_13, hops]
        repeat' ((first | refine And.intro (by omega) ?_ | fail); try (with_reducible refine stI ?_); try simp (maxSteps:=1000000)(dsimp:=false)(disch:=omega) only [go_sem, Φa, hP, h6_3, h6_4, h6_7, h6_9, h6_10, h6_11, h6_12, h6_13, hops])
        refine hK22 _ _ ?_
        try clear hK22 K22
        refine SX.cond_k fun X23 Y23 hX23 hY23 => ?_
        simp (maxSteps:=1000000)(dsimp:=false)(disch:=omega) only [go_sem, Φa, hP, h6_3, h6_4, h6_7, h6_9, h6_10, h6_11, h6_12, h6_13, condVC]
        refine ⟨fun hc68 => hX23 ?_, fun hc68 => hY23 ?_⟩
        · clear hX23 hY23 X23 Y23
          refine SX.seq_k fun K24 hK24 => ?_
          refine SX.region_xd [some 69, some 70, some 71, some 72, some 73, some 6] rfl (fun ops hops => ?_)
          unfold Dsts at hops
          refine RX.live [7, 13] (fun T7 hT7 => ?_)
          simp only [forall_mem_cons', forall_mem_nil', go_sem, Φa, hP, h6_3, h6_4, h6_7, h6_9, h6_10, h6_11, h6_12, h6_13] at hT7
          obtain ⟨h7_7, h7_13⟩ := hT7
          clear h6_3 h6_4 h6_7 h6_9 h6_10 h6_11 h6_12 h6_13 T6
          have hbad := stepG_err hB.check (f := f) (d := quietD) (by simpa using hc68)
          have e1 : (stepG (callsB g t) f quietD).2.2 = 1 := by rw [hbad]
          refine RX.join 5 (fun (ss : Unit) T L' => T 73 = .bool (true) ∧ L' = some (b11, .cells ((stepG (callsB g t) f quietD).1.cells (.slice A1st (stepG (callsB g t) f quietD).1.st.length c1st) (.slice A1pg (stepG (callsB g t) f quietD).1.pg.length c1pg) (.slice A1mm (stepG (callsB g t) f quietD).1.mm.length c1mm)).toArray 29 (0, 0)) :: n1 :: n2 :: n3 :: some (b10, .cells quietD.cells.toArray 50 (0, 0)) :: c1 :: c2 :: some (r3, .cells (ints .u8 (callsB g t).mm ++ jk).toArray 5 (0, 0)) :: some (b1, .cells (f.cells (.slice Af f.bs.length cf)).toArray 40 (0, 0)) :: some (b0, .cells ((callsB g t).cells (.slice A0st g.st.length c0st) (.slice A0pg g.pg.length c0pg) (.slice (some ⟨r3, 0, none⟩) g.mm.length cap3)).toArray 29 (0, 0)) :: L ∧ (True)) (fun K25 hK25 => ?_) ?_
          · simp (maxSteps:=1000000)(dsimp:=false)(disch:=omega) only [go_sem, Φa, hP, h7_7, h7_13, hops]
            repeat' (first | refine iteB (fun hg => ?_) (fun hg => ?_) | refine iteI (fun hg => ?_) (fun hg => ?_) | ((first | refine And.intro (by omega) ?_ | refine ⟨_, Cell.at 0 rfl rfl, ?_⟩ | refine ⟨_, Cell.at 1 rfl rfl, ?_⟩ | refine ⟨_, Cell.at 2 rfl rfl, ?_⟩ | refine ⟨_, Cell.at 3 rfl rfl, ?_⟩ | refine ⟨_, Cell.at 4 rfl rfl, ?_⟩ | refine ⟨_, Cell.at 5 rfl rfl, ?_⟩ | refine ⟨_, Cell.at 6 rfl rfl, ?_⟩ | refine ⟨_, Cell.at 7 rfl rfl, ?_⟩ | refine ⟨_, Cell.at 8 rfl rfl, ?_⟩ | refine ⟨_, Cell.at 9 rfl rfl, ?_⟩ | fail); try (with_reducible refine stI ?_); try simp (maxSteps:=1000000)(dsimp:=false)(disch:=omega) only [go_sem, Φa, hP, h7_7, h7_13, hops]) | fail)
            all_goals
              refine hK25 () _ (some (b11, .cells ((stepG (callsB g t) f quietD).1.cells (.slice A1st (stepG (callsB g t) f quietD).1.st.length c1st) (.slice A1pg (stepG (callsB g t) f quietD).1.pg.length c1pg) (.slice A1mm (stepG (callsB g t) f quietD).1.mm.length c1mm)).toArray 29 (0, 0)) :: n1 :: n2 :: n3 :: some (b10, .cells quietD.cells.toArray 50 (0, 0)) :: c1 :: c2 :: some (r3, .cells (ints .u8 (callsB g t).mm ++ jk).toArray 5 (0, 0)) :: some (b1, .cells (f.cells (.slice Af f.bs.length cf)).toArray 40 (0, 0)) :: some (b0, .cells ((callsB g t).cells (.slice A0st g.st.length c0st) (.slice A0pg g.pg.length c0pg) (.slice (some ⟨r3, 0, none⟩) g.mm.length cap3)).toArray 29 (0, 0)) :: L) _ (by first | exact Less.refl _ | exact Less.drop _ _ | exact Less.drops (Less.drop _ _) | exact Less.drops (Less.drops (Less.drop _ _)) | exact Less.drops (Less.drops (Less.drops (Less.drop _ _))) | exact Less.drops (Less.drops (Less.drops (Less.drops (Less.drop _ _))))) ?_
              try dsimp only
              refine ⟨?_, ?_, ?_⟩
              · simp (maxSteps:=1000000)(dsimp:=false)(disch:=omega) only [go_sem, Φa, hP, h7_7, h7_13]
                first | done | (refine congrArg Value.bool ?_; simp_all; done)
              · rfl
              · trivial
          · intro ss T8 L8 hI
            obtain ⟨h8_73, hL8, hinv⟩ := hI
            replace hL8 := hL8.symm
            subst hL8
            clear h7_7 h7_13 T7
            refine RX.done ?_
            simp (maxSteps:=1000000)(dsimp:=false)(disch:=omega) only [go_sem, Φa, hP, h8_73, hops]
            refine hK24 _ _ ?_
            try clear hK24 K24
            refine SX.ret ?_
            simp only [andThen_normal, andThen_ret, andThen_exit, inBlk_normal, inBlk_ret, inBlk_exit, Nat.reduceEqDiff, if_true, if_false, ↓reduceIte, retQ_ret]
            try simp only [res0, res1, res2, res3, stK_e, go_sem, Φa, hP, h8_73]
            exact ⟨_, _, Less.tail [_, _, _, _, _, _, _, _, _, _] _, rfl, rfl, rfl⟩
        · clear hX23 hY23 X23 Y23
          refine SX.skip ?_
          try simp only [andThen_normal, andThen_ret, andThen_exit, inBlk_normal, inBlk_ret, inBlk_exit, Nat.reduceEqDiff, if_true, if_false, ↓reduceIte]
          refine hK21 _ _ ?_
          try clear hK21 K21
          refine SX.seq_k fun K26 hK26 => ?_
          refine SX.seq_k fun K27 hK27 => ?_
          have he0 : (stepG (callsB g t) f quietD).2.2 = 0 := by simpa using hc68
          have hone := calls_one hfine ht1 ht2 he0
          have hfn := hB.step hF quietD_ok he0
          have x1 := hfn.st
          have x2 := hfn.pg
          have x3 := hfn.mm
          refine SX.region_d [some 74, some 75, some 76, some 77] rfl (fun ops hops => ?_)
          unfold Dsts at hops
          simp (maxSteps:=1000000)(dsimp:=false)(disch:=omega) only [go_sem, Φa, hP, h6_3, h6_4, h6_7, h6_9, h6_10, h6_11, h6_12, h6_13, hops]
          refine ⟨_, Cell.at 9 rfl rfl, ?_⟩
          try with_reducible refine stI ?_
          try simp (maxSteps:=1000000)(dsimp:=false)(disch:=omega) only [go_sem, Φa, hP, h6_3, h6_4, h6_7, h6_9, h6_10, h6_11, h6_12, h6_13, hops]
          refine hK27 _ _ ?_
          try clear hK27 K27
          refine SX.cond_k fun X28 Y28 hX28 hY28 => ?_
          simp (maxSteps:=1000000)(dsimp:=false)(disch:=omega) only [go_sem, Φa, hP, h6_3, h6_4, h6_7, h6_9, h6_10, h6_11, h6_12, h6_13, condVC]
          refine ⟨fun hc77 => hX28 ?_, fun hc77 => hY28 ?_⟩
          · clear hX28 hY28 X28 Y28
            refine SX.seq_k fun K29 hK29 => ?_
            rw [if_pos (show g.st.length = 12 by omega)] at hone
            refine SX.region_d [some 78, some 79, some 80, some 14] rfl (fun ops hops => ?_)
            unfold Dsts at hops
            simp (maxSteps:=1000000)(dsimp:=false)(disch:=omega) only [go_sem, Φa, hP, h6_3, h6_4, h6_7, h6_9, h6_10, h6_11, h6_12, h6_13, hops]
            refine ⟨_, Cell.at 0 rfl rfl, ?_⟩
            try with_reducible refine stI ?_
            try simp (maxSteps:=1000000)(dsimp:=false)(disch:=omega) only [go_sem, Φa, hP, h6_3, h6_4, h6_7, h6_9, h6_10, h6_11, h6_12, h6_13, hops]
            refine ⟨_, Cell.at 0 rfl rfl, ?_⟩
            try with_reducible refine stI ?_
            try simp (maxSteps:=1000000)(dsimp:=false)(disch:=omega) only [go_sem, Φa, hP, h6_3, h6_4, h6_7, h6_9, h6_10, h6_11, h6_12, h6_13, hops]
            refine ⟨_, Cell.at 0 rfl rfl, ?_⟩
            try with_reducible refine stI ?_
            try simp (maxSteps:=1000000)(dsimp:=false)(disch:=omega) only [go_sem, Φa, hP, h6_3, h6_4, h6_7, h6_9, h6_10, h6_11, h6_12, h6_13, hops]
            refine ⟨_, Cell.at 0 rfl rfl, ?_⟩
            try with_reducible refine stI ?_
            try simp (maxSteps:=1000000)(dsimp:=false)(disch:=omega) only [go_sem, Φa, hP, h6_3, h6_4, h6_7, h6_9, h6_10, h6_11, h6_12, h6_13, hops]
            refine ⟨_, Cell.at 0 rfl rfl, ?_⟩
            try with_reducible refine stI ?_
            try simp (maxSteps:=1000000)(dsimp:=false)(disch:=omega) only [go_sem, Φa, hP, h6_3, h6_4, h6_7, h6_9, h6_10, h6_11, h6_12, h6_13, hops]
            refine ⟨_, Cell.at 0 rfl rfl, ?_⟩
            try with_reducible refine stI ?_
            try simp (maxSteps:=1000000)(dsimp:=false)(disch:=omega) only [go_sem, Φa, hP, h6_3, h6_4, h6_7, h6_9, h6_10, h6_11, h6_12, h6_13, hops]
            refine ⟨_, Cell.at 0 rfl rfl, ?_⟩
            try with_reducible refine stI ?_
            try simp (maxSteps:=1000000)(dsimp:=false)(disch:=omega) only [go_sem, Φa, hP, h6_3, h6_4, h6_7, h6_9, h6_10, h6_11, h6_12, h6_13, hops]
            refine ⟨_, Cell.at 0 rfl rfl, ?_⟩
            try with_reducible refine stI ?_
            try simp (maxSteps:=1000000)(dsimp:=false)(disch:=omega) only [go_sem, Φa, hP, h6_3, h6_4, h6_7, h6_9, h6_10, h6_11, h6_12, h6_13, hops]
            refine ⟨_, Cell.at 0 rfl rfl, ?_⟩
            try with_reducible refine stI ?_
            try simp (maxSteps:=1000000)(dsimp:=false)(disch:=omega) only [go_sem, Φa, hP, h6_3, h6_4, h6_7, h6_9, h6_10, h6_11, h6_12, h6_13, hops]
            refine ⟨_, Cell.at 0 rfl rfl, ?_⟩
            try with_reducible refine stI ?_
            try simp (maxSteps:=1000000)(dsimp:=false)(disch:=omega) only [go_sem, Φa, hP, h6_3, h6_4, h6_7, h6_9, h6_10, h6_11, h6_12, h6_13, hops]
            refine ⟨_, Cell.at 0 rfl rfl, ?_⟩
            try with_reducible refine stI ?_
            try simp (maxSteps:=1000000)(dsimp:=false)(disch:=omega) only [go_sem, Φa, hP, h6_3, h6_4, h6_7, h6_9, h6_10, h6_11, h6_12, h6_13, hops]
            refine ⟨_, Cell.at 0 rfl rfl, ?_⟩
            try with_reducible refine stI ?_
            try simp (maxSteps:=1000000)(dsimp:=false)(disch:=omega) only [go_sem, Φa, hP, h6_3, h6_4, h6_7, h6_9, h6_10, h6_11, h6_12, h6_13, hops]
            refine ⟨_, Cell.at 0 rfl rfl, ?_⟩
            try with_reducible refine stI ?_
            try simp (maxSteps:=1000000)(dsimp:=false)(disch:=omega) only [go_sem, Φa, hP, h6_3, h6_4, h6_7, h6_9, h6_10, h6_11, h6_12, h6_13, hops]
            refine ⟨_, Cell.at 0 rfl rfl, ?_⟩
            try with_reducible refine stI ?_
            try simp (maxSteps:=1000000)(dsimp:=false)(disch:=omega) only [go_sem, Φa, hP, h6_3, h6_4, h6_7, h6_9, h6_10, h6_11, h6_12, h6_13, hops]
            refine ⟨_, Cell.at 0 rfl rfl, ?_⟩
            try with_reducible refine stI ?_
            try simp (maxSteps:=1000000)(dsimp:=false)(disch:=omega) only [go_sem, Φa, hP, h6_3, h6_4, h6_7, h6_9, h6_10, h6_11, h6_12, h6_13, hops]
            refine ⟨_, Cell.at 0 rfl rfl, ?_⟩
            try with_reducible refine stI ?_
            try simp (maxSteps:=1000000)(dsimp:=false)(disch:=omega) only [go_sem, Φa, hP, h6_3, h6_4, h6_7, h6_9, h6_10, h6_11, h6_12, h6_13, hops]
            refine ⟨_, Cell.at 0 rfl rfl, ?_⟩
            try with_reducible refine stI ?_
            try simp (maxSteps:=1000000)(dsimp:=false)(disch:=omega) only [go_sem, Φa, hP, h6_3, h6_4, h6_7, h6_9, h6_10, h6_11, h6_12, h6_13, hops]
            refine ⟨_, Cell.at 0 rfl rfl, ?_⟩
            try with_reducible refine stI ?_
            try simp (maxSteps:=1000000)(dsimp:=false)(disch:=omega) only [go_sem, Φa, hP, h6_3, h6_4, h6_7, h6_9, h6_10, h6_11, h6_12, h6_13, hops]
            refine ⟨_, Cell.at 0 rfl rfl, ?_⟩
            try with_reducible refine stI ?_
            try simp (maxSteps:=1000000)(dsimp:=false)(disch:=omega) only [go_sem, Φa, hP, h6_3, h6_4, h6_7, h6_9, h6_10, h6_11, h6_12, h6_13, hops]
            refine ⟨_, Cell.at 0 rfl rfl, ?_⟩
            try with_reducible refine stI ?_
            try simp (maxSteps:=1000000)(dsimp:=false)(disch:=omega) only [go_sem, Φa, hP, h6_3, h6_4, h6_7, h6_9, h6_10, h6_11, h6_12, h6_13, hops]
            refine ⟨_, Cell.at 0 rfl rfl, ?_⟩
            try with_reducible refine stI ?_
            try simp (maxSteps:=1000000)(dsimp:=false)(disch:=omega) only [go_sem, Φa, hP, h6_3, h6_4, h6_7, h6_9, h6_10, h6_11, h6_12, h6_13, hops]
            refine ⟨_, Cell.at 0 rfl rfl, ?_⟩
            try with_reducible refine stI ?_
            try simp (maxSteps:=1000000)(dsimp:=false)(disch:=omega) only [go_sem, Φa, hP, h6_3, h6_4, h6_7, h6_9, h6_10, h6_11, h6_12, h6_13, hops]
            refine ⟨_, Cell.at 0 rfl rfl, ?_⟩
            try with_reducible refine stI ?_
            try simp (maxSteps:=1000000)(dsimp:=false)(disch:=omega) only [go_sem, Φa, hP, h6_3, h6_4, h6_7, h6_9, h6_10, h6_11, h6_12, h6_13, hops]
            refine ⟨_, Cell.at 9 rfl rfl, ?_⟩
            try with_reducible refine stI ?_
            try simp (maxSteps:=1000000)(dsimp:=false)(disch:=omega) only [go_sem, Φa, hP, h6_3, h6_4, h6_7, h6_9, h6_10, h6_11, h6_12, h6_13, hops]
            refine ⟨_, Cell.at 9 rfl rfl, ?_⟩
            try with_reducible refine stI ?_
            try simp (maxSteps:=1000000)(dsimp:=false)(disch:=omega) only [go_sem, Φa, hP, h6_3, h6_4, h6_7, h6_9, h6_10, h6_11, h6_12, h6_13, hops]
            refine ⟨_, Cell.at 9 rfl rfl, ?_⟩
            try with_reducible refine stI ?_
            try simp (maxSteps:=1000000)(dsimp:=false)(disch:=omega) only [go_sem, Φa, hP, h6_3, h6_4, h6_7, h6_9, h6_10, h6_11, h6_12, h6_13, hops]
            refine ⟨_, Cell.at 9 rfl rfl, ?_⟩
            try with_reducible refine stI ?_
            try simp (maxSteps:=1000000)(dsimp:=false)(disch:=omega) only [go_sem, Φa, hP, h6_3, h6_4, h6_7, h6_9, h6_10, h6_11, h6_12, h6_13, hops]
            refine ⟨_, Cell.at 9 rfl rfl, ?_⟩
            try with_reducible refine stI ?_
            try simp (maxSteps:=1000000)(dsimp:=false)(disch:=omega) only [go_sem, Φa, hP, h6_3, h6_4, h6_7, h6_9, h6_10, h6_11, h6_12, h6_13, hops]
            refine ⟨_, Cell.at 9 rfl rfl, ?_⟩
            try with_reducible refine stI ?_
            try simp (maxSteps:=1000000)(dsimp:=false)(disch:=omega) only [go_sem, Φa, hP, h6_3, h6_4, h6_7, h6_9, h6_10, h6_11, h6_12, h6_13, hops]
            refine ⟨_, Cell.at 9 rfl rfl, ?_⟩
            try with_reducible refine stI ?_
            try simp (maxSteps:=1000000)(dsimp:=false)(disch:=omega) only [go_sem, Φa, hP, h6_3, h6_4, h6_7, h6_9, h6_10, h6_11, h6_12, h6_13, hops]
            refine ⟨_, Cell.at 9 rfl rfl, ?_⟩
            try with_reducible refine stI ?_
            try simp (maxSteps:=1000000)(dsimp:=false)(disch:=omega) only [go_sem, Φa, hP, h6_3, h6_4, h6_7, h6_9, h6_10, h6_11, h6_12, h6_13, hops]
            refine ⟨_, Cell.at 9 rfl rfl, ?_⟩
            try with_reducible refine stI ?_
            try simp (maxSteps:=1000000)(dsimp:=false)(disch:=omega) only [go_sem, Φa, hP, h6_3, h6_4, h6_7, h6_9, h6_10, h6_11, h6_12, h6_13, hops]
            refine ⟨_, Cell.at 9 rfl rfl, ?_⟩
            try with_reducible refine stI ?_
            try simp (maxSteps:=1000000)(dsimp:=false)(disch:=omega) only [go_sem, Φa, hP, h6_3, h6_4, h6_7, h6_9, h6_10, h6_11, h6_12, h6_13, hops]
            refine ⟨_, Cell.at 9 rfl rfl, ?_⟩
            try with_reducible refine stI ?_
            try simp (maxSteps:=1000000)(dsimp:=false)(disch:=omega) only [go_sem, Φa, hP, h6_3, h6_4, h6_7, h6_9, h6_10, h6_11, h6_12, h6_13, hops]
            refine ⟨_, Cell.at 9 rfl rfl, ?_⟩
            try with_reducible refine stI ?_
            try simp (maxSteps:=1000000)(dsimp:=false)(disch:=omega) only [go_sem, Φa, hP, h6_3, h6_4, h6_7, h6_9, h6_10, h6_11, h6_12, h6_13, hops]
            refine ⟨_, Cell.at 9 rfl rfl, ?_⟩
            try with_reducible refine stI ?_
            try simp (maxSteps:=1000000)(dsimp:=false)(disch:=omega) only [go_sem, Φa, hP, h6_3, h6_4, h6_7, h6_9, h6_10, h6_11, h6_12, h6_13, hops]
            refine ⟨_, Cell.at 9 rfl rfl, ?_⟩
            try with_reducible refine stI ?_
            try simp (maxSteps:=1000000)(dsimp:=false)(disch:=omega) only [go_sem, Φa, hP, h6_3, h6_4, h6_7, h6_9, h6_10, h6_11, h6_12, h6_13, hops]
            refine ⟨_, Cell.at 9 rfl rfl, ?_⟩
            try with_reducible refine stI ?_
            try simp (maxSteps:=1000000)(dsimp:=false)(disch:=omega) only [go_sem, Φa, hP, h6_3, h6_4, h6_7, h6_9, h6_10, h6_11, h6_12, h6_13, hops]
            refine ⟨_, Cell.at 9 rfl rfl, ?_⟩
            try with_reducible refine stI ?_
            try simp (maxSteps:=1000000)(dsimp:=false)(disch:=omega) only [go_sem, Φa, hP, h6_3, h6_4, h6_7, h6_9, h6_10, h6_11, h6_12, h6_13, hops]
            refine ⟨_, Cell.at 9 rfl rfl, ?_⟩
            try with_reducible refine stI ?_
            try simp (maxSteps:=1000000)(dsimp:=false)(disch:=omega) only [go_sem, Φa, hP, h6_3, h6_4, h6_7, h6_9, h6_10, h6_11, h6_12, h6_13, hops]
            refine ⟨_, Cell.at 9 rfl rfl, ?_⟩
            try with_reducible refine stI ?_
            try simp (maxSteps:=1000000)(dsimp:=false)(disch:=omega) only [go_sem, Φa, hP, h6_3, h6_4, h6_7, h6_9, h6_10, h6_11, h6_12, h6_13, hops]
            refine ⟨_, Cell.at 9 rfl rfl, ?_⟩
            try with_reducible refine stI ?_
            try simp (maxSteps:=1000000)(dsimp:=false)(disch:=omega) only [go_sem, Φa, hP, h6_3, h6_4, h6_7, h6_9, h6_10, h6_11, h6_12, h6_13, hops]
            refine ⟨_, Cell.at 9 rfl rfl, ?_⟩
            try with_reducible refine stI ?_
            try simp (maxSteps:=1000000)(dsimp:=false)(disch:=omega) only [go_sem, Φa, hP, h6_3, h6_4, h6_7, h6_9, h6_10, h6_11, h6_12, h6_13, hops]
            refine ⟨_, Cell.at 9 rfl rfl, ?_⟩
            try with_reducible refine stI ?_
            try simp (maxSteps:=1000000)(dsimp:=false)(disch:=omega) only [go_sem, Φa, hP, h6_3, h6_4, h6_7, h6_9, h6_10, h6_11, h6_12, h6_13, hops]
            refine ⟨_, Cell.at 9 rfl rfl, ?_⟩
            try with_reducible refine stI ?_
            try simp (maxSteps:=1000000)(dsimp:=false)(disch:=omega) only [go_sem, Φa, hP, h6_3, h6_4, h6_7, h6_9, h6_10, h6_11, h6_12, h6_13, hops]
            refine ⟨_, Cell.at 9 rfl rfl, ?_⟩
            try with_reducible refine stI ?_
            try simp (maxSteps:=1000000)(dsimp:=false)(disch:=omega) only [go_sem, Φa, hP, h6_3, h6_4, h6_7, h6_9, h6_10, h6_11, h6_12, h6_13, hops]
            first | (refine SCall.mono (Same_spec (a := (stepG (callsB g t) f quietD).1) (b := callsB g t) hP hfn.ok hB.ok (RowI.sl hr1.st (i := 1) rfl) (RowI.sl hr1.pg (i := 2) rfl) (RowI.sl hr1.mm (i := 3) rfl) (RowI.sl hr.st (i := 5) rfl) (RowI.sl hr.pg (i := 6) rfl) (SlI.row (xs := (callsB g t).mm) (junk := jk) 7 rfl hBl (by omega)) (by omega) (by omega)) ?_; rintro v_ L_ ⟨hv_, hL_⟩; rw [hv_, hL_]; clear hv_ hL_ v_ L_) | refine ⟨_, Same_spec (a := (stepG (callsB g t) f quietD).1) (b := callsB g t) hP hfn.ok hB.ok (RowI.sl hr1.st (i := 1) rfl) (RowI.sl hr1.pg (i := 2) rfl) (RowI.sl hr1.mm (i := 3) rfl) (RowI.sl hr.st (i := 5) rfl) (RowI.sl hr.pg (i := 6) rfl) (SlI.row (xs := (callsB g t).mm) (junk := jk) 7 rfl hBl (by omega)) (by omega) (by omega), ?_⟩ | refine ⟨_, fun L0 hl0 => Same_spec (a := (stepG (callsB g t) f quietD).1) (b := callsB g t) hP hfn.ok hB.ok (RowI.sl hr1.st (i := 1) rfl) (RowI.sl hr1.pg (i := 2) rfl) (RowI.sl hr1.mm (i := 3) rfl) (RowI.sl hr.st (i := 5) rfl) (RowI.sl hr.pg (i := 6) rfl) (SlI.row (xs := (callsB g t).mm) (junk := jk) 7 rfl hBl (by omega)) (by omega) (by omega), ?_⟩
            rw [show sameB (stepG (callsB g t) f quietD).1 (callsB g t) = true from by rw [hone]; exact sameB_self _]
            try with_reducible refine stI ?_
            try simp (maxSteps:=1000000)(dsimp:=false)(disch:=omega) only [go_sem, Φa, hP, h6_3, h6_4, h6_7, h6_9, h6_10, h6_11, h6_12, h6_13, hops]
            refine hK29 _ _ ?_
            try clear hK29 K29
            refine SX.live [7, 12, 14] (fun T9 hT9 => ?_)
            simp only [forall_mem_cons', forall_mem_nil', go_sem, Φa, hP, h6_3, h6_4, h6_7, h6_9, h6_10, h6_11, h6_12, h6_13] at hT9
            obtain ⟨h9_7, h9_12, h9_14⟩ := hT9
            clear h6_3 h6_4 h6_7 h6_9 h6_10 h6_11 h6_12 h6_13 T6
            refine SX.seq_k fun K30 hK30 => ?_
            refine SX.region_xd [some 81, some 82, some 83, some 84, some 85, some 86, some 87, some 88, some 6] rfl (fun ops hops => ?_)
            unfold Dsts at hops
            refine RX.live [7, 12, 14] (fun T10 hT10 => ?_)
            simp only [forall_mem_cons', forall_mem_nil', go_sem, Φa, hP, h9_7, h9_12, h9_14] at hT10
            obtain ⟨h10_7, h10_12, h10_14⟩ := hT10
            clear h9_7 h9_12 h9_14 T9
            have e1 : (stepG (callsB g t) f quietD).2.1 = 5 := by rw [hone]
            refine RX.join 5 (fun (ss : Unit) T L' => T 85 = .bool (true) ∧ T 14 = T10 14 ∧ L' = some (b11, .cells ((stepG (callsB g t) f quietD).1.cells (.slice A1st (stepG (callsB g t) f quietD).1.st.length c1st) (.slice A1pg (stepG (callsB g t) f quietD).1.pg.length c1pg) (.slice A1mm (stepG (callsB g t) f quietD).1.mm.length c1mm)).toArray 29 (0, 0)) :: n1 :: n2 :: n3 :: some (b10, .cells quietD.cells.toArray 50 (0, 0)) :: c1 :: c2 :: some (r3, .cells (ints .u8 (callsB g t).mm ++ jk).toArray 5 (0, 0)) :: some (b1, .cells (f.cells (.slice Af f.bs.length cf)).toArray 40 (0, 0)) :: some (b0, .cells ((callsB g t).cells (.slice A0st g.st.length c0st) (.slice A0pg g.pg.length c0pg) (.slice (some ⟨r3, 0, none⟩) g.mm.length cap3)).toArray 29 (0, 0)) :: L ∧ (True)) (fun K31 hK31 => ?_) ?_
            · simp only [h10_14] at hK31
              simp (maxSteps:=1000000)(dsimp:=false)(disch:=omega) only [go_sem, Φa, hP, h10_7, h10_12, h10_14, hops]
              repeat' (first | refine iteB (fun hg => ?_) (fun hg => ?_) | refine iteI (fun hg => ?_) (fun hg => ?_) | ((first | refine And.intro (by omega) ?_ | refine ⟨_, Cell.at 0 rfl rfl, ?_⟩ | refine ⟨_, Cell.at 1 rfl rfl, ?_⟩ | refine ⟨_, Cell.at 2 rfl rfl, ?_⟩ | refine ⟨_, Cell.at 3 rfl rfl, ?_⟩ | refine ⟨_, Cell.at 4 rfl rfl, ?_⟩ | refine ⟨_, Cell.at 5 rfl rfl, ?_⟩ | refine ⟨_, Cell.at 6 rfl rfl, ?_⟩ | refine ⟨_, Cell.at 7 rfl rfl, ?_⟩ | refine ⟨_, Cell.at 8 rfl rfl, ?_⟩ | refine ⟨_, Cell.at 9 rfl rfl, ?_⟩ | fail); try (with_reducible refine stI ?_); try simp (maxSteps:=1000000)(dsimp:=false)(disch:=omega) only [go_sem, Φa, hP, h10_7, h10_12, h10_14, hops]) | fail)
              all_goals
                refine hK31 () _ (some (b11, .cells ((stepG (callsB g t) f quietD).1.cells (.slice A1st (stepG (callsB g t) f quietD).1.st.length c1st) (.slice A1pg (stepG (callsB g t) f quietD).1.pg.length c1pg) (.slice A1mm (stepG (callsB g t) f quietD).1.mm.length c1mm)).toArray 29 (0, 0)) :: n1 :: n2 :: n3 :: some (b10, .cells quietD.cells.toArray 50 (0, 0)) :: c1 :: c2 :: some (r3, .cells (ints .u8 (callsB g t).mm ++ jk).toArray 5 (0, 0)) :: some (b1, .cells (f.cells (.slice Af f.bs.length cf)).toArray 40 (0, 0)) :: some (b0, .cells ((callsB g t).cells (.slice A0st g.st.length c0st) (.slice A0pg g.pg.length c0pg) (.slice (some ⟨r3, 0, none⟩) g.mm.length cap3)).toArray 29 (0, 0)) :: L) _ (by first | exact Less.refl _ | exact Less.drop _ _ | exact Less.drops (Less.drop _ _) | exact Less.drops (Less.drops (Less.drop _ _)) | exact Less.drops (Less.drops (Less.drops (Less.drop _ _))) | exact Less.drops (Less.drops (Less.drops (Less.drops (Less.drop _ _))))) ?_
                try dsimp only
                refine ⟨?_, ?_, ?_, ?_⟩
                · simp (maxSteps:=1000000)(dsimp:=false)(disch:=omega) only [go_sem, Φa, hP, h10_7, h10_12, h10_14]
                  first | done | (refine congrArg Value.bool ?_; simp_all; done)
                · simp (maxSteps:=1000000)(dsimp:=false)(disch:=omega) only [go_sem, Φa, hP, h10_7, h10_12, h10_14]
                · rfl
                · trivial
            · intro ss T11 L11 hI
              simp only [h10_14] at hI 
              obtain ⟨h11_85, h11_14, hL11, hinv⟩ := hI
              replace hL11 := hL11.symm
              subst hL11
              clear h10_7 h10_12 h10_14 T10
              refine RX.live [14, 85] (fun T12 hT12 => ?_)
              simp only [forall_mem_cons', forall_mem_nil', go_sem, Φa, hP, h11_85, h11_14] at hT12
              obtain ⟨h12_14, h12_85⟩ := hT12
              clear h11_85 h11_14 T11
              refine RX.join 3 (fun (ss : Unit) T L' => T 88 = .bool (true) ∧ L' = some (b11, .cells ((stepG (callsB g t) f quietD).1.cells (.slice A1st (stepG (callsB g t) f quietD).1.st.length c1st) (.slice A1pg (stepG (callsB g t) f quietD).1.pg.length c1pg) (.slice A1mm (stepG (callsB g t) f quietD).1.mm.length c1mm)).toArray 29 (0, 0)) :: n1 :: n2 :: n3 :: some (b10, .cells quietD.cells.toArray 50 (0, 0)) :: c1 :: c2 :: some (r3, .cells (ints .u8 (callsB g t).mm ++ jk).toArray 5 (0, 0)) :: some (b1, .cells (f.cells (.slice Af f.bs.length cf)).toArray 40 (0, 0)) :: some (b0, .cells ((callsB g t).cells (.slice A0st g.st.length c0st) (.slice A0pg g.pg.length c0pg) (.slice (some ⟨r3, 0, none⟩) g.mm.length cap3)).toArray 29 (0, 0)) :: L ∧ (True)) (fun K32 hK32 => ?_) ?_
              · simp (maxSteps:=1000000)(dsimp:=false)(disch:=omega) only [go_sem, Φa, hP, h12_14, h12_85, hops]
                repeat' (first | refine iteB (fun hg => ?_) (fun hg => ?_) | refine iteI (fun hg => ?_) (fun hg => ?_) | ((first | refine And.intro (by omega) ?_ | refine ⟨_, Cell.at 0 rfl rfl, ?_⟩ | refine ⟨_, Cell.at 1 rfl rfl, ?_⟩ | refine ⟨_, Cell.at 2 rfl rfl, ?_⟩ | refine ⟨_, Cell.at 3 rfl rfl, ?_⟩ | refine ⟨_, Cell.at 4 rfl rfl, ?_⟩ | refine ⟨_, Cell.at 5 rfl rfl, ?_⟩ | refine ⟨_, Cell.at 6 rfl rfl, ?_⟩ | refine ⟨_, Cell.at 7 rfl rfl, ?_⟩ | refine ⟨_, Cell.at 8 rfl rfl, ?_⟩ | refine ⟨_, Cell.at 9 rfl rfl, ?_⟩ | fail); try (with_reducible refine stI ?_); try simp (maxSteps:=1000000)(dsimp:=false)(disch:=omega) only [go_sem, Φa, hP, h12_14, h12_85, hops]) | fail)
                all_goals
                  refine hK32 () _ (some (b11, .cells ((stepG (callsB g t) f quietD).1.cells (.slice A1st (stepG (callsB g t) f quietD).1.st.length c1st) (.slice A1pg (stepG (callsB g t) f quietD).1.pg.length c1pg) (.slice A1mm (stepG (callsB g t) f quietD).1.mm.length c1mm)).toArray 29 (0, 0)) :: n1 :: n2 :: n3 :: some (b10, .cells quietD.cells.toArray 50 (0, 0)) :: c1 :: c2 :: some (r3, .cells (ints .u8 (callsB g t).mm ++ jk).toArray 5 (0, 0)) :: some (b1, .cells (f.cells (.slice Af f.bs.length cf)).toArray 40 (0, 0)) :: some (b0, .cells ((callsB g t).cells (.slice A0st g.st.length c0st) (.slice A0pg g.pg.length c0pg) (.slice (some ⟨r3, 0, none⟩) g.mm.length cap3)).toArray 29 (0, 0)) :: L) _ (by first | exact Less.refl _ | exact Less.drop _ _ | exact Less.drops (Less.drop _ _) | exact Less.drops (Less.drops (Less.drop _ _)) | exact Less.drops (Less.drops (Less.drops (Less.drop _ _))) | exact Less.drops (Less.drops (Less.drops (Less.drops (Less.drop _ _))))) ?_
                  try dsimp only
                  refine ⟨?_, ?_, ?_⟩
                  · simp (maxSteps:=1000000)(dsimp:=false)(disch:=omega) only [go_sem, Φa, hP, h12_14, h12_85]
                    first | done | (refine congrArg Value.bool ?_; simp_all; done)
                  · rfl
                  · trivial
              · intro ss T13 L13 hI
                obtain ⟨h13_88, hL13, hinv⟩ := hI
                replace hL13 := hL13.symm
                subst hL13
                clear h12_14 h12_85 T12
                refine RX.done ?_
                simp (maxSteps:=1000000)(dsimp:=false)(disch:=omega) only [go_sem, Φa, hP, h13_88, hops]
                refine hK30 _ _ ?_
                try clear hK30 K30
                refine SX.ret ?_
                simp only [andThen_normal, andThen_ret, andThen_exit, inBlk_normal, inBlk_ret, inBlk_exit, Nat.reduceEqDiff, if_true, if_false, ↓reduceIte, retQ_ret]
                try simp only [res0, res1, res2, res3, stK_e, go_sem, Φa, hP, h13_88]
                exact ⟨_, _, Less.tail [_, _, _, _, _, _, _, _, _, _] _, rfl, rfl, rfl⟩
          · clear hX28 hY28 X28 Y28
            refine SX.skip ?_
            try simp only [andThen_normal, andThen_ret, andThen_exit, inBlk_normal, inBlk_ret, inBlk_exit, Nat.reduceEqDiff, if_true, if_false, ↓reduceIte]
            refine hK26 _ _ ?_
            try clear hK26 K26
            refine SX.seq_k fun K33 hK33 => ?_
            refine SX.seq_k fun K34 hK34 => ?_
            refine SX.region_xd [some 89, some 90, some 91, some 92, some 93, some 94, some 95, some 96, some 97, some 98, some 99, some 100, some 101, some 102, some 103, some 104, some 105, some 106, some 107, some 108, some 109, some 110, some 111, some 112, some 113, some 114, some 115, some 116, some 117] rfl (fun ops hops => ?_)
            unfold Dsts at hops
            refine RX.live [3, 4, 7, 9, 10, 11, 12] (fun T14 hT14 => ?_)
            simp only [forall_mem_cons', forall_mem_nil', go_sem, Φa, hP, h6_3, h6_4, h6_7, h6_9, h6_10, h6_11, h6_12, h6_13] at hT14
            obtain ⟨h14_3, h14_4, h14_7, h14_9, h14_10, h14_11, h14_12⟩ := hT14
            clear h6_3 h6_4 h6_7 h6_9 h6_10 h6_11 h6_12 h6_13 T6
            have hs12 : g.st.length < 12 := by omega
            rw [if_neg (show ¬ g.st.length = 12 by omega)] at hone
            have e1 : (stepG (callsB g t) f quietD).2.1 = 1 := by rw [hone]
            have e2 : (stepG (callsB g t) f quietD).1.PC = t := by rw [hone]
            have e3 : (stepG (callsB g t) f quietD).1.st.length = g.st.length + 1 := by rw [hone]; simp
            have e4 : (stepG (callsB g t) f quietD).1.st.getD g.st.length 0 = 514 := by rw [hone]; simp
            obtain ⟨As1, cs1, hes, hcs1, hAs1⟩ := id (RowI.sl hr1.st (Γ := Γ) (i := 1) (L := some (b11, .cells ((stepG (callsB g t) f quietD).1.cells (.slice A1st (stepG (callsB g t) f quietD).1.st.length c1st) (.slice A1pg (stepG (callsB g t) f quietD).1.pg.length c1pg) (.slice A1mm (stepG (callsB g t) f quietD).1.mm.length c1mm)).toArray 29 (0, 0)) :: n1 :: n2 :: n3 :: some (b10, .cells quietD.cells.toArray 50 (0, 0)) :: c1 :: c2 :: some (r3, .cells (ints .u8 (callsB g t).mm ++ jk).toArray 5 (0, 0)) :: some (b1, .cells (f.cells (.slice Af f.bs.length cf)).toArray 40 (0, 0)) :: some (b0, .cells ((callsB g t).cells (.slice A0st g.st.length c0st) (.slice A0pg g.pg.length c0pg) (.slice (some ⟨r3, 0, none⟩) g.mm.length cap3)).toArray 29 (0, 0)) :: L) rfl)
            obtain ⟨a1, ha1, hm1⟩ := hAs1 g.st.length _ (getD_some (by omega))
            cases ha1
            cases hes
            rw [Nat.mul_one, e4] at hm1
            change Cell Γ _ _ (.int .u16 _) at hm1
            refine RX.join 9 (fun (ss : Unit) T L' => T 97 = .bool (false) ∧ T 3 = T14 3 ∧ T 4 = T14 4 ∧ T 7 = T14 7 ∧ T 10 = T14 10 ∧ T 11 = T14 11 ∧ L' = some (b11, .cells ((stepG (callsB g t) f quietD).1.cells (.slice (some a1) (stepG (callsB g t) f quietD).1.st.length c1st) (.slice A1pg (stepG (callsB g t) f quietD).1.pg.length c1pg) (.slice A1mm (stepG (callsB g t) f quietD).1.mm.length c1mm)).toArray 29 (0, 0)) :: n1 :: n2 :: n3 :: some (b10, .cells quietD.cells.toArray 50 (0, 0)) :: c1 :: c2 :: some (r3, .cells (ints .u8 (callsB g t).mm ++ jk).toArray 5 (0, 0)) :: some (b1, .cells (f.cells (.slice Af f.bs.length cf)).toArray 40 (0, 0)) :: some (b0, .cells ((callsB g t).cells (.slice A0st g.st.length c0st) (.slice A0pg g.pg.length c0pg) (.slice (some ⟨r3, 0, none⟩) g.mm.length cap3)).toArray 29 (0, 0)) :: L ∧ (True)) (fun K35 hK35 => ?_) ?_
            · simp only [h14_3, h14_4, h14_7, h14_10, h14_11] at hK35
              simp (maxSteps:=1000000)(dsimp:=false)(disch:=omega) only [go_sem, Φa, hP, h14_3, h14_4, h14_7, h14_9, h14_10, h14_11, h14_12, hops]
              repeat' (first | refine iteB (fun hg => ?_) (fun hg => ?_) | refine iteI (fun hg => ?_) (fun hg => ?_) | ((first | refine ⟨_, hm1, ?_⟩ | refine And.intro (by omega) ?_ | refine ⟨_, Cell.at 0 rfl rfl, ?_⟩ | refine ⟨_, Cell.at 1 rfl rfl, ?_⟩ | refine ⟨_, Cell.at 2 rfl rfl, ?_⟩ | refine ⟨_, Cell.at 3 rfl rfl, ?_⟩ | refine ⟨_, Cell.at 4 rfl rfl, ?_⟩ | refine ⟨_, Cell.at 5 rfl rfl, ?_⟩ | refine ⟨_, Cell.at 6 rfl rfl, ?_⟩ | refine ⟨_, Cell.at 7 rfl rfl, ?_⟩ | refine ⟨_, Cell.at 8 rfl rfl, ?_⟩ | refine ⟨_, Cell.at 9 rfl rfl, ?_⟩ | fail); try (with_reducible refine stI ?_); try simp (maxSteps:=1000000)(dsimp:=false)(disch:=omega) only [go_sem, Φa, hP, h14_3, h14_4, h14_7, h14_9, h14_10, h14_11, h14_12, hops]) | fail)
              all_goals
                refine hK35 () _ (some (b11, .cells ((stepG (callsB g t) f quietD).1.cells (.slice (some a1) (stepG (callsB g t) f quietD).1.st.length c1st) (.slice A1pg (stepG (callsB g t) f quietD).1.pg.length c1pg) (.slice A1mm (stepG (callsB g t) f quietD).1.mm.length c1mm)).toArray 29 (0, 0)) :: n1 :: n2 :: n3 :: some (b10, .cells quietD.cells.toArray 50 (0, 0)) :: c1 :: c2 :: some (r3, .cells (ints .u8 (callsB g t).mm ++ jk).toArray 5 (0, 0)) :: some (b1, .cells (f.cells (.slice Af f.bs.length cf)).toArray 40 (0, 0)) :: some (b0, .cells ((callsB g t).cells (.slice A0st g.st.length c0st) (.slice A0pg g.pg.length c0pg) (.slice (some ⟨r3, 0, none⟩) g.mm.length cap3)).toArray 29 (0, 0)) :: L) _ (by first | exact Less.refl _ | exact Less.drop _ _ | exact Less.drops (Less.drop _ _) | exact Less.drops (Less.drops (Less.drop _ _)) | exact Less.drops (Less.drops (Less.drops (Less.drop _ _))) | exact Less.drops (Less.drops (Less.drops (Less.drops (Less.drop _ _))))) ?_
                try dsimp only
                refine ⟨?_, ?_, ?_, ?_, ?_, ?_, ?_, ?_⟩
                · simp (maxSteps:=1000000)(dsimp:=false)(disch:=omega) only [go_sem, Φa, hP, h14_3, h14_4, h14_7, h14_9, h14_10, h14_11, h14_12]
                  first | done | (refine congrArg Value.bool ?_; simp_all; done)
                · simp (maxSteps:=1000000)(dsimp:=false)(disch:=omega) only [go_sem, Φa, hP, h14_3, h14_4, h14_7, h14_9, h14_10, h14_11, h14_12]
                · simp (maxSteps:=1000000)(dsimp:=false)(disch:=omega) only [go_sem, Φa, hP, h14_3, h14_4, h14_7, h14_9, h14_10, h14_11, h14_12]
                · simp (maxSteps:=1000000)(dsimp:=false)(disch:=omega) only [go_sem, Φa, hP, h14_3, h14_4, h14_7, h14_9, h14_10, h14_11, h14_12]
                · simp (maxSteps:=1000000)(dsimp:=false)(disch:=omega) only [go_sem, Φa, hP, h14_3, h14_4, h14_7, h14_9, h14_10, h14_11, h14_12]
                · simp (maxSteps:=1000000)(dsimp:=false)(disch:=omega) only [go_sem, Φa, hP, h14_3, h14_4, h14_7, h14_9, h14_10, h14_11, h14_12]
                · rfl
                · trivial
            · intro ss T15 L15 hI
              simp only [h14_3, h14_4, h14_7, h14_10, h14_11] at hI 
              obtain ⟨h15_97, h15_3, h15_4, h15_7, h15_10, h15_11, hL15, hinv⟩ := hI
              replace hL15 := hL15.symm
              subst hL15
              clear h14_3 h14_4 h14_7 h14_9 h14_10 h14_11 h14_12 T14
              refine RX.live [3, 4, 7, 10, 11, 97] (fun T16 hT16 => ?_)
              simp only [forall_mem_cons', forall_mem_nil', go_sem, Φa, hP, h15_97, h15_3, h15_4, h15_7, h15_10, h15_11] at hT16
              obtain ⟨h16_3, h16_4, h16_7, h16_10, h16_11, h16_97⟩ := hT16
              clear h15_97 h15_3 h15_4 h15_7 h15_10 h15_11 T15
              refine RX.join 10 (fun (ss : Unit) T L' => T 107 = .bool (false) ∧ T 3 = T16 3 ∧ T 4 = T16 4 ∧ T 7 = T16 7 ∧ T 10 = T16 10 ∧ T 11 = T16 11 ∧ L' = some (b11, .cells ((stepG (callsB g t) f quietD).1.cells (.slice (some a1) (stepG (callsB g t) f quietD).1.st.length c1st) (.slice A1pg (stepG (callsB g t) f quietD).1.pg.length c1pg) (.slice A1mm (stepG (callsB g t) f quietD).1.mm.length c1mm)).toArray 29 (0, 0)) :: n1 :: n2 :: n3 :: some (b10, .cells quietD.cells.toArray 50 (0, 0)) :: c1 :: c2 :: some (r3, .cells (ints .u8 (callsB g t).mm ++ jk).toArray 5 (0, 0)) :: some (b1, .cells (f.cells (.slice Af f.bs.length cf)).toArray 40 (0, 0)) :: some (b0, .cells ((callsB g t).cells (.slice A0st g.st.length c0st) (.slice A0pg g.pg.length c0pg) (.slice (some ⟨r3, 0, none⟩) g.mm.length cap3)).toArray 29 (0, 0)) :: L ∧ (True)) (fun K36 hK36 => ?_) ?_
              · simp only [h16_3, h16_4, h16_7, h16_10, h16_11] at hK36
                simp (maxSteps:=1000000)(dsimp:=false)(disch:=omega) only [go_sem, Φa, hP, h16_3, h16_4, h16_7, h16_10, h16_11, h16_97, hops]
                repeat' (first | refine iteB (fun hg => ?_) (fun hg => ?_) | refine iteI (fun hg => ?_) (fun hg => ?_) | ((first | refine ⟨_, hm1, ?_⟩ | refine And.intro (by omega) ?_ | refine ⟨_, Cell.at 0 rfl rfl, ?_⟩ | refine ⟨_, Cell.at 1 rfl rfl, ?_⟩ | refine ⟨_, Cell.at 2 rfl rfl, ?_⟩ | refine ⟨_, Cell.at 3 rfl rfl, ?_⟩ | refine ⟨_, Cell.at 4 rfl rfl, ?_⟩ | refine ⟨_, Cell.at 5 rfl rfl, ?_⟩ | refine ⟨_, Cell.at 6 rfl rfl, ?_⟩ | refine ⟨_, Cell.at 7 rfl rfl, ?_⟩ | refine ⟨_, Cell.at 8 rfl rfl, ?_⟩ | refine ⟨_, Cell.at 9 rfl rfl, ?_⟩ | fail); try (with_reducible refine stI ?_); try simp (maxSteps:=1000000)(dsimp:=false)(disch:=omega) only [go_sem, Φa, hP, h16_3, h16_4, h16_7, h16_10, h16_11, h16_97, hops]) | fail)
                all_goals
                  refine hK36 () _ (some (b11, .cells ((stepG (callsB g t) f quietD).1.cells (.slice (some a1) (stepG (callsB g t) f quietD).1.st.length c1st) (.slice A1pg (stepG (callsB g t) f quietD).1.pg.length c1pg) (.slice A1mm (stepG (callsB g t) f quietD).1.mm.length c1mm)).toArray 29 (0, 0)) :: n1 :: n2 :: n3 :: some (b10, .cells quietD.cells.toArray 50 (0, 0)) :: c1 :: c2 :: some (r3, .cells (ints .u8 (callsB g t).mm ++ jk).toArray 5 (0, 0)) :: some (b1, .cells (f.cells (.slice Af f.bs.length cf)).toArray 40 (0, 0)) :: some (b0, .cells ((callsB g t).cells (.slice A0st g.st.length c0st) (.slice A0pg g.pg.length c0pg) (.slice (some ⟨r3, 0, none⟩) g.mm.length cap3)).toArray 29 (0, 0)) :: L) _ (by first | exact Less.refl _ | exact Less.drop _ _ | exact Less.drops (Less.drop _ _) | exact Less.drops (Less.drops (Less.drop _ _)) | exact Less.drops (Less.drops (Less.drops (Less.drop _ _))) | exact Less.drops (Less.drops (Less.drops (Less.drops (Less.drop _ _))))) ?_
                  try dsimp only
                  refine ⟨?_, ?_, ?_, ?_, ?_, ?_, ?_, ?_⟩
                  · simp (maxSteps:=1000000)(dsimp:=false)(disch:=omega) only [go_sem, Φa, hP, h16_3, h16_4, h16_7, h16_10, h16_11, h16_97]
                    first | done | (refine congrArg Value.bool ?_; simp_all; done)
                  · simp (maxSteps:=1000000)(dsimp:=false)(disch:=omega) only [go_sem, Φa, hP, h16_3, h16_4, h16_7, h16_10, h16_11, h16_97]
                  · simp (maxSteps:=1000000)(dsimp:=false)(disch:=omega) only [go_sem, Φa, hP, h16_3, h16_4, h16_7, h16_10, h16_11, h16_97]
                  · simp (maxSteps:=1000000)(dsimp:=false)(disch:=omega) only [go_sem, Φa, hP, h16_3, h16_4, h16_7, h16_10, h16_11, h16_97]
                  · simp (maxSteps:=1000000)(dsimp:=false)(disch:=omega) only [go_sem, Φa, hP, h16_3, h16_4, h16_7, h16_10, h16_11, h16_97]
                  · simp (maxSteps:=1000000)(dsimp:=false)(disch:=omega) only [go_sem, Φa, hP, h16_3, h16_4, h16_7, h16_10, h16_11, h16_97]
                  · rfl
                  · trivial
              · intro ss T17 L17 hI
                simp only [h16_3, h16_4, h16_7, h16_10, h16_11] at hI 
                obtain ⟨h17_107, h17_3, h17_4, h17_7, h17_10, h17_11, hL17, hinv⟩ := hI
                replace hL17 := hL17.symm
                subst hL17
                clear h16_3 h16_4 h16_7 h16_10 h16_11 h16_97 T16
                refine RX.live [3, 4, 7, 10, 11, 107] (fun T18 hT18 => ?_)
                simp only [forall_mem_cons', forall_mem_nil', go_sem, Φa, hP, h17_107, h17_3, h17_4, h17_7, h17_10, h17_11] at hT18
                obtain ⟨h18_3, h18_4, h18_7, h18_10, h18_11, h18_107⟩ := hT18
                clear h17_107 h17_3 h17_4 h17_7 h17_10 h17_11 T17
                refine RX.join 10 (fun (ss : Unit) T L' => T 117 = .bool (false) ∧ T 3 = T18 3 ∧ T 4 = T18 4 ∧ T 7 = T18 7 ∧ T 10 = T18 10 ∧ T 11 = T18 11 ∧ L' = some (b11, .cells ((stepG (callsB g t) f quietD).1.cells (.slice (some a1) (stepG (callsB g t) f quietD).1.st.length c1st) (.slice A1pg (stepG (callsB g t) f quietD).1.pg.length c1pg) (.slice A1mm (stepG (callsB g t) f quietD).1.mm.length c1mm)).toArray 29 (0, 0)) :: n1 :: n2 :: n3 :: some (b10, .cells quietD.cells.toArray 50 (0, 0)) :: c1 :: c2 :: some (r3, .cells (ints .u8 (callsB g t).mm ++ jk).toArray 5 (0, 0)) :: some (b1, .cells (f.cells (.slice Af f.bs.length cf)).toArray 40 (0, 0)) :: some (b0, .cells ((callsB g t).cells (.slice A0st g.st.length c0st) (.slice A0pg g.pg.length c0pg) (.slice (some ⟨r3, 0, none⟩) g.mm.length cap3)).toArray 29 (0, 0)) :: L ∧ (True)) (fun K37 hK37 => ?_) ?_
                · simp only [h18_3, h18_4, h18_7, h18_10, h18_11] at hK37
                  simp (maxSteps:=1000000)(dsimp:=false)(disch:=omega) only [go_sem, Φa, hP, h18_3, h18_4, h18_7, h18_10, h18_11, h18_107, hops]
                  repeat' (first | refine iteB (fun hg => ?_) (fun hg => ?_) | refine iteI (fun hg => ?_) (fun hg => ?_) | ((first | refine ⟨_, hm1, ?_⟩ | refine And.intro (by omega) ?_ | refine ⟨_, Cell.at 0 rfl rfl, ?_⟩ | refine ⟨_, Cell.at 1 rfl rfl, ?_⟩ | refine ⟨_, Cell.at 2 rfl rfl, ?_⟩ | refine ⟨_, Cell.at 3 rfl rfl, ?_⟩ | refine ⟨_, Cell.at 4 rfl rfl, ?_⟩ | refine ⟨_, Cell.at 5 rfl rfl, ?_⟩ | refine ⟨_, Cell.at 6 rfl rfl, ?_⟩ | refine ⟨_, Cell.at 7 rfl rfl, ?_⟩ | refine ⟨_, Cell.at 8 rfl rfl, ?_⟩ | refine ⟨_, Cell.at 9 rfl rfl, ?_⟩ | fail); try (with_reducible refine stI ?_); try simp (maxSteps:=1000000)(dsimp:=false)(disch:=omega) only [go_sem, Φa, hP, h18_3, h18_4, h18_7, h18_10, h18_11, h18_107, hops]) | fail)
                  all_goals
                    refine hK37 () _ (some (b11, .cells ((stepG (callsB g t) f quietD).1.cells (.slice (some a1) (stepG (callsB g t) f quietD).1.st.length c1st) (.slice A1pg (stepG (callsB g t) f quietD).1.pg.length c1pg) (.slice A1mm (stepG (callsB g t) f quietD).1.mm.length c1mm)).toArray 29 (0, 0)) :: n1 :: n2 :: n3 :: some (b10, .cells quietD.cells.toArray 50 (0, 0)) :: c1 :: c2 :: some (r3, .cells (ints .u8 (callsB g t).mm ++ jk).toArray 5 (0, 0)) :: some (b1, .cells (f.cells (.slice Af f.bs.length cf)).toArray 40 (0, 0)) :: some (b0, .cells ((callsB g t).cells (.slice A0st g.st.length c0st) (.slice A0pg g.pg.length c0pg) (.slice (some ⟨r3, 0, none⟩) g.mm.length cap3)).toArray 29 (0, 0)) :: L) _ (by first | exact Less.refl _ | exact Less.drop _ _ | exact Less.drops (Less.drop _ _) | exact Less.drops (Less.drops (Less.drop _ _)) | exact Less.drops (Less.drops (Less.drops (Less.drop _ _))) | exact Less.drops (Less.drops (Less.drops (Less.drops (Less.drop _ _))))) ?_
                    try dsimp only
                    refine ⟨?_, ?_, ?_, ?_, ?_, ?_, ?_, ?_⟩
                    · simp (maxSteps:=1000000)(dsimp:=false)(disch:=omega) only [go_sem, Φa, hP, h18_3, h18_4, h18_7, h18_10, h18_11, h18_107]
                      first | done | (refine congrArg Value.bool ?_; simp_all; done)
                    · simp (maxSteps:=1000000)(dsimp:=false)(disch:=omega) only [go_sem, Φa, hP, h18_3, h18_4, h18_7, h18_10, h18_11, h18_107]
                    · simp (maxSteps:=1000000)(dsimp:=false)(disch:=omega) only [go_sem, Φa, hP, h18_3, h18_4, h18_7, h18_10, h18_11, h18_107]
                    · simp (maxSteps:=1000000)(dsimp:=false)(disch:=omega) only [go_sem, Φa, hP, h18_3, h18_4, h18_7, h18_10, h18_11, h18_107]
                    · simp (maxSteps:=1000000)(dsimp:=false)(disch:=omega) only [go_sem, Φa, hP, h18_3, h18_4, h18_7, h18_10, h18_11, h18_107]
                    · simp (maxSteps:=1000000)(dsimp:=false)(disch:=omega) only [go_sem, Φa, hP, h18_3, h18_4, h18_7, h18_10, h18_11, h18_107]
                    · rfl
                    · trivial
                · intro ss T19 L19 hI
                  simp only [h18_3, h18_4, h18_7, h18_10, h18_11] at hI 
                  obtain ⟨h19_117, h19_3, h19_4, h19_7, h19_10, h19_11, hL19, hinv⟩ := hI
                  replace hL19 := hL19.symm
                  subst hL19
                  clear h18_3 h18_4 h18_7 h18_10 h18_11 h18_107 T18
                  refine RX.done ?_
                  simp (maxSteps:=1000000)(dsimp:=false)(disch:=omega) only [go_sem, Φa, hP, h19_117, h19_3, h19_4, h19_7, h19_10, h19_11, hops]
                  refine hK34 _ _ ?_
                  try clear hK34 K34
                  refine SX.cond_k fun X38 Y38 hX38 hY38 => ?_
                  simp (maxSteps:=1000000)(dsimp:=false)(disch:=omega) only [go_sem, Φa, hP, h19_117, h19_3, h19_4, h19_7, h19_10, h19_11, condVC]
                  refine hY38 ?_
                  clear hX38 hY38 X38 Y38
                  refine SX.skip ?_
                  try simp only [andThen_normal, andThen_ret, andThen_exit, inBlk_normal, inBlk_ret, inBlk_exit, Nat.reduceEqDiff, if_true, if_false, ↓reduceIte]
                  refine hK33 _ _ ?_
                  try clear hK33 K33
                  refine SX.seq_k fun K39 hK39 => ?_
                  have htwo := calls_two (f := f) hfine ht1 ht2 hs12 he0
                  refine SX.region_d [some 119, some 120, some 121, some 122, some 118, some 123, some 124, some 125, some 15, none, some 16, some 17] rfl (fun ops hops => ?_)
                  unfold Dsts at hops
                  simp (maxSteps:=1000000)(dsimp:=false)(disch:=omega) only [go_sem, Φa, hP, h19_117, h19_3, h19_4, h19_7, h19_10, h19_11, hops]
                  refine ⟨_, Cell.at 0 rfl rfl, ?_⟩
                  try with_reducible refine stI ?_
                  try simp (maxSteps:=1000000)(dsimp:=false)(disch:=omega) only [go_sem, Φa, hP, h19_117, h19_3, h19_4, h19_7, h19_10, h19_11, hops]
                  refine ⟨_, Cell.at 0 rfl rfl, ?_⟩
                  try with_reducible refine stI ?_
                  try simp (maxSteps:=1000000)(dsimp:=false)(disch:=omega) only [go_sem, Φa, hP, h19_117, h19_3, h19_4, h19_7, h19_10, h19_11, hops]
                  refine ⟨_, Cell.at 0 rfl rfl, ?_⟩
                  try with_reducible refine stI ?_
                  try simp (maxSteps:=1000000)(dsimp:=false)(disch:=omega) only [go_sem, Φa, hP, h19_117, h19_3, h19_4, h19_7, h19_10, h19_11, hops]
                  refine ⟨_, Cell.at 0 rfl rfl, ?_⟩
                  try with_reducible refine stI ?_
                  try simp (maxSteps:=1000000)(dsimp:=false)(disch:=omega) only [go_sem, Φa, hP, h19_117, h19_3, h19_4, h19_7, h19_10, h19_11, hops]
                  refine ⟨_, Cell.at 0 rfl rfl, ?_⟩
                  try with_reducible refine stI ?_
                  try simp (maxSteps:=1000000)(dsimp:=false)(disch:=omega) only [go_sem, Φa, hP, h19_117, h19_3, h19_4, h19_7, h19_10, h19_11, hops]
                  refine ⟨_, Cell.at 0 rfl rfl, ?_⟩
                  try with_reducible refine stI ?_
                  try simp (maxSteps:=1000000)(dsimp:=false)(disch:=omega) only [go_sem, Φa, hP, h19_117, h19_3, h19_4, h19_7, h19_10, h19_11, hops]
                  refine ⟨_, Cell.at 0 rfl rfl, ?_⟩
                  try with_reducible refine stI ?_
                  try simp (maxSteps:=1000000)(dsimp:=false)(disch:=omega) only [go_sem, Φa, hP, h19_117, h19_3, h19_4, h19_7, h19_10, h19_11, hops]
                  refine ⟨_, Cell.at 0 rfl rfl, ?_⟩
                  try with_reducible refine stI ?_
                  try simp (maxSteps:=1000000)(dsimp:=false)(disch:=omega) only [go_sem, Φa, hP, h19_117, h19_3, h19_4, h19_7, h19_10, h19_11, hops]
                  refine ⟨_, Cell.at 0 rfl rfl, ?_⟩
                  try with_reducible refine stI ?_
                  try simp (maxSteps:=1000000)(dsimp:=false)(disch:=omega) only [go_sem, Φa, hP, h19_117, h19_3, h19_4, h19_7, h19_10, h19_11, hops]
                  refine ⟨_, Cell.at 0 rfl rfl, ?_⟩
                  try with_reducible refine stI ?_
                  try simp (maxSteps:=1000000)(dsimp:=false)(disch:=omega) only [go_sem, Φa, hP, h19_117, h19_3, h19_4, h19_7, h19_10, h19_11, hops]
                  refine ⟨_, Cell.at 0 rfl rfl, ?_⟩
                  try with_reducible refine stI ?_
                  try simp (maxSteps:=1000000)(dsimp:=false)(disch:=omega) only [go_sem, Φa, hP, h19_117, h19_3, h19_4, h19_7, h19_10, h19_11, hops]
                  refine ⟨_, Cell.at 0 rfl rfl, ?_⟩
                  try with_reducible refine stI ?_
                  try simp (maxSteps:=1000000)(dsimp:=false)(disch:=omega) only [go_sem, Φa, hP, h19_117, h19_3, h19_4, h19_7, h19_10, h19_11, hops]
                  refine ⟨_, Cell.at 0 rfl rfl, ?_⟩
                  try with_reducible refine stI ?_
                  try simp (maxSteps:=1000000)(dsimp:=false)(disch:=omega) only [go_sem, Φa, hP, h19_117, h19_3, h19_4, h19_7, h19_10, h19_11, hops]
                  refine ⟨_, Cell.at 0 rfl rfl, ?_⟩
                  try with_reducible refine stI ?_
                  try simp (maxSteps:=1000000)(dsimp:=false)(disch:=omega) only [go_sem, Φa, hP, h19_117, h19_3, h19_4, h19_7, h19_10, h19_11, hops]
                  refine ⟨_, Cell.at 0 rfl rfl, ?_⟩
                  try with_reducible refine stI ?_
                  try simp (maxSteps:=1000000)(dsimp:=false)(disch:=omega) only [go_sem, Φa, hP, h19_117, h19_3, h19_4, h19_7, h19_10, h19_11, hops]
                  refine ⟨_, Cell.at 0 rfl rfl, ?_⟩
                  try with_reducible refine stI ?_
                  try simp (maxSteps:=1000000)(dsimp:=false)(disch:=omega) only [go_sem, Φa, hP, h19_117, h19_3, h19_4, h19_7, h19_10, h19_11, hops]
                  refine ⟨_, Cell.at 0 rfl rfl, ?_⟩
                  try with_reducible refine stI ?_
                  try simp (maxSteps:=1000000)(dsimp:=false)(disch:=omega) only [go_sem, Φa, hP, h19_117, h19_3, h19_4, h19_7, h19_10, h19_11, hops]
                  refine ⟨_, Cell.at 0 rfl rfl, ?_⟩
                  try with_reducible refine stI ?_
                  try simp (maxSteps:=1000000)(dsimp:=false)(disch:=omega) only [go_sem, Φa, hP, h19_117, h19_3, h19_4, h19_7, h19_10, h19_11, hops]
                  refine ⟨_, Cell.at 0 rfl rfl, ?_⟩
                  try with_reducible refine stI ?_
                  try simp (maxSteps:=1000000)(dsimp:=false)(disch:=omega) only [go_sem, Φa, hP, h19_117, h19_3, h19_4, h19_7, h19_10, h19_11, hops]
                  refine ⟨_, Cell.at 0 rfl rfl, ?_⟩
                  try with_reducible refine stI ?_
                  try simp (maxSteps:=1000000)(dsimp:=false)(disch:=omega) only [go_sem, Φa, hP, h19_117, h19_3, h19_4, h19_7, h19_10, h19_11, hops]
                  refine ⟨_, Cell.at 0 rfl rfl, ?_⟩
                  try with_reducible refine stI ?_
                  try simp (maxSteps:=1000000)(dsimp:=false)(disch:=omega) only [go_sem, Φa, hP, h19_117, h19_3, h19_4, h19_7, h19_10, h19_11, hops]
                  refine ⟨_, Cell.at 0 rfl rfl, ?_⟩
                  try with_reducible refine stI ?_
                  try simp (maxSteps:=1000000)(dsimp:=false)(disch:=omega) only [go_sem, Φa, hP, h19_117, h19_3, h19_4, h19_7, h19_10, h19_11, hops]
                  refine ⟨_, Cell.at 0 rfl rfl, ?_⟩
                  try with_reducible refine stI ?_
                  try simp (maxSteps:=1000000)(dsimp:=false)(disch:=omega) only [go_sem, Φa, hP, h19_117, h19_3, h19_4, h19_7, h19_10, h19_11, hops]
                  refine ⟨_, Cell.at 8 rfl rfl, ?_⟩
                  try with_reducible refine stI ?_
                  try simp (maxSteps:=1000000)(dsimp:=false)(disch:=omega) only [go_sem, Φa, hP, h19_117, h19_3, h19_4, h19_7, h19_10, h19_11, hops]
                  refine ⟨_, Cell.at 8 rfl rfl, ?_⟩
                  try with_reducible refine stI ?_
                  try simp (maxSteps:=1000000)(dsimp:=false)(disch:=omega) only [go_sem, Φa, hP, h19_117, h19_3, h19_4, h19_7, h19_10, h19_11, hops]
                  refine ⟨_, Cell.at 8 rfl rfl, ?_⟩
                  try with_reducible refine stI ?_
                  try simp (maxSteps:=1000000)(dsimp:=false)(disch:=omega) only [go_sem, Φa, hP, h19_117, h19_3, h19_4, h19_7, h19_10, h19_11, hops]
                  refine ⟨_, Cell.at 8 rfl rfl, ?_⟩
                  try with_reducible refine stI ?_
                  try simp (maxSteps:=1000000)(dsimp:=false)(disch:=omega) only [go_sem, Φa, hP, h19_117, h19_3, h19_4, h19_7, h19_10, h19_11, hops]
                  refine ⟨_, Cell.at 8 rfl rfl, ?_⟩
                  try with_reducible refine stI ?_
                  try simp (maxSteps:=1000000)(dsimp:=false)(disch:=omega) only [go_sem, Φa, hP, h19_117, h19_3, h19_4, h19_7, h19_10, h19_11, hops]
                  refine ⟨_, Cell.at 8 rfl rfl, ?_⟩
                  try with_reducible refine stI ?_
                  try simp (maxSteps:=1000000)(dsimp:=false)(disch:=omega) only [go_sem, Φa, hP, h19_117, h19_3, h19_4, h19_7, h19_10, h19_11, hops]
                  refine ⟨_, Cell.at 8 rfl rfl, ?_⟩
                  try with_reducible refine stI ?_
                  try simp (maxSteps:=1000000)(dsimp:=false)(disch:=omega) only [go_sem, Φa, hP, h19_117, h19_3, h19_4, h19_7, h19_10, h19_11, hops]
                  refine ⟨_, Cell.at 8 rfl rfl, ?_⟩
                  try with_reducible refine stI ?_
                  try simp (maxSteps:=1000000)(dsimp:=false)(disch:=omega) only [go_sem, Φa, hP, h19_117, h19_3, h19_4, h19_7, h19_10, h19_11, hops]
                  refine ⟨_, Cell.at 8 rfl rfl, ?_⟩
                  try with_reducible refine stI ?_
                  try simp (maxSteps:=1000000)(dsimp:=false)(disch:=omega) only [go_sem, Φa, hP, h19_117, h19_3, h19_4, h19_7, h19_10, h19_11, hops]
                  refine ⟨_, Cell.at 8 rfl rfl, ?_⟩
                  try with_reducible refine stI ?_
                  try simp (maxSteps:=1000000)(dsimp:=false)(disch:=omega) only [go_sem, Φa, hP, h19_117, h19_3, h19_4, h19_7, h19_10, h19_11, hops]
                  refine ⟨_, Cell.at 8 rfl rfl, ?_⟩
                  try with_reducible refine stI ?_
                  try simp (maxSteps:=1000000)(dsimp:=false)(disch:=omega) only [go_sem, Φa, hP, h19_117, h19_3, h19_4, h19_7, h19_10, h19_11, hops]
                  refine ⟨_, Cell.at 8 rfl rfl, ?_⟩
                  try with_reducible refine stI ?_
                  try simp (maxSteps:=1000000)(dsimp:=false)(disch:=omega) only [go_sem, Φa, hP, h19_117, h19_3, h19_4, h19_7, h19_10, h19_11, hops]
                  refine ⟨_, Cell.at 8 rfl rfl, ?_⟩
                  try with_reducible refine stI ?_
                  try simp (maxSteps:=1000000)(dsimp:=false)(disch:=omega) only [go_sem, Φa, hP, h19_117, h19_3, h19_4, h19_7, h19_10, h19_11, hops]
                  refine ⟨_, Cell.at 8 rfl rfl, ?_⟩
                  try with_reducible refine stI ?_
                  try simp (maxSteps:=1000000)(dsimp:=false)(disch:=omega) only [go_sem, Φa, hP, h19_117, h19_3, h19_4, h19_7, h19_10, h19_11, hops]
                  refine ⟨_, Cell.at 8 rfl rfl, ?_⟩
                  try with_reducible refine stI ?_
                  try simp (maxSteps:=1000000)(dsimp:=false)(disch:=omega) only [go_sem, Φa, hP, h19_117, h19_3, h19_4, h19_7, h19_10, h19_11, hops]
                  refine ⟨_, Cell.at 8 rfl rfl, ?_⟩
                  try with_reducible refine stI ?_
                  try simp (maxSteps:=1000000)(dsimp:=false)(disch:=omega) only [go_sem, Φa, hP, h19_117, h19_3, h19_4, h19_7, h19_10, h19_11, hops]
                  refine ⟨_, Cell.at 8 rfl rfl, ?_⟩
                  try with_reducible refine stI ?_
                  try simp (maxSteps:=1000000)(dsimp:=false)(disch:=omega) only [go_sem, Φa, hP, h19_117, h19_3, h19_4, h19_7, h19_10, h19_11, hops]
                  refine ⟨_, Cell.at 8 rfl rfl, ?_⟩
                  try with_reducible refine stI ?_
                  try simp (maxSteps:=1000000)(dsimp:=false)(disch:=omega) only [go_sem, Φa, hP, h19_117, h19_3, h19_4, h19_7, h19_10, h19_11, hops]
                  refine ⟨_, Cell.at 4 rfl rfl, ?_⟩
                  try with_reducible refine stI ?_
                  try simp (maxSteps:=1000000)(dsimp:=false)(disch:=omega) only [go_sem, Φa, hP, h19_117, h19_3, h19_4, h19_7, h19_10, h19_11, hops]
                  refine ⟨_, Cell.at 4 rfl rfl, ?_⟩
                  try with_reducible refine stI ?_
                  try simp (maxSteps:=1000000)(dsimp:=false)(disch:=omega) only [go_sem, Φa, hP, h19_117, h19_3, h19_4, h19_7, h19_10, h19_11, hops]
                  refine ⟨_, Cell.at 4 rfl rfl, ?_⟩
                  try with_reducible refine stI ?_
                  try simp (maxSteps:=1000000)(dsimp:=false)(disch:=omega) only [go_sem, Φa, hP, h19_117, h19_3, h19_4, h19_7, h19_10, h19_11, hops]
                  refine SCall.mono (Step_spec (g := (stepG (callsB g t) f quietD).1) (f := f) (d := quietD) hP hfn.ok hF quietD_ok (RowI.sl hr1.st (i := 1) rfl) (RowI.sl hr1.pg (i := 2) rfl) (RowI.sl hr1.mm (i := 3) rfl) (SlI.any hf) (by omega) (by omega) (by omega) (by omega)) ?_
                  rintro v_ L_ ⟨sv2, pv2, mv2, p1, p2, p3, rfl, rfl, hr2⟩
                  obtain ⟨A2st, c2st, rfl, hc2st⟩ := rowShape hr2.st
                  obtain ⟨A2pg, c2pg, rfl, hc2pg⟩ := rowShape hr2.pg
                  obtain ⟨A2mm, c2mm, rfl, hc2mm⟩ := rowShape hr2.mm
                  unfold GM.cells
                  try with_reducible refine stI ?_
                  try simp (maxSteps:=1000000)(dsimp:=false)(disch:=omega) only [go_sem, Φa, hP, h19_117, h19_3, h19_4, h19_7, h19_10, h19_11, hops]
                  intro b15
                  try with_reducible refine stI ?_
                  try simp (maxSteps:=1000000)(dsimp:=false)(disch:=omega) only [go_sem, Φa, hP, h19_117, h19_3, h19_4, h19_7, h19_10, h19_11, hops]
                  refine ⟨0, _, _, _, rfl, by decide, .inr (by decide), ?_⟩
                  try with_reducible refine stI ?_
                  try simp (maxSteps:=1000000)(dsimp:=false)(disch:=omega) only [go_sem, Φa, hP, h19_117, h19_3, h19_4, h19_7, h19_10, h19_11, hops]
                  refine hK39 _ _ ?_
                  try clear hK39 K39
                  refine SX.live [3, 7, 15, 16] (fun T20 hT20 => ?_)
                  simp only [forall_mem_cons', forall_mem_nil', go_sem, Φa, hP, h19_117, h19_3, h19_4, h19_7, h19_10, h19_11] at hT20
                  obtain ⟨h20_3, h20_7, h20_15, h20_16⟩ := hT20
                  clear h19_117 h19_3 h19_4 h19_7 h19_10 h19_11 T19
                  refine SX.seq_k fun K40 hK40 => ?_
                  refine SX.region_d [some 126, none] rfl (fun ops hops => ?_)
                  unfold Dsts at hops
                  simp (maxSteps:=1000000)(dsimp:=false)(disch:=omega) only [go_sem, Φa, hP, h20_3, h20_7, h20_15, h20_16, hops]
                  refine ⟨13, _, _, _, rfl, (by simp [GM.cells]), .inr (by decide), ?_⟩
                  try with_reducible refine stI ?_
                  try simp (maxSteps:=1000000)(dsimp:=false)(disch:=omega) only [go_sem, Φa, hP, h20_3, h20_7, h20_15, h20_16, hops]
                  refine hK40 _ _ ?_
                  try clear hK40 K40
                  refine SX.seq_k fun K41 hK41 => ?_
                  have heq2 : (stepG (stepG (callsB g t) f quietD).1 f quietD) = ({ callsB g t with PC := 514 }, 1, 0) := by rw [hone]; exact htwo
                  have hD : Fine ({ callsB g t with PC := 514 } : GM) := hB.PC (by omega)
                  refine SX.region_d [some 127, some 128, some 129, some 18] rfl (fun ops hops => ?_)
                  unfold Dsts at hops
                  simp (maxSteps:=1000000)(dsimp:=false)(disch:=omega) only [go_sem, Φa, hP, h20_3, h20_7, h20_15, h20_16, hops]
                  refine ⟨_, Cell.at 0 rfl rfl, ?_⟩
                  try with_reducible refine stI ?_
                  try simp (maxSteps:=1000000)(dsimp:=false)(disch:=omega) only [go_sem, Φa, hP, h20_3, h20_7, h20_15, h20_16, hops]
                  refine ⟨_, Cell.at 0 rfl rfl, ?_⟩
                  try with_reducible refine stI ?_
                  try simp (maxSteps:=1000000)(dsimp:=false)(disch:=omega) only [go_sem, Φa, hP, h20_3, h20_7, h20_15, h20_16, hops]
                  refine ⟨_, Cell.at 0 rfl rfl, ?_⟩
                  try with_reducible refine stI ?_
                  try simp (maxSteps:=1000000)(dsimp:=false)(disch:=omega) only [go_sem, Φa, hP, h20_3, h20_7, h20_15, h20_16, hops]
                  refine ⟨_, Cell.at 0 rfl rfl, ?_⟩
                  try with_reducible refine stI ?_
                  try simp (maxSteps:=1000000)(dsimp:=false)(disch:=omega) only [go_sem, Φa, hP, h20_3, h20_7, h20_15, h20_16, hops]
                  refine ⟨_, Cell.at 0 rfl rfl, ?_⟩
                  try with_reducible refine stI ?_
                  try simp (maxSteps:=1000000)(dsimp:=false)(disch:=omega) only [go_sem, Φa, hP, h20_3, h20_7, h20_15, h20_16, hops]
                  refine ⟨_, Cell.at 0 rfl rfl, ?_⟩
                  try with_reducible refine stI ?_
                  try simp (maxSteps:=1000000)(dsimp:=false)(disch:=omega) only [go_sem, Φa, hP, h20_3, h20_7, h20_15, h20_16, hops]
                  refine ⟨_, Cell.at 0 rfl rfl, ?_⟩
                  try with_reducible refine stI ?_
                  try simp (maxSteps:=1000000)(dsimp:=false)(disch:=omega) only [go_sem, Φa, hP, h20_3, h20_7, h20_15, h20_16, hops]
                  refine ⟨_, Cell.at 0 rfl rfl, ?_⟩
                  try with_reducible refine stI ?_
                  try simp (maxSteps:=1000000)(dsimp:=false)(disch:=omega) only [go_sem, Φa, hP, h20_3, h20_7, h20_15, h20_16, hops]
                  refine ⟨_, Cell.at 0 rfl rfl, ?_⟩
                  try with_reducible refine stI ?_
                  try simp (maxSteps:=1000000)(dsimp:=false)(disch:=omega) only [go_sem, Φa, hP, h20_3, h20_7, h20_15, h20_16, hops]
                  refine ⟨_, Cell.at 0 rfl rfl, ?_⟩
                  try with_reducible refine stI ?_
                  try simp (maxSteps:=1000000)(dsimp:=false)(disch:=omega) only [go_sem, Φa, hP, h20_3, h20_7, h20_15, h20_16, hops]
                  refine ⟨_, Cell.at 0 rfl rfl, ?_⟩
                  try with_reducible refine stI ?_
                  try simp (maxSteps:=1000000)(dsimp:=false)(disch:=omega) only [go_sem, Φa, hP, h20_3, h20_7, h20_15, h20_16, hops]
                  refine ⟨_, Cell.at 0 rfl rfl, ?_⟩
                  try with_reducible refine stI ?_
                  try simp (maxSteps:=1000000)(dsimp:=false)(disch:=omega) only [go_sem, Φa, hP, h20_3, h20_7, h20_15, h20_16, hops]
                  refine ⟨_, Cell.at 0 rfl rfl, ?_⟩
                  try with_reducible refine stI ?_
                  try simp (maxSteps:=1000000)(dsimp:=false)(disch:=omega) only [go_sem, Φa, hP, h20_3, h20_7, h20_15, h20_16, hops]
                  refine ⟨_, Cell.at 0 rfl rfl, ?_⟩
                  try with_reducible refine stI ?_
                  try simp (maxSteps:=1000000)(dsimp:=false)(disch:=omega) only [go_sem, Φa, hP, h20_3, h20_7, h20_15, h20_16, hops]
                  refine ⟨_, Cell.at 0 rfl rfl, ?_⟩
                  try with_reducible refine stI ?_
                  try simp (maxSteps:=1000000)(dsimp:=false)(disch:=omega) only [go_sem, Φa, hP, h20_3, h20_7, h20_15, h20_16, hops]
                  refine ⟨_, Cell.at 0 rfl rfl, ?_⟩
                  try with_reducible refine stI ?_
                  try simp (maxSteps:=1000000)(dsimp:=false)(disch:=omega) only [go_sem, Φa, hP, h20_3, h20_7, h20_15, h20_16, hops]
                  refine ⟨_, Cell.at 0 rfl rfl, ?_⟩
                  try with_reducible refine stI ?_
                  try simp (maxSteps:=1000000)(dsimp:=false)(disch:=omega) only [go_sem, Φa, hP, h20_3, h20_7, h20_15, h20_16, hops]
                  refine ⟨_, Cell.at 0 rfl rfl, ?_⟩
                  try with_reducible refine stI ?_
                  try simp (maxSteps:=1000000)(dsimp:=false)(disch:=omega) only [go_sem, Φa, hP, h20_3, h20_7, h20_15, h20_16, hops]
                  refine ⟨_, Cell.at 0 rfl rfl, ?_⟩
                  try with_reducible refine stI ?_
                  try simp (maxSteps:=1000000)(dsimp:=false)(disch:=omega) only [go_sem, Φa, hP, h20_3, h20_7, h20_15, h20_16, hops]
                  refine ⟨_, Cell.at 0 rfl rfl, ?_⟩
                  try with_reducible refine stI ?_
                  try simp (maxSteps:=1000000)(dsimp:=false)(disch:=omega) only [go_sem, Φa, hP, h20_3, h20_7, h20_15, h20_16, hops]
                  refine ⟨_, Cell.at 0 rfl rfl, ?_⟩
                  try with_reducible refine stI ?_
                  try simp (maxSteps:=1000000)(dsimp:=false)(disch:=omega) only [go_sem, Φa, hP, h20_3, h20_7, h20_15, h20_16, hops]
                  refine ⟨_, Cell.at 0 rfl rfl, ?_⟩
                  try with_reducible refine stI ?_
                  try simp (maxSteps:=1000000)(dsimp:=false)(disch:=omega) only [go_sem, Φa, hP, h20_3, h20_7, h20_15, h20_16, hops]
                  refine ⟨_, Cell.at 0 rfl rfl, ?_⟩
                  try with_reducible refine stI ?_
                  try simp (maxSteps:=1000000)(dsimp:=false)(disch:=omega) only [go_sem, Φa, hP, h20_3, h20_7, h20_15, h20_16, hops]
                  refine ⟨_, Cell.at 13 rfl rfl, ?_⟩
                  try with_reducible refine stI ?_
                  try simp (maxSteps:=1000000)(dsimp:=false)(disch:=omega) only [go_sem, Φa, hP, h20_3, h20_7, h20_15, h20_16, hops]
                  refine ⟨_, Cell.at 13 rfl rfl, ?_⟩
                  try with_reducible refine stI ?_
                  try simp (maxSteps:=1000000)(dsimp:=false)(disch:=omega) only [go_sem, Φa, hP, h20_3, h20_7, h20_15, h20_16, hops]
                  refine ⟨_, Cell.at 13 rfl rfl, ?_⟩
                  try with_reducible refine stI ?_
                  try simp (maxSteps:=1000000)(dsimp:=false)(disch:=omega) only [go_sem, Φa, hP, h20_3, h20_7, h20_15, h20_16, hops]
                  refine ⟨_, Cell.at 13 rfl rfl, ?_⟩
                  try with_reducible refine stI ?_
                  try simp (maxSteps:=1000000)(dsimp:=false)(disch:=omega) only [go_sem, Φa, hP, h20_3, h20_7, h20_15, h20_16, hops]
                  refine ⟨_, Cell.at 13 rfl rfl, ?_⟩
                  try with_reducible refine stI ?_
                  try simp (maxSteps:=1000000)(dsimp:=false)(disch:=omega) only [go_sem, Φa, hP, h20_3, h20_7, h20_15, h20_16, hops]
                  refine ⟨_, Cell.at 13 rfl rfl, ?_⟩
                  try with_reducible refine stI ?_
                  try simp (maxSteps:=1000000)(dsimp:=false)(disch:=omega) only [go_sem, Φa, hP, h20_3, h20_7, h20_15, h20_16, hops]
                  refine ⟨_, Cell.at 13 rfl rfl, ?_⟩
                  try with_reducible refine stI ?_
                  try simp (maxSteps:=1000000)(dsimp:=false)(disch:=omega) only [go_sem, Φa, hP, h20_3, h20_7, h20_15, h20_16, hops]
                  refine ⟨_, Cell.at 13 rfl rfl, ?_⟩
                  try with_reducible refine stI ?_
                  try simp (maxSteps:=1000000)(dsimp:=false)(disch:=omega) only [go_sem, Φa, hP, h20_3, h20_7, h20_15, h20_16, hops]
                  refine ⟨_, Cell.at 13 rfl rfl, ?_⟩
                  try with_reducible refine stI ?_
                  try simp (maxSteps:=1000000)(dsimp:=false)(disch:=omega) only [go_sem, Φa, hP, h20_3, h20_7, h20_15, h20_16, hops]
                  refine ⟨_, Cell.at 13 rfl rfl, ?_⟩
                  try with_reducible refine stI ?_
                  try simp (maxSteps:=1000000)(dsimp:=false)(disch:=omega) only [go_sem, Φa, hP, h20_3, h20_7, h20_15, h20_16, hops]
                  refine ⟨_, Cell.at 13 rfl rfl, ?_⟩
                  try with_reducible refine stI ?_
                  try simp (maxSteps:=1000000)(dsimp:=false)(disch:=omega) only [go_sem, Φa, hP, h20_3, h20_7, h20_15, h20_16, hops]
                  refine ⟨_, Cell.at 13 rfl rfl, ?_⟩
                  try with_reducible refine stI ?_
                  try simp (maxSteps:=1000000)(dsimp:=false)(disch:=omega) only [go_sem, Φa, hP, h20_3, h20_7, h20_15, h20_16, hops]
                  refine ⟨_, Cell.at 13 rfl rfl, ?_⟩
                  try with_reducible refine stI ?_
                  try simp (maxSteps:=1000000)(dsimp:=false)(disch:=omega) only [go_sem, Φa, hP, h20_3, h20_7, h20_15, h20_16, hops]
                  refine ⟨_, Cell.at 13 rfl rfl, ?_⟩
                  try with_reducible refine stI ?_
                  try simp (maxSteps:=1000000)(dsimp:=false)(disch:=omega) only [go_sem, Φa, hP, h20_3, h20_7, h20_15, h20_16, hops]
                  refine ⟨_, Cell.at 13 rfl rfl, ?_⟩
                  try with_reducible refine stI ?_
                  try simp (maxSteps:=1000000)(dsimp:=false)(disch:=omega) only [go_sem, Φa, hP, h20_3, h20_7, h20_15, h20_16, hops]
                  refine ⟨_, Cell.at 13 rfl rfl, ?_⟩
                  try with_reducible refine stI ?_
                  try simp (maxSteps:=1000000)(dsimp:=false)(disch:=omega) only [go_sem, Φa, hP, h20_3, h20_7, h20_15, h20_16, hops]
                  refine ⟨_, Cell.at 13 rfl rfl, ?_⟩
                  try with_reducible refine stI ?_
                  try simp (maxSteps:=1000000)(dsimp:=false)(disch:=omega) only [go_sem, Φa, hP, h20_3, h20_7, h20_15, h20_16, hops]
                  refine ⟨_, Cell.at 13 rfl rfl, ?_⟩
                  try with_reducible refine stI ?_
                  try simp (maxSteps:=1000000)(dsimp:=false)(disch:=omega) only [go_sem, Φa, hP, h20_3, h20_7, h20_15, h20_16, hops]
                  refine ⟨_, Cell.at 13 rfl rfl, ?_⟩
                  try with_reducible refine stI ?_
                  try simp (maxSteps:=1000000)(dsimp:=false)(disch:=omega) only [go_sem, Φa, hP, h20_3, h20_7, h20_15, h20_16, hops]
                  refine ⟨_, Cell.at 13 rfl rfl, ?_⟩
                  try with_reducible refine stI ?_
                  try simp (maxSteps:=1000000)(dsimp:=false)(disch:=omega) only [go_sem, Φa, hP, h20_3, h20_7, h20_15, h20_16, hops]
                  refine ⟨_, Cell.at 13 rfl rfl, ?_⟩
                  try with_reducible refine stI ?_
                  try simp (maxSteps:=1000000)(dsimp:=false)(disch:=omega) only [go_sem, Φa, hP, h20_3, h20_7, h20_15, h20_16, hops]
                  refine ⟨_, Cell.at 13 rfl rfl, ?_⟩
                  try with_reducible refine stI ?_
                  try simp (maxSteps:=1000000)(dsimp:=false)(disch:=omega) only [go_sem, Φa, hP, h20_3, h20_7, h20_15, h20_16, hops]
                  refine ⟨_, Cell.at 13 rfl rfl, ?_⟩
                  try with_reducible refine stI ?_
                  try simp (maxSteps:=1000000)(dsimp:=false)(disch:=omega) only [go_sem, Φa, hP, h20_3, h20_7, h20_15, h20_16, hops]
                  first | (refine SCall.mono (Same_spec (a := (stepG (stepG (callsB g t) f quietD).1 f quietD).1) (b := { callsB g t with PC := 514 }) hP (by rw [heq2]; exact hD.ok) hD.ok (RowI.sl hr2.st (i := 1) rfl) (RowI.sl hr2.pg (i := 2) rfl) (RowI.sl hr2.mm (i := 3) rfl) (RowI.sl hr.st (i := 9) rfl) (RowI.sl hr.pg (i := 10) rfl) (SlI.row (xs := (callsB g t).mm) (junk := jk) 11 rfl hBl (by omega)) (by rw [heq2]; exact Nat.le_trans w1 (by decide)) (Nat.le_trans w1 (by decide))) ?_; rintro v_ L_ ⟨hv_, hL_⟩; rw [hv_, hL_]; clear hv_ hL_ v_ L_) | refine ⟨_, Same_spec (a := (stepG (stepG (callsB g t) f quietD).1 f quietD).1) (b := { callsB g t with PC := 514 }) hP (by rw [heq2]; exact hD.ok) hD.ok (RowI.sl hr2.st (i := 1) rfl) (RowI.sl hr2.pg (i := 2) rfl) (RowI.sl hr2.mm (i := 3) rfl) (RowI.sl hr.st (i := 9) rfl) (RowI.sl hr.pg (i := 10) rfl) (SlI.row (xs := (callsB g t).mm) (junk := jk) 11 rfl hBl (by omega)) (by rw [heq2]; exact Nat.le_trans w1 (by decide)) (Nat.le_trans w1 (by decide)), ?_⟩ | refine ⟨_, fun L0 hl0 => Same_spec (a := (stepG (stepG (callsB g t) f quietD).1 f quietD).1) (b := { callsB g t with PC := 514 }) hP (by rw [heq2]; exact hD.ok) hD.ok (RowI.sl hr2.st (i := 1) rfl) (RowI.sl hr2.pg (i := 2) rfl) (RowI.sl hr2.mm (i := 3) rfl) (RowI.sl hr.st (i := 9) rfl) (RowI.sl hr.pg (i := 10) rfl) (SlI.row (xs := (callsB g t).mm) (junk := jk) 11 rfl hBl (by omega)) (by rw [heq2]; exact Nat.le_trans w1 (by decide)) (Nat.le_trans w1 (by decide)), ?_⟩
                  rw [show sameB (stepG (stepG (callsB g t) f quietD).1 f quietD).1 { callsB g t with PC := 514 } = true from by rw [heq2]; exact sameB_self _]
                  try with_reducible refine stI ?_
                  try simp (maxSteps:=1000000)(dsimp:=false)(disch:=omega) only [go_sem, Φa, hP, h20_3, h20_7, h20_15, h20_16, hops]
                  refine hK41 _ _ ?_
                  try clear hK41 K41
                  refine SX.seq_k fun K42 hK42 => ?_
                  refine SX.region_xd [some 130, some 131, some 132, some 133, some 134, some 135, some 136, some 137, some 6] rfl (fun ops hops => ?_)
                  unfold Dsts at hops
                  refine RX.live [7, 16, 18] (fun T21 hT21 => ?_)
                  simp only [forall_mem_cons', forall_mem_nil', go_sem, Φa, hP, h20_3, h20_7, h20_15, h20_16] at hT21
                  obtain ⟨h21_7, h21_16, h21_18⟩ := hT21
                  clear h20_3 h20_7 h20_15 h20_16 T20
                  have e5 : (stepG (stepG (callsB g t) f quietD).1 f quietD).2.1 = 1 := by rw [heq2]
                  refine RX.join 5 (fun (ss : Unit) T L' => T 134 = .bool (true) ∧ T 18 = T21 18 ∧ L' = some (b15, .cells ((stepG (stepG (callsB g t) f quietD).1 f quietD).1.cells (.slice A2st (stepG (stepG (callsB g t) f quietD).1 f quietD).1.st.length c2st) (.slice A2pg (stepG (stepG (callsB g t) f quietD).1 f quietD).1.pg.length c2pg) (.slice A2mm (stepG (stepG (callsB g t) f quietD).1 f quietD).1.mm.length c2mm)).toArray 29 (0, 0)) :: p1 :: p2 :: p3 :: some (b11, .cells ((stepG (callsB g t) f quietD).1.cells (.slice (some a1) (stepG (callsB g t) f quietD).1.st.length c1st) (.slice A1pg (stepG (callsB g t) f quietD).1.pg.length c1pg) (.slice A1mm (stepG (callsB g t) f quietD).1.mm.length c1mm)).toArray 29 (0, 0)) :: n1 :: n2 :: n3 :: some (b10, .cells quietD.cells.toArray 50 (0, 0)) :: c1 :: c2 :: some (r3, .cells (ints .u8 (callsB g t).mm ++ jk).toArray 5 (0, 0)) :: some (b1, .cells (f.cells (.slice Af f.bs.length cf)).toArray 40 (0, 0)) :: some (b0, .cells (({ callsB g t with PC := 514 } : GM).cells (.slice A0st g.st.length c0st) (.slice A0pg g.pg.length c0pg) (.slice (some ⟨r3, 0, none⟩) g.mm.length cap3)).toArray 29 (0, 0)) :: L ∧ (True)) (fun K43 hK43 => ?_) ?_
                  · simp only [h21_18] at hK43
                    simp (maxSteps:=1000000)(dsimp:=false)(disch:=omega) only [go_sem, Φa, hP, h21_7, h21_16, h21_18, hops]
                    repeat' (first | refine iteB (fun hg => ?_) (fun hg => ?_) | refine iteI (fun hg => ?_) (fun hg => ?_) | ((first | refine And.intro (by omega) ?_ | refine ⟨_, Cell.at 0 rfl rfl, ?_⟩ | refine ⟨_, Cell.at 1 rfl rfl, ?_⟩ | refine ⟨_, Cell.at 2 rfl rfl, ?_⟩ | refine ⟨_, Cell.at 3 rfl rfl, ?_⟩ | refine ⟨_, Cell.at 4 rfl rfl, ?_⟩ | refine ⟨_, Cell.at 5 rfl rfl, ?_⟩ | refine ⟨_, Cell.at 6 rfl rfl, ?_⟩ | refine ⟨_, Cell.at 7 rfl rfl, ?_⟩ | refine ⟨_, Cell.at 8 rfl rfl, ?_⟩ | refine ⟨_, Cell.at 9 rfl rfl, ?_⟩ | refine ⟨_, Cell.at 10 rfl rfl, ?_⟩ | refine ⟨_, Cell.at 11 rfl rfl, ?_⟩ | refine ⟨_, Cell.at 12 rfl rfl, ?_⟩ | refine ⟨_, Cell.at 13 rfl rfl, ?_⟩ | fail); try (with_reducible refine stI ?_); try simp (maxSteps:=1000000)(dsimp:=false)(disch:=omega) only [go_sem, Φa, hP, h21_7, h21_16, h21_18, hops]) | fail)
                    all_goals
                      refine hK43 () _ (some (b15, .cells ((stepG (stepG (callsB g t) f quietD).1 f quietD).1.cells (.slice A2st (stepG (stepG (callsB g t) f quietD).1 f quietD).1.st.length c2st) (.slice A2pg (stepG (stepG (callsB g t) f quietD).1 f quietD).1.pg.length c2pg) (.slice A2mm (stepG (stepG (callsB g t) f quietD).1 f quietD).1.mm.length c2mm)).toArray 29 (0, 0)) :: p1 :: p2 :: p3 :: some (b11, .cells ((stepG (callsB g t) f quietD).1.cells (.slice (some a1) (stepG (callsB g t) f quietD).1.st.length c1st) (.slice A1pg (stepG (callsB g t) f quietD).1.pg.length c1pg) (.slice A1mm (stepG (callsB g t) f quietD).1.mm.length c1mm)).toArray 29 (0, 0)) :: n1 :: n2 :: n3 :: some (b10, .cells quietD.cells.toArray 50 (0, 0)) :: c1 :: c2 :: some (r3, .cells (ints .u8 (callsB g t).mm ++ jk).toArray 5 (0, 0)) :: some (b1, .cells (f.cells (.slice Af f.bs.length cf)).toArray 40 (0, 0)) :: some (b0, .cells (({ callsB g t with PC := 514 } : GM).cells (.slice A0st g.st.length c0st) (.slice A0pg g.pg.length c0pg) (.slice (some ⟨r3, 0, none⟩) g.mm.length cap3)).toArray 29 (0, 0)) :: L) _ (by first | exact Less.refl _ | exact Less.drop _ _ | exact Less.drops (Less.drop _ _) | exact Less.drops (Less.drops (Less.drop _ _)) | exact Less.drops (Less.drops (Less.drops (Less.drop _ _))) | exact Less.drops (Less.drops (Less.drops (Less.drops (Less.drop _ _))))) ?_
                      try dsimp only
                      refine ⟨?_, ?_, ?_, ?_⟩
                      · simp (maxSteps:=1000000)(dsimp:=false)(disch:=omega) only [go_sem, Φa, hP, h21_7, h21_16, h21_18]
                        first | done | (refine congrArg Value.bool ?_; simp_all; done)
                      · simp (maxSteps:=1000000)(dsimp:=false)(disch:=omega) only [go_sem, Φa, hP, h21_7, h21_16, h21_18]
                      · rfl
                      · trivial
                  · intro ss T22 L22 hI
                    simp only [h21_18] at hI 
                    obtain ⟨h22_134, h22_18, hL22, hinv⟩ := hI
                    replace hL22 := hL22.symm
                    subst hL22
                    clear h21_7 h21_16 h21_18 T21
                    refine RX.live [18, 134] (fun T23 hT23 => ?_)
                    simp only [forall_mem_cons', forall_mem_nil', go_sem, Φa, hP, h22_134, h22_18] at hT23
                    obtain ⟨h23_18, h23_134⟩ := hT23
                    clear h22_134 h22_18 T22
                    refine RX.join 3 (fun (ss : Unit) T L' => T 137 = .bool (true) ∧ L' = some (b15, .cells ((stepG (stepG (callsB g t) f quietD).1 f quietD).1.cells (.slice A2st (stepG (stepG (callsB g t) f quietD).1 f quietD).1.st.length c2st) (.slice A2pg (stepG (stepG (callsB g t) f quietD).1 f quietD).1.pg.length c2pg) (.slice A2mm (stepG (stepG (callsB g t) f quietD).1 f quietD).1.mm.length c2mm)).toArray 29 (0, 0)) :: p1 :: p2 :: p3 :: some (b11, .cells ((stepG (callsB g t) f quietD).1.cells (.slice (some a1) (stepG (callsB g t) f quietD).1.st.length c1st) (.slice A1pg (stepG (callsB g t) f quietD).1.pg.length c1pg) (.slice A1mm (stepG (callsB g t) f quietD).1.mm.length c1mm)).toArray 29 (0, 0)) :: n1 :: n2 :: n3 :: some (b10, .cells quietD.cells.toArray 50 (0, 0)) :: c1 :: c2 :: some (r3, .cells (ints .u8 (callsB g t).mm ++ jk).toArray 5 (0, 0)) :: some (b1, .cells (f.cells (.slice Af f.bs.length cf)).toArray 40 (0, 0)) :: some (b0, .cells (({ callsB g t with PC := 514 } : GM).cells (.slice A0st g.st.length c0st) (.slice A0pg g.pg.length c0pg) (.slice (some ⟨r3, 0, none⟩) g.mm.length cap3)).toArray 29 (0, 0)) :: L ∧ (True)) (fun K44 hK44 => ?_) ?_
                    · simp (maxSteps:=1000000)(dsimp:=false)(disch:=omega) only [go_sem, Φa, hP, h23_18, h23_134, hops]
                      repeat' (first | refine iteB (fun hg => ?_) (fun hg => ?_) | refine iteI (fun hg => ?_) (fun hg => ?_) | ((first | refine And.intro (by omega) ?_ | refine ⟨_, Cell.at 0 rfl rfl, ?_⟩ | refine ⟨_, Cell.at 1 rfl rfl, ?_⟩ | refine ⟨_, Cell.at 2 rfl rfl, ?_⟩ | refine ⟨_, Cell.at 3 rfl rfl, ?_⟩ | refine ⟨_, Cell.at 4 rfl rfl, ?_⟩ | refine ⟨_, Cell.at 5 rfl rfl, ?_⟩ | refine ⟨_, Cell.at 6 rfl rfl, ?_⟩ | refine ⟨_, Cell.at 7 rfl rfl, ?_⟩ | refine ⟨_, Cell.at 8 rfl rfl, ?_⟩ | refine ⟨_, Cell.at 9 rfl rfl, ?_⟩ | refine ⟨_, Cell.at 10 rfl rfl, ?_⟩ | refine ⟨_, Cell.at 11 rfl rfl, ?_⟩ | refine ⟨_, Cell.at 12 rfl rfl, ?_⟩ | refine ⟨_, Cell.at 13 rfl rfl, ?_⟩ | fail); try (with_reducible refine stI ?_); try simp (maxSteps:=1000000)(dsimp:=false)(disch:=omega) only [go_sem, Φa, hP, h23_18, h23_134, hops]) | fail)
                      all_goals
                        refine hK44 () _ (some (b15, .cells ((stepG (stepG (callsB g t) f quietD).1 f quietD).1.cells (.slice A2st (stepG (stepG (callsB g t) f quietD).1 f quietD).1.st.length c2st) (.slice A2pg (stepG (stepG (callsB g t) f quietD).1 f quietD).1.pg.length c2pg) (.slice A2mm (stepG (stepG (callsB g t) f quietD).1 f quietD).1.mm.length c2mm)).toArray 29 (0, 0)) :: p1 :: p2 :: p3 :: some (b11, .cells ((stepG (callsB g t) f quietD).1.cells (.slice (some a1) (stepG (callsB g t) f quietD).1.st.length c1st) (.slice A1pg (stepG (callsB g t) f quietD).1.pg.length c1pg) (.slice A1mm (stepG (callsB g t) f quietD).1.mm.length c1mm)).toArray 29 (0, 0)) :: n1 :: n2 :: n3 :: some (b10, .cells quietD.cells.toArray 50 (0, 0)) :: c1 :: c2 :: some (r3, .cells (ints .u8 (callsB g t).mm ++ jk).toArray 5 (0, 0)) :: some (b1, .cells (f.cells (.slice Af f.bs.length cf)).toArray 40 (0, 0)) :: some (b0, .cells (({ callsB g t with PC := 514 } : GM).cells (.slice A0st g.st.length c0st) (.slice A0pg g.pg.length c0pg) (.slice (some ⟨r3, 0, none⟩) g.mm.length cap3)).toArray 29 (0, 0)) :: L) _ (by first | exact Less.refl _ | exact Less.drop _ _ | exact Less.drops (Less.drop _ _) | exact Less.drops (Less.drops (Less.drop _ _)) | exact Less.drops (Less.drops (Less.drops (Less.drop _ _))) | exact Less.drops (Less.drops (Less.drops (Less.drops (Less.drop _ _))))) ?_
                        try dsimp only
                        refine ⟨?_, ?_, ?_⟩
                        · simp (maxSteps:=1000000)(dsimp:=false)(disch:=omega) only [go_sem, Φa, hP, h23_18, h23_134]
                          first | done | (refine congrArg Value.bool ?_; simp_all; done)
                        · rfl
                        · trivial
                    · intro ss T24 L24 hI
                      obtain ⟨h24_137, hL24, hinv⟩ := hI
                      replace hL24 := hL24.symm
                      subst hL24
                      clear h23_18 h23_134 T23
                      refine RX.done ?_
                      simp (maxSteps:=1000000)(dsimp:=false)(disch:=omega) only [go_sem, Φa, hP, h24_137, hops]
                      refine hK42 _ _ ?_
                      try clear hK42 K42
                      refine SX.ret ?_
                      simp only [andThen_normal, andThen_ret, andThen_exit, inBlk_normal, inBlk_ret, inBlk_exit, Nat.reduceEqDiff, if_true, if_false, ↓reduceIte, retQ_ret]
                      try simp only [res0, res1, res2, res3, stK_e, go_sem, Φa, hP, h24_137]
                      exact ⟨_, _, Less.tail [_, _, _, _, _, _, _, _, _, _, _, _, _, _] _, rfl, rfl, rfl⟩

end Go.Proofs.Ytgioegdjeodpiaa
set_option linter.unusedVariables false
namespace Go.Proofs.Ytgioegdjeodpiaa
open Go.ChangeShapes Go.WideShapes Go.ChangeAt Go.RowKit Go.SX
set_option maxRecDepth 100000 in
theorem gameCalls_lifted (os : Os) (started : os.Started) (H : Type) (enc : TypeId × Value → H) :
    ReturnsInHanded {} Try.checked os 8 .any (Rows.gameCallsSpec.pre6 enc Try.prog Try.f8 Rows.gameCallsRow.domain false) (Rows.gameCallsSpec.post enc Try.prog Try.f8 false true false false) := by
  refine law_lifted (C := Try.checked) (tb := 4) own started (by kernel_rfl) Try.func8
    (ChangeSpec.witness6 (enc := enc) (C := Try.checked) false ⟨#[], #[.agg #[.int .u8 0, .int .u8 0, .int .u8 0, .int .u8 0, .int .u8 0, .int .u8 0, .int .u8 0, .int .u8 0, .int .u8 0, .int .u8 0, .int .u8 0, .int .u8 0, .int .u8 0, .int .u8 0, .int .u8 0, .int .u8 0, .int .u16 0, .int .u16 0, .slice none 0 0, .int .u8 0, .int .u8 0, .slice none 0 0, .slice none 0 0], .agg #[.int .u16 0, .int .u16 0, .int .u16 0, .int .u16 0, .int .u16 0, .int .u16 0, .int .u16 0, .int .u16 0, .int .u16 0, .int .u16 0, .int .u16 0, .int .u16 0, .int .u16 0, .int .u16 0, .int .u16 0, .int .u16 0, .int .u16 0, .slice none 0 0], .int .i64 0], []⟩ 8 (by kernel_rfl) (by kernel_rfl) (by kernel_rfl) (by kernel_rfl)) rfl laidOut (by kernel_rfl) rfl Try.underlying4 ?_ ?_
  · intro ds hl
    match ds, hl with
    | [d0, d1, d2], _ => rfl
  · intro W base args ds p hval hA
    rw [Try.params8] at hA hval
    obtain ⟨v0, v1, v2, d0, d1, d2, p0, p1, p2, rfl, rfl, rfl, h0, h1, h2⟩ := trodAll_three hA
    have k0 := hval 0 29 v0 rfl rfl
    obtain ⟨g, sv, pv, mv, rfl, hg, hs, hp, hmv, ls, lp, lm⟩ := open_game k0 h0
    have k1 := hval 1 40 v1 rfl rfl
    obtain ⟨f, fv, rfl, hF, hf, lf⟩ := open_font k1 h1
    have k2 := hval 2 3 v2 rfl rfl
    obtain ⟨a0, rfl⟩ := okWide_int Try.underlying3 k2
    obtain ⟨fu2, hfu2⟩ := h2
    obtain ⟨a, ea, wa⟩ := open_int1 Try.underlying3 hfu2
    cases ea
    have hm : (maxLen : Nat) = 9223372036854775807 := rfl
    exact SCall.below (GameCalls_spec rfl (bi64 wa) hg hF hs hp hmv hf)
theorem gameCalls_said : Rows.GameCallsSaid :=
  OpenClaim.holds_of_wide 8 Try.f8 rfl rfl rfl rfl rfl rfl rfl ⟨rfl, rfl, rfl, rfl, rfl⟩ rfl rfl rfl rfl rfl (by kernel_rfl) Try.func8 (by kernel_rfl)
    (of_decide_eq_true (by kernel_rfl)) (by unfold Func.isWrapper; first | (rw [if_pos (by decide +kernel)]; kernel_rfl) | (rw [if_neg (by decide +kernel)]; exact ⟨rfl, rfl⟩))
    (fun os started H enc _ => gameCalls_lifted os started H enc)
#print axioms gameCalls_said
end Go.Proofs.Ytgioegdjeodpiaa
