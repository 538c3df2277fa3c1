/- A part of a proof: contracts and plain facts that it stands on. -/
import Derived.Test.YtgioegdjeodpiaaCB
import Derived.Laws.BitsLemmas
set_option linter.unusedVariables false
set_option linter.unusedSimpArgs false
namespace Go.Proofs.Ytgioegdjeodpiaa
open Go.RowKit Go.SX
open Go.SX renaming ia_someH → Φa

def vG (g : GM) (x : Nat) : Int := g.V.getD x 0
def skipG (g : GM) (b : Bool) : Int × GM := (1, if b = true then { g with PC := IntKind.u16.wrap (g.PC + 2) } else g)
def letG (g : GM) (o : Ord) (b : Int) : Int × GM := (1, { g with V := g.V.set o.x b })
def flagG (g : GM) (o : Ord) (b c : Int) : Int × GM := (1, { g with V := (g.V.set o.x b).set 15 c })
def truthI (b : Bool) : Int := if b = true then 1 else 0
def downG (g : GM) (o : Ord) (d : Feed) : Bool := decide (bits .and .u16 (d.keys.fdiv (2 ^ min (g.V.getD o.x 0 % 16).toNat 16)) 1 = 1)
set_option maxHeartbeats 1000000 in
set_option maxRecDepth 100000 in
theorem down_spec {Γ : Ctx} (hP : Γ.P = Try.prog) {L : Hp} {gp : Nat} {g : GM} {sv pv mv : Value} {o : Ord} {f : Fnt} {fv : Value} {d : Feed} {i : Nat} (hi : L[i]? = some (PS gp g sv pv mv o f fv d)) (hx : o.x < 16) (hVb : Byte g.V) :
    SCall Γ 87 #[(.pointer (some ⟨gp, 0, none⟩))] L (fun v L' => v = .bool (downG g o d) ∧ L' = L) := by
  refine SCall.enter (n := 14) (res1 2) (hP ▸ Try.func87) rfl rfl (by simp) (res1_ok rfl) ?_
  refine SX.seq_k fun K1 hK1 => ?_
  refine SX.region_d [some 2] rfl (fun ops hops => ?_)
  unfold Dsts at hops
  simp (maxSteps:=1000000)(dsimp:=false)(disch:=omega) only [go_sem, Φa, hP, hops]
  repeat' ((first | refine ⟨_, Cell.at i hi (show (pcells _ _ _ _ _ _ _ _)[48]? = _ from rfl), ?_⟩ | fail); try (with_reducible refine stI ?_); try simp (maxSteps:=1000000)(dsimp:=false)(disch:=omega) only [go_sem, Φa, hP, hops])
  refine hK1 _ _ ?_
  try clear hK1 K1
  refine SX.seq_k fun K2 hK2 => ?_
  have hb := byte_at hVb o.x
  have h15 := u8_and15 (g.V.getD o.x 0) hb.1 (by omega)
  refine SX.quiet_d (hP ▸ T.mixed) (by kernel_rfl) [some 3, some 4, some 5, some 6, some 7, some 8, some 9, some 10, some 11, some 12, some 13, some 2] rfl (fun ops hops => ?_)
  unfold Dsts at hops
  simp (maxSteps:=1000000)(dsimp:=false)(disch:=omega) only [go_sem, Φa, hP, hops, h15]
  repeat' ((first | refine ⟨_, Cell.at i hi (show (pcells _ _ _ _ _ _ _ _)[48]? = _ from rfl), ?_⟩ | (refine SCall.mono (x_spec (i := i) hP hi hx) ?_; rintro v_ L_ ⟨hv_, hL_⟩; rw [hv_, hL_]; clear hv_ hL_ v_ L_) | refine ⟨_, x_spec (i := i) hP hi hx, ?_⟩ | refine ⟨_, fun L0 hl0 => x_spec (i := i) hP hi hx, ?_⟩ | refine And.intro (by omega) ?_ | fail); try (with_reducible refine stI ?_); try simp (maxSteps:=1000000)(dsimp:=false)(disch:=omega) only [go_sem, Φa, hP, hops, h15])
  refine hK2 _ _ ?_
  try clear hK2 K2
  refine SX.ret ?_
  simp only [andThen_normal, andThen_ret, andThen_exit, inBlk_normal, inBlk_ret, inBlk_exit, Nat.reduceEqDiff, if_true, if_false, ↓reduceIte, retQ_ret]
  try simp only [res0, res1, res2, res3, stK_e, go_sem, Φa, hP]
  exact ⟨_, _, Less.refl _, rfl, rfl, rfl⟩
set_option maxHeartbeats 1000000 in
set_option maxRecDepth 100000 in
theorem jump_spec {Γ : Ctx} (hP : Γ.P = Try.prog) {L : Hp} {gp : Nat} {g : GM} {sv pv mv : Value} {o : Ord} {f : Fnt} {fv : Value} {d : Feed} {q1 q2 q3 : Slot} (hg : OkG g) (hr : Rows g sv pv mv q1 q2 q3) (ho : OkO o) (hx : o.x < 16) (hy : o.y < 16) (hd : OkD d) :
    SCall Γ 49 #[(.pointer (some ⟨gp, 0, none⟩))] (PS gp g sv pv mv o f fv d :: q1 :: q2 :: q3 :: L) (mres gp o f fv d L (1, { g with PC := (o.a : Int) })) := by
  have hbx := byte_at hg.Vb o.x
  have hby := byte_at hg.Vb o.y
  have hob := ho.b
  have hoa := ho.a
  have hox := ho.x
  have hPCb := hg.PC
  have hIb := hg.I
  have hrb := hd.rnd
  have hkb := hd.keys
  have hdl := hg.dl
  have hsd := hg.sd
  refine SCall.enter (n := 12) (res1 2) (hP ▸ Try.func49) rfl rfl (by simp) (res1_ok rfl) ?_
  refine SX.seq_k fun K1 hK1 => ?_
  refine SX.region_d [some 2] rfl (fun ops hops => ?_)
  unfold Dsts at hops
  simp (maxSteps:=1000000)(dsimp:=false)(disch:=omega) only [go_sem, Φa, hP, hops]
  repeat' ((first | refine ⟨_, Cell.at 0 rfl rfl, ?_⟩ | refine ⟨0, _, _, _, rfl, (by rw [pcells_length]; omega), .inr (by first | decide | exact Nat.zero_le _), ?_⟩ | fail); try (with_reducible refine stI ?_); try simp (maxSteps:=1000000)(dsimp:=false)(disch:=omega) only [go_sem, Φa, hP, hops])
  refine hK1 _ _ ?_
  try clear hK1 K1
  refine SX.seq_k fun K2 hK2 => ?_
  refine SX.region_d [some 3, some 4, some 5, some 6, some 7, some 8, some 9, some 10, some 11, none] rfl (fun ops hops => ?_)
  unfold Dsts at hops
  simp (maxSteps:=1000000)(dsimp:=false)(disch:=omega) only [go_sem, Φa, hP, hops]
  repeat' ((first | refine ⟨_, Cell.at 0 rfl rfl, ?_⟩ | refine ⟨0, _, _, _, rfl, (by rw [pcells_length]; omega), .inr (by first | decide | exact Nat.zero_le _), ?_⟩ | fail); try (with_reducible refine stI ?_); try simp (maxSteps:=1000000)(dsimp:=false)(disch:=omega) only [go_sem, Φa, hP, hops])
  refine hK2 _ _ ?_
  try clear hK2 K2
  refine SX.live [] (fun T1 hT1 => ?_)
  clear hT1
  refine SX.seq_k fun K3 hK3 => ?_
  refine SX.region_d [some 2] rfl (fun ops hops => ?_)
  unfold Dsts at hops
  simp (maxSteps:=1000000)(dsimp:=false)(disch:=omega) only [go_sem, Φa, hP, hops]
  repeat' ((first | refine ⟨_, Cell.at 0 rfl rfl, ?_⟩ | refine ⟨0, _, _, _, rfl, (by rw [pcells_length]; omega), .inr (by first | decide | exact Nat.zero_le _), ?_⟩ | fail); try (with_reducible refine stI ?_); try simp (maxSteps:=1000000)(dsimp:=false)(disch:=omega) only [go_sem, Φa, hP, hops])
  refine hK3 _ _ ?_
  try clear hK3 K3
  refine SX.ret ?_
  simp only [andThen_normal, andThen_ret, andThen_exit, inBlk_normal, inBlk_ret, inBlk_exit, Nat.reduceEqDiff, if_true, if_false, ↓reduceIte, retQ_ret]
  try simp only [res0, res1, res2, res3, stK_e, go_sem, Φa, hP]
  exact ⟨_, _, Less.refl _, rfl, rfl, sv, pv, mv, q1, q2, q3, rfl, ⟨hr.st, hr.pg, hr.mm⟩⟩
set_option maxHeartbeats 1000000 in
set_option maxRecDepth 100000 in
theorem skipIs_spec {Γ : Ctx} (hP : Γ.P = Try.prog) {L : Hp} {gp : Nat} {g : GM} {sv pv mv : Value} {o : Ord} {f : Fnt} {fv : Value} {d : Feed} {q1 q2 q3 : Slot} (hg : OkG g) (hr : Rows g sv pv mv q1 q2 q3) (ho : OkO o) (hx : o.x < 16) (hy : o.y < 16) (hd : OkD d) :
    SCall Γ 51 #[(.pointer (some ⟨gp, 0, none⟩))] (PS gp g sv pv mv o f fv d :: q1 :: q2 :: q3 :: L) (mres gp o f fv d L (skipG g (decide (vG g o.x = (o.b : Int))))) := by
  have hbx := byte_at hg.Vb o.x
  have hby := byte_at hg.Vb o.y
  have hob := ho.b
  have hoa := ho.a
  have hox := ho.x
  have hPCb := hg.PC
  have hIb := hg.I
  have hrb := hd.rnd
  have hkb := hd.keys
  have hdl := hg.dl
  have hsd := hg.sd
  refine SCall.enter (n := 13) (res1 2) (hP ▸ Try.func51) rfl rfl (by simp) (res1_ok rfl) ?_
  refine SX.seq_k fun K1 hK1 => ?_
  refine SX.region_d [some 2] rfl (fun ops hops => ?_)
  unfold Dsts at hops
  simp (maxSteps:=1000000)(dsimp:=false)(disch:=omega) only [go_sem, Φa, hP, hops]
  repeat' ((first | refine ⟨_, Cell.at 0 rfl rfl, ?_⟩ | refine ⟨0, _, _, _, rfl, (by rw [pcells_length]; omega), .inr (by first | decide | exact Nat.zero_le _), ?_⟩ | fail); try (with_reducible refine stI ?_); try simp (maxSteps:=1000000)(dsimp:=false)(disch:=omega) only [go_sem, Φa, hP, hops])
  refine hK1 _ _ ?_
  try clear hK1 K1
  refine SX.seq_k fun K2 hK2 => ?_
  refine SX.drawn_d [(0, .q), (1, .q), (3, .q), (4, .q), (5, .q), (6, .q), (7, .q), (2, .e), (8, .q), (9, .t), (10, .t)] (fun L => L) (hP ▸ T.mixed) (by kernel_rfl) (by exact Less.refl _) [some 3, some 4, some 5, some 6, some 7, some 8, some 9, some 10, some 11, some 12, some 2] rfl (fun ops hops hopl => ?_)
  unfold Dsts at hops
  simp (maxSteps:=1000000)(dsimp:=false)(disch:=omega) only [go_sem, Φa, hP, hops, hopl]
  repeat' ((first | refine ⟨_, Cell.at 0 rfl rfl, ?_⟩ | refine ⟨0, _, _, _, rfl, (by rw [pcells_length]; omega), .inr (by first | decide | exact Nat.zero_le _), ?_⟩ | (refine SCall.mono (x_spec (i := 0) hP rfl hx) ?_; rintro v_ L_ ⟨hv_, hL_⟩; rw [hv_, hL_]; clear hv_ hL_ v_ L_) | refine ⟨_, x_spec (i := 0) hP rfl hx, ?_⟩ | refine ⟨_, fun L0 hl0 => x_spec (i := 0) hP rfl hx, ?_⟩ | (refine SCall.mono (y_spec (i := 0) hP rfl hy) ?_; rintro v_ L_ ⟨hv_, hL_⟩; rw [hv_, hL_]; clear hv_ hL_ v_ L_) | refine ⟨_, y_spec (i := 0) hP rfl hy, ?_⟩ | refine ⟨_, fun L0 hl0 => y_spec (i := 0) hP rfl hy, ?_⟩ | (refine SCall.mono (let_spec hP hx hg.V) ?_; rintro v_ L_ ⟨hv_, hL_⟩; rw [hv_, hL_]; clear hv_ hL_ v_ L_) | refine ⟨_, let_spec hP hx hg.V, ?_⟩ | refine ⟨_, fun L0 hl0 => let_spec hP hx hg.V, ?_⟩ | (refine SCall.mono (skip_spec hP) ?_; rintro v_ L_ ⟨hv_, hL_⟩; rw [hv_, hL_]; clear hv_ hL_ v_ L_) | refine ⟨_, skip_spec hP, ?_⟩ | refine ⟨_, fun L0 hl0 => skip_spec hP, ?_⟩ | (refine SCall.mono (flagged_spec hP hx hg.V) ?_; rintro v_ L_ ⟨hv_, hL_⟩; rw [hv_, hL_]; clear hv_ hL_ v_ L_) | refine ⟨_, flagged_spec hP hx hg.V, ?_⟩ | refine ⟨_, fun L0 hl0 => flagged_spec hP hx hg.V, ?_⟩ | (refine SCall.mono (truth_spec hP _) ?_; rintro v_ L_ ⟨hv_, hL_⟩; rw [hv_, hL_]; clear hv_ hL_ v_ L_) | refine ⟨_, truth_spec hP _, ?_⟩ | refine ⟨_, fun L0 hl0 => truth_spec hP _, ?_⟩ | (refine SCall.mono (down_spec (i := 0) hP rfl hx hg.Vb) ?_; rintro v_ L_ ⟨hv_, hL_⟩; rw [hv_, hL_]; clear hv_ hL_ v_ L_) | refine ⟨_, down_spec (i := 0) hP rfl hx hg.Vb, ?_⟩ | refine ⟨_, fun L0 hl0 => down_spec (i := 0) hP rfl hx hg.Vb, ?_⟩ | (refine SCall.mono (behind_spec hP hx) ?_; rintro v_ L_ ⟨hv_, hL_⟩; rw [hv_, hL_]; clear hv_ hL_ v_ L_) | refine ⟨_, behind_spec hP hx, ?_⟩ | refine ⟨_, fun L0 hl0 => behind_spec hP hx, ?_⟩ | refine And.intro (by omega) ?_ | fail); try (with_reducible refine stI ?_); try simp (maxSteps:=1000000)(dsimp:=false)(disch:=omega) only [go_sem, Φa, hP, hops, hopl])
  refine hK2 _ _ ?_
  try clear hK2 K2
  refine SX.ret ?_
  simp only [andThen_normal, andThen_ret, andThen_exit, inBlk_normal, inBlk_ret, inBlk_exit, Nat.reduceEqDiff, if_true, if_false, ↓reduceIte, retQ_ret]
  try simp only [res0, res1, res2, res3, stK_e, go_sem, Φa, hP]
  refine ⟨_, _, Less.refl _, rfl, rfl, sv, pv, mv, q1, q2, q3, ?_, ?_⟩
  · first | rfl | (unfold skipG vG; simp only [decide_eq_true_eq, Bool.not_eq_true', decide_eq_false_iff_not]; done) | (unfold skipG; simp only [decide_eq_true_eq, Bool.not_eq_true', decide_eq_false_iff_not]; done) | (unfold skipG vG; simp only [decide_eq_true_eq, Bool.not_eq_true', decide_eq_false_iff_not]; rfl)
  · unfold skipG; dsimp only; split <;> exact ⟨hr.st, hr.pg, hr.mm⟩
set_option maxHeartbeats 1000000 in
set_option maxRecDepth 100000 in
theorem skipNot_spec {Γ : Ctx} (hP : Γ.P = Try.prog) {L : Hp} {gp : Nat} {g : GM} {sv pv mv : Value} {o : Ord} {f : Fnt} {fv : Value} {d : Feed} {q1 q2 q3 : Slot} (hg : OkG g) (hr : Rows g sv pv mv q1 q2 q3) (ho : OkO o) (hx : o.x < 16) (hy : o.y < 16) (hd : OkD d) :
    SCall Γ 52 #[(.pointer (some ⟨gp, 0, none⟩))] (PS gp g sv pv mv o f fv d :: q1 :: q2 :: q3 :: L) (mres gp o f fv d L (skipG g (!decide (vG g o.x = (o.b : Int))))) := by
  have hbx := byte_at hg.Vb o.x
  have hby := byte_at hg.Vb o.y
  have hob := ho.b
  have hoa := ho.a
  have hox := ho.x
  have hPCb := hg.PC
  have hIb := hg.I
  have hrb := hd.rnd
  have hkb := hd.keys
  have hdl := hg.dl
  have hsd := hg.sd
  refine SCall.enter (n := 13) (res1 2) (hP ▸ Try.func52) rfl rfl (by simp) (res1_ok rfl) ?_
  refine SX.seq_k fun K1 hK1 => ?_
  refine SX.region_d [some 2] rfl (fun ops hops => ?_)
  unfold Dsts at hops
  simp (maxSteps:=1000000)(dsimp:=false)(disch:=omega) only [go_sem, Φa, hP, hops]
  repeat' ((first | refine ⟨_, Cell.at 0 rfl rfl, ?_⟩ | refine ⟨0, _, _, _, rfl, (by rw [pcells_length]; omega), .inr (by first | decide | exact Nat.zero_le _), ?_⟩ | fail); try (with_reducible refine stI ?_); try simp (maxSteps:=1000000)(dsimp:=false)(disch:=omega) only [go_sem, Φa, hP, hops])
  refine hK1 _ _ ?_
  try clear hK1 K1
  refine SX.seq_k fun K2 hK2 => ?_
  refine SX.drawn_d [(0, .q), (1, .q), (3, .q), (4, .q), (5, .q), (6, .q), (7, .q), (2, .e), (8, .q), (9, .t), (10, .t)] (fun L => L) (hP ▸ T.mixed) (by kernel_rfl) (by exact Less.refl _) [some 3, some 4, some 5, some 6, some 7, some 8, some 9, some 10, some 11, some 12, some 2] rfl (fun ops hops hopl => ?_)
  unfold Dsts at hops
  simp (maxSteps:=1000000)(dsimp:=false)(disch:=omega) only [go_sem, Φa, hP, hops, hopl]
  repeat' ((first | refine ⟨_, Cell.at 0 rfl rfl, ?_⟩ | refine ⟨0, _, _, _, rfl, (by rw [pcells_length]; omega), .inr (by first | decide | exact Nat.zero_le _), ?_⟩ | (refine SCall.mono (x_spec (i := 0) hP rfl hx) ?_; rintro v_ L_ ⟨hv_, hL_⟩; rw [hv_, hL_]; clear hv_ hL_ v_ L_) | refine ⟨_, x_spec (i := 0) hP rfl hx, ?_⟩ | refine ⟨_, fun L0 hl0 => x_spec (i := 0) hP rfl hx, ?_⟩ | (refine SCall.mono (y_spec (i := 0) hP rfl hy) ?_; rintro v_ L_ ⟨hv_, hL_⟩; rw [hv_, hL_]; clear hv_ hL_ v_ L_) | refine ⟨_, y_spec (i := 0) hP rfl hy, ?_⟩ | refine ⟨_, fun L0 hl0 => y_spec (i := 0) hP rfl hy, ?_⟩ | (refine SCall.mono (let_spec hP hx hg.V) ?_; rintro v_ L_ ⟨hv_, hL_⟩; rw [hv_, hL_]; clear hv_ hL_ v_ L_) | refine ⟨_, let_spec hP hx hg.V, ?_⟩ | refine ⟨_, fun L0 hl0 => let_spec hP hx hg.V, ?_⟩ | (refine SCall.mono (skip_spec hP) ?_; rintro v_ L_ ⟨hv_, hL_⟩; rw [hv_, hL_]; clear hv_ hL_ v_ L_) | refine ⟨_, skip_spec hP, ?_⟩ | refine ⟨_, fun L0 hl0 => skip_spec hP, ?_⟩ | (refine SCall.mono (flagged_spec hP hx hg.V) ?_; rintro v_ L_ ⟨hv_, hL_⟩; rw [hv_, hL_]; clear hv_ hL_ v_ L_) | refine ⟨_, flagged_spec hP hx hg.V, ?_⟩ | refine ⟨_, fun L0 hl0 => flagged_spec hP hx hg.V, ?_⟩ | (refine SCall.mono (truth_spec hP _) ?_; rintro v_ L_ ⟨hv_, hL_⟩; rw [hv_, hL_]; clear hv_ hL_ v_ L_) | refine ⟨_, truth_spec hP _, ?_⟩ | refine ⟨_, fun L0 hl0 => truth_spec hP _, ?_⟩ | (refine SCall.mono (down_spec (i := 0) hP rfl hx hg.Vb) ?_; rintro v_ L_ ⟨hv_, hL_⟩; rw [hv_, hL_]; clear hv_ hL_ v_ L_) | refine ⟨_, down_spec (i := 0) hP rfl hx hg.Vb, ?_⟩ | refine ⟨_, fun L0 hl0 => down_spec (i := 0) hP rfl hx hg.Vb, ?_⟩ | (refine SCall.mono (behind_spec hP hx) ?_; rintro v_ L_ ⟨hv_, hL_⟩; rw [hv_, hL_]; clear hv_ hL_ v_ L_) | refine ⟨_, behind_spec hP hx, ?_⟩ | refine ⟨_, fun L0 hl0 => behind_spec hP hx, ?_⟩ | refine And.intro (by omega) ?_ | fail); try (with_reducible refine stI ?_); try simp (maxSteps:=1000000)(dsimp:=false)(disch:=omega) only [go_sem, Φa, hP, hops, hopl])
  refine hK2 _ _ ?_
  try clear hK2 K2
  refine SX.ret ?_
  simp only [andThen_normal, andThen_ret, andThen_exit, inBlk_normal, inBlk_ret, inBlk_exit, Nat.reduceEqDiff, if_true, if_false, ↓reduceIte, retQ_ret]
  try simp only [res0, res1, res2, res3, stK_e, go_sem, Φa, hP]
  refine ⟨_, _, Less.refl _, rfl, rfl, sv, pv, mv, q1, q2, q3, ?_, ?_⟩
  · first | rfl | (unfold skipG vG; simp only [decide_eq_true_eq, Bool.not_eq_true', decide_eq_false_iff_not]; done) | (unfold skipG; simp only [decide_eq_true_eq, Bool.not_eq_true', decide_eq_false_iff_not]; done) | (unfold skipG vG; simp only [decide_eq_true_eq, Bool.not_eq_true', decide_eq_false_iff_not]; rfl)
  · unfold skipG; dsimp only; split <;> exact ⟨hr.st, hr.pg, hr.mm⟩
set_option maxHeartbeats 1000000 in
set_option maxRecDepth 100000 in
theorem skipSame_spec {Γ : Ctx} (hP : Γ.P = Try.prog) {L : Hp} {gp : Nat} {g : GM} {sv pv mv : Value} {o : Ord} {f : Fnt} {fv : Value} {d : Feed} {q1 q2 q3 : Slot} (hg : OkG g) (hr : Rows g sv pv mv q1 q2 q3) (ho : OkO o) (hx : o.x < 16) (hy : o.y < 16) (hd : OkD d) :
    SCall Γ 53 #[(.pointer (some ⟨gp, 0, none⟩))] (PS gp g sv pv mv o f fv d :: q1 :: q2 :: q3 :: L) (mres gp o f fv d L (skipG g (decide (vG g o.x = vG g o.y)))) := by
  have hbx := byte_at hg.Vb o.x
  have hby := byte_at hg.Vb o.y
  have hob := ho.b
  have hoa := ho.a
  have hox := ho.x
  have hPCb := hg.PC
  have hIb := hg.I
  have hrb := hd.rnd
  have hkb := hd.keys
  have hdl := hg.dl
  have hsd := hg.sd
  refine SCall.enter (n := 10) (res1 2) (hP ▸ Try.func53) rfl rfl (by simp) (res1_ok rfl) ?_
  refine SX.seq_k fun K1 hK1 => ?_
  refine SX.region_d [some 2] rfl (fun ops hops => ?_)
  unfold Dsts at hops
  simp (maxSteps:=1000000)(dsimp:=false)(disch:=omega) only [go_sem, Φa, hP, hops]
  repeat' ((first | refine ⟨_, Cell.at 0 rfl rfl, ?_⟩ | refine ⟨0, _, _, _, rfl, (by rw [pcells_length]; omega), .inr (by first | decide | exact Nat.zero_le _), ?_⟩ | fail); try (with_reducible refine stI ?_); try simp (maxSteps:=1000000)(dsimp:=false)(disch:=omega) only [go_sem, Φa, hP, hops])
  refine hK1 _ _ ?_
  try clear hK1 K1
  refine SX.seq_k fun K2 hK2 => ?_
  refine SX.region_d [some 3, some 4, some 5, some 6, some 7, some 8, some 9, some 2] rfl (fun ops hops => ?_)
  unfold Dsts at hops
  simp (maxSteps:=1000000)(dsimp:=false)(disch:=omega) only [go_sem, Φa, hP, hops]
  repeat' ((first | refine ⟨_, Cell.at 0 rfl rfl, ?_⟩ | refine ⟨0, _, _, _, rfl, (by rw [pcells_length]; omega), .inr (by first | decide | exact Nat.zero_le _), ?_⟩ | (refine SCall.mono (x_spec (i := 0) hP rfl hx) ?_; rintro v_ L_ ⟨hv_, hL_⟩; rw [hv_, hL_]; clear hv_ hL_ v_ L_) | refine ⟨_, x_spec (i := 0) hP rfl hx, ?_⟩ | refine ⟨_, fun L0 hl0 => x_spec (i := 0) hP rfl hx, ?_⟩ | (refine SCall.mono (y_spec (i := 0) hP rfl hy) ?_; rintro v_ L_ ⟨hv_, hL_⟩; rw [hv_, hL_]; clear hv_ hL_ v_ L_) | refine ⟨_, y_spec (i := 0) hP rfl hy, ?_⟩ | refine ⟨_, fun L0 hl0 => y_spec (i := 0) hP rfl hy, ?_⟩ | (refine SCall.mono (let_spec hP hx hg.V) ?_; rintro v_ L_ ⟨hv_, hL_⟩; rw [hv_, hL_]; clear hv_ hL_ v_ L_) | refine ⟨_, let_spec hP hx hg.V, ?_⟩ | refine ⟨_, fun L0 hl0 => let_spec hP hx hg.V, ?_⟩ | (refine SCall.mono (skip_spec hP) ?_; rintro v_ L_ ⟨hv_, hL_⟩; rw [hv_, hL_]; clear hv_ hL_ v_ L_) | refine ⟨_, skip_spec hP, ?_⟩ | refine ⟨_, fun L0 hl0 => skip_spec hP, ?_⟩ | (refine SCall.mono (flagged_spec hP hx hg.V) ?_; rintro v_ L_ ⟨hv_, hL_⟩; rw [hv_, hL_]; clear hv_ hL_ v_ L_) | refine ⟨_, flagged_spec hP hx hg.V, ?_⟩ | refine ⟨_, fun L0 hl0 => flagged_spec hP hx hg.V, ?_⟩ | (refine SCall.mono (truth_spec hP _) ?_; rintro v_ L_ ⟨hv_, hL_⟩; rw [hv_, hL_]; clear hv_ hL_ v_ L_) | refine ⟨_, truth_spec hP _, ?_⟩ | refine ⟨_, fun L0 hl0 => truth_spec hP _, ?_⟩ | (refine SCall.mono (down_spec (i := 0) hP rfl hx hg.Vb) ?_; rintro v_ L_ ⟨hv_, hL_⟩; rw [hv_, hL_]; clear hv_ hL_ v_ L_) | refine ⟨_, down_spec (i := 0) hP rfl hx hg.Vb, ?_⟩ | refine ⟨_, fun L0 hl0 => down_spec (i := 0) hP rfl hx hg.Vb, ?_⟩ | (refine SCall.mono (behind_spec hP hx) ?_; rintro v_ L_ ⟨hv_, hL_⟩; rw [hv_, hL_]; clear hv_ hL_ v_ L_) | refine ⟨_, behind_spec hP hx, ?_⟩ | refine ⟨_, fun L0 hl0 => behind_spec hP hx, ?_⟩ | refine And.intro (by omega) ?_ | fail); try (with_reducible refine stI ?_); try simp (maxSteps:=1000000)(dsimp:=false)(disch:=omega) only [go_sem, Φa, hP, hops])
  refine hK2 _ _ ?_
  try clear hK2 K2
  refine SX.ret ?_
  simp only [andThen_normal, andThen_ret, andThen_exit, inBlk_normal, inBlk_ret, inBlk_exit, Nat.reduceEqDiff, if_true, if_false, ↓reduceIte, retQ_ret]
  try simp only [res0, res1, res2, res3, stK_e, go_sem, Φa, hP]
  refine ⟨_, _, Less.refl _, rfl, rfl, sv, pv, mv, q1, q2, q3, ?_, ?_⟩
  · first | rfl | (unfold skipG vG; simp only [decide_eq_true_eq, Bool.not_eq_true', decide_eq_false_iff_not]; done) | (unfold skipG; simp only [decide_eq_true_eq, Bool.not_eq_true', decide_eq_false_iff_not]; done) | (unfold skipG vG; simp only [decide_eq_true_eq, Bool.not_eq_true', decide_eq_false_iff_not]; rfl)
  · unfold skipG; dsimp only; split <;> exact ⟨hr.st, hr.pg, hr.mm⟩
set_option maxHeartbeats 1000000 in
set_option maxRecDepth 100000 in
theorem skipOther_spec {Γ : Ctx} (hP : Γ.P = Try.prog) {L : Hp} {gp : Nat} {g : GM} {sv pv mv : Value} {o : Ord} {f : Fnt} {fv : Value} {d : Feed} {q1 q2 q3 : Slot} (hg : OkG g) (hr : Rows g sv pv mv q1 q2 q3) (ho : OkO o) (hx : o.x < 16) (hy : o.y < 16) (hd : OkD d) :
    SCall Γ 61 #[(.pointer (some ⟨gp, 0, none⟩))] (PS gp g sv pv mv o f fv d :: q1 :: q2 :: q3 :: L) (mres gp o f fv d L (skipG g (!decide (vG g o.x = vG g o.y)))) := by
  have hbx := byte_at hg.Vb o.x
  have hby := byte_at hg.Vb o.y
  have hob := ho.b
  have hoa := ho.a
  have hox := ho.x
  have hPCb := hg.PC
  have hIb := hg.I
  have hrb := hd.rnd
  have hkb := hd.keys
  have hdl := hg.dl
  have hsd := hg.sd
  refine SCall.enter (n := 10) (res1 2) (hP ▸ Try.func61) rfl rfl (by simp) (res1_ok rfl) ?_
  refine SX.seq_k fun K1 hK1 => ?_
  refine SX.region_d [some 2] rfl (fun ops hops => ?_)
  unfold Dsts at hops
  simp (maxSteps:=1000000)(dsimp:=false)(disch:=omega) only [go_sem, Φa, hP, hops]
  repeat' ((first | refine ⟨_, Cell.at 0 rfl rfl, ?_⟩ | refine ⟨0, _, _, _, rfl, (by rw [pcells_length]; omega), .inr (by first | decide | exact Nat.zero_le _), ?_⟩ | fail); try (with_reducible refine stI ?_); try simp (maxSteps:=1000000)(dsimp:=false)(disch:=omega) only [go_sem, Φa, hP, hops])
  refine hK1 _ _ ?_
  try clear hK1 K1
  refine SX.seq_k fun K2 hK2 => ?_
  refine SX.region_d [some 3, some 4, some 5, some 6, some 7, some 8, some 9, some 2] rfl (fun ops hops => ?_)
  unfold Dsts at hops
  simp (maxSteps:=1000000)(dsimp:=false)(disch:=omega) only [go_sem, Φa, hP, hops]
  repeat' ((first | refine ⟨_, Cell.at 0 rfl rfl, ?_⟩ | refine ⟨0, _, _, _, rfl, (by rw [pcells_length]; omega), .inr (by first | decide | exact Nat.zero_le _), ?_⟩ | (refine SCall.mono (x_spec (i := 0) hP rfl hx) ?_; rintro v_ L_ ⟨hv_, hL_⟩; rw [hv_, hL_]; clear hv_ hL_ v_ L_) | refine ⟨_, x_spec (i := 0) hP rfl hx, ?_⟩ | refine ⟨_, fun L0 hl0 => x_spec (i := 0) hP rfl hx, ?_⟩ | (refine SCall.mono (y_spec (i := 0) hP rfl hy) ?_; rintro v_ L_ ⟨hv_, hL_⟩; rw [hv_, hL_]; clear hv_ hL_ v_ L_) | refine ⟨_, y_spec (i := 0) hP rfl hy, ?_⟩ | refine ⟨_, fun L0 hl0 => y_spec (i := 0) hP rfl hy, ?_⟩ | (refine SCall.mono (let_spec hP hx hg.V) ?_; rintro v_ L_ ⟨hv_, hL_⟩; rw [hv_, hL_]; clear hv_ hL_ v_ L_) | refine ⟨_, let_spec hP hx hg.V, ?_⟩ | refine ⟨_, fun L0 hl0 => let_spec hP hx hg.V, ?_⟩ | (refine SCall.mono (skip_spec hP) ?_; rintro v_ L_ ⟨hv_, hL_⟩; rw [hv_, hL_]; clear hv_ hL_ v_ L_) | refine ⟨_, skip_spec hP, ?_⟩ | refine ⟨_, fun L0 hl0 => skip_spec hP, ?_⟩ | (refine SCall.mono (flagged_spec hP hx hg.V) ?_; rintro v_ L_ ⟨hv_, hL_⟩; rw [hv_, hL_]; clear hv_ hL_ v_ L_) | refine ⟨_, flagged_spec hP hx hg.V, ?_⟩ | refine ⟨_, fun L0 hl0 => flagged_spec hP hx hg.V, ?_⟩ | (refine SCall.mono (truth_spec hP _) ?_; rintro v_ L_ ⟨hv_, hL_⟩; rw [hv_, hL_]; clear hv_ hL_ v_ L_) | refine ⟨_, truth_spec hP _, ?_⟩ | refine ⟨_, fun L0 hl0 => truth_spec hP _, ?_⟩ | (refine SCall.mono (down_spec (i := 0) hP rfl hx hg.Vb) ?_; rintro v_ L_ ⟨hv_, hL_⟩; rw [hv_, hL_]; clear hv_ hL_ v_ L_) | refine ⟨_, down_spec (i := 0) hP rfl hx hg.Vb, ?_⟩ | refine ⟨_, fun L0 hl0 => down_spec (i := 0) hP rfl hx hg.Vb, ?_⟩ | (refine SCall.mono (behind_spec hP hx) ?_; rintro v_ L_ ⟨hv_, hL_⟩; rw [hv_, hL_]; clear hv_ hL_ v_ L_) | refine ⟨_, behind_spec hP hx, ?_⟩ | refine ⟨_, fun L0 hl0 => behind_spec hP hx, ?_⟩ | refine And.intro (by omega) ?_ | fail); try (with_reducible refine stI ?_); try simp (maxSteps:=1000000)(dsimp:=false)(disch:=omega) only [go_sem, Φa, hP, hops])
  refine hK2 _ _ ?_
  try clear hK2 K2
  refine SX.ret ?_
  simp only [andThen_normal, andThen_ret, andThen_exit, inBlk_normal, inBlk_ret, inBlk_exit, Nat.reduceEqDiff, if_true, if_false, ↓reduceIte, retQ_ret]
  try simp only [res0, res1, res2, res3, stK_e, go_sem, Φa, hP]
  refine ⟨_, _, Less.refl _, rfl, rfl, sv, pv, mv, q1, q2, q3, ?_, ?_⟩
  · first | rfl | (unfold skipG vG; simp only [decide_eq_true_eq, Bool.not_eq_true', decide_eq_false_iff_not]; done) | (unfold skipG; simp only [decide_eq_true_eq, Bool.not_eq_true', decide_eq_false_iff_not]; done) | (unfold skipG vG; simp only [decide_eq_true_eq, Bool.not_eq_true', decide_eq_false_iff_not]; rfl)
  · unfold skipG; dsimp only; split <;> exact ⟨hr.st, hr.pg, hr.mm⟩
set_option maxHeartbeats 1000000 in
set_option maxRecDepth 100000 in
theorem skipDown_spec {Γ : Ctx} (hP : Γ.P = Try.prog) {L : Hp} {gp : Nat} {g : GM} {sv pv mv : Value} {o : Ord} {f : Fnt} {fv : Value} {d : Feed} {q1 q2 q3 : Slot} (hg : OkG g) (hr : Rows g sv pv mv q1 q2 q3) (ho : OkO o) (hx : o.x < 16) (hy : o.y < 16) (hd : OkD d) :
    SCall Γ 66 #[(.pointer (some ⟨gp, 0, none⟩))] (PS gp g sv pv mv o f fv d :: q1 :: q2 :: q3 :: L) (mres gp o f fv d L (skipG g (downG g o d))) := by
  have hbx := byte_at hg.Vb o.x
  have hby := byte_at hg.Vb o.y
  have hob := ho.b
  have hoa := ho.a
  have hox := ho.x
  have hPCb := hg.PC
  have hIb := hg.I
  have hrb := hd.rnd
  have hkb := hd.keys
  have hdl := hg.dl
  have hsd := hg.sd
  refine SCall.enter (n := 7) (res1 2) (hP ▸ Try.func66) rfl rfl (by simp) (res1_ok rfl) ?_
  refine SX.seq_k fun K1 hK1 => ?_
  refine SX.region_d [some 2] rfl (fun ops hops => ?_)
  unfold Dsts at hops
  simp (maxSteps:=1000000)(dsimp:=false)(disch:=omega) only [go_sem, Φa, hP, hops]
  repeat' ((first | refine ⟨_, Cell.at 0 rfl rfl, ?_⟩ | refine ⟨0, _, _, _, rfl, (by rw [pcells_length]; omega), .inr (by first | decide | exact Nat.zero_le _), ?_⟩ | fail); try (with_reducible refine stI ?_); try simp (maxSteps:=1000000)(dsimp:=false)(disch:=omega) only [go_sem, Φa, hP, hops])
  refine hK1 _ _ ?_
  try clear hK1 K1
  refine SX.seq_k fun K2 hK2 => ?_
  refine SX.region_d [some 3, some 4, some 5, some 6, some 2] rfl (fun ops hops => ?_)
  unfold Dsts at hops
  simp (maxSteps:=1000000)(dsimp:=false)(disch:=omega) only [go_sem, Φa, hP, hops]
  repeat' ((first | refine ⟨_, Cell.at 0 rfl rfl, ?_⟩ | refine ⟨0, _, _, _, rfl, (by rw [pcells_length]; omega), .inr (by first | decide | exact Nat.zero_le _), ?_⟩ | (refine SCall.mono (x_spec (i := 0) hP rfl hx) ?_; rintro v_ L_ ⟨hv_, hL_⟩; rw [hv_, hL_]; clear hv_ hL_ v_ L_) | refine ⟨_, x_spec (i := 0) hP rfl hx, ?_⟩ | refine ⟨_, fun L0 hl0 => x_spec (i := 0) hP rfl hx, ?_⟩ | (refine SCall.mono (y_spec (i := 0) hP rfl hy) ?_; rintro v_ L_ ⟨hv_, hL_⟩; rw [hv_, hL_]; clear hv_ hL_ v_ L_) | refine ⟨_, y_spec (i := 0) hP rfl hy, ?_⟩ | refine ⟨_, fun L0 hl0 => y_spec (i := 0) hP rfl hy, ?_⟩ | (refine SCall.mono (let_spec hP hx hg.V) ?_; rintro v_ L_ ⟨hv_, hL_⟩; rw [hv_, hL_]; clear hv_ hL_ v_ L_) | refine ⟨_, let_spec hP hx hg.V, ?_⟩ | refine ⟨_, fun L0 hl0 => let_spec hP hx hg.V, ?_⟩ | (refine SCall.mono (skip_spec hP) ?_; rintro v_ L_ ⟨hv_, hL_⟩; rw [hv_, hL_]; clear hv_ hL_ v_ L_) | refine ⟨_, skip_spec hP, ?_⟩ | refine ⟨_, fun L0 hl0 => skip_spec hP, ?_⟩ | (refine SCall.mono (flagged_spec hP hx hg.V) ?_; rintro v_ L_ ⟨hv_, hL_⟩; rw [hv_, hL_]; clear hv_ hL_ v_ L_) | refine ⟨_, flagged_spec hP hx hg.V, ?_⟩ | refine ⟨_, fun L0 hl0 => flagged_spec hP hx hg.V, ?_⟩ | (refine SCall.mono (truth_spec hP _) ?_; rintro v_ L_ ⟨hv_, hL_⟩; rw [hv_, hL_]; clear hv_ hL_ v_ L_) | refine ⟨_, truth_spec hP _, ?_⟩ | refine ⟨_, fun L0 hl0 => truth_spec hP _, ?_⟩ | (refine SCall.mono (down_spec (i := 0) hP rfl hx hg.Vb) ?_; rintro v_ L_ ⟨hv_, hL_⟩; rw [hv_, hL_]; clear hv_ hL_ v_ L_) | refine ⟨_, down_spec (i := 0) hP rfl hx hg.Vb, ?_⟩ | refine ⟨_, fun L0 hl0 => down_spec (i := 0) hP rfl hx hg.Vb, ?_⟩ | (refine SCall.mono (behind_spec hP hx) ?_; rintro v_ L_ ⟨hv_, hL_⟩; rw [hv_, hL_]; clear hv_ hL_ v_ L_) | refine ⟨_, behind_spec hP hx, ?_⟩ | refine ⟨_, fun L0 hl0 => behind_spec hP hx, ?_⟩ | refine And.intro (by omega) ?_ | fail); try (with_reducible refine stI ?_); try simp (maxSteps:=1000000)(dsimp:=false)(disch:=omega) only [go_sem, Φa, hP, hops])
  refine hK2 _ _ ?_
  try clear hK2 K2
  refine SX.ret ?_
  simp only [andThen_normal, andThen_ret, andThen_exit, inBlk_normal, inBlk_ret, inBlk_exit, Nat.reduceEqDiff, if_true, if_false, ↓reduceIte, retQ_ret]
  try simp only [res0, res1, res2, res3, stK_e, go_sem, Φa, hP]
  refine ⟨_, _, Less.refl _, rfl, rfl, sv, pv, mv, q1, q2, q3, ?_, ?_⟩
  · first | rfl | (unfold skipG vG; simp only [decide_eq_true_eq, Bool.not_eq_true', decide_eq_false_iff_not]; done) | (unfold skipG; simp only [decide_eq_true_eq, Bool.not_eq_true', decide_eq_false_iff_not]; done) | (unfold skipG vG; simp only [decide_eq_true_eq, Bool.not_eq_true', decide_eq_false_iff_not]; rfl)
  · unfold skipG; dsimp only; split <;> exact ⟨hr.st, hr.pg, hr.mm⟩
set_option maxHeartbeats 1000000 in
set_option maxRecDepth 100000 in
theorem skipUp_spec {Γ : Ctx} (hP : Γ.P = Try.prog) {L : Hp} {gp : Nat} {g : GM} {sv pv mv : Value} {o : Ord} {f : Fnt} {fv : Value} {d : Feed} {q1 q2 q3 : Slot} (hg : OkG g) (hr : Rows g sv pv mv q1 q2 q3) (ho : OkO o) (hx : o.x < 16) (hy : o.y < 16) (hd : OkD d) :
    SCall Γ 67 #[(.pointer (some ⟨gp, 0, none⟩))] (PS gp g sv pv mv o f fv d :: q1 :: q2 :: q3 :: L) (mres gp o f fv d L (skipG g (!downG g o d))) := by
  have hbx := byte_at hg.Vb o.x
  have hby := byte_at hg.Vb o.y
  have hob := ho.b
  have hoa := ho.a
  have hox := ho.x
  have hPCb := hg.PC
  have hIb := hg.I
  have hrb := hd.rnd
  have hkb := hd.keys
  have hdl := hg.dl
  have hsd := hg.sd
  refine SCall.enter (n := 8) (res1 2) (hP ▸ Try.func67) rfl rfl (by simp) (res1_ok rfl) ?_
  refine SX.seq_k fun K1 hK1 => ?_
  refine SX.region_d [some 2] rfl (fun ops hops => ?_)
  unfold Dsts at hops
  simp (maxSteps:=1000000)(dsimp:=false)(disch:=omega) only [go_sem, Φa, hP, hops]
  repeat' ((first | refine ⟨_, Cell.at 0 rfl rfl, ?_⟩ | refine ⟨0, _, _, _, rfl, (by rw [pcells_length]; omega), .inr (by first | decide | exact Nat.zero_le _), ?_⟩ | fail); try (with_reducible refine stI ?_); try simp (maxSteps:=1000000)(dsimp:=false)(disch:=omega) only [go_sem, Φa, hP, hops])
  refine hK1 _ _ ?_
  try clear hK1 K1
  refine SX.seq_k fun K2 hK2 => ?_
  refine SX.region_d [some 3, some 4, some 5, some 6, some 7, some 2] rfl (fun ops hops => ?_)
  unfold Dsts at hops
  simp (maxSteps:=1000000)(dsimp:=false)(disch:=omega) only [go_sem, Φa, hP, hops]
  repeat' ((first | refine ⟨_, Cell.at 0 rfl rfl, ?_⟩ | refine ⟨0, _, _, _, rfl, (by rw [pcells_length]; omega), .inr (by first | decide | exact Nat.zero_le _), ?_⟩ | (refine SCall.mono (x_spec (i := 0) hP rfl hx) ?_; rintro v_ L_ ⟨hv_, hL_⟩; rw [hv_, hL_]; clear hv_ hL_ v_ L_) | refine ⟨_, x_spec (i := 0) hP rfl hx, ?_⟩ | refine ⟨_, fun L0 hl0 => x_spec (i := 0) hP rfl hx, ?_⟩ | (refine SCall.mono (y_spec (i := 0) hP rfl hy) ?_; rintro v_ L_ ⟨hv_, hL_⟩; rw [hv_, hL_]; clear hv_ hL_ v_ L_) | refine ⟨_, y_spec (i := 0) hP rfl hy, ?_⟩ | refine ⟨_, fun L0 hl0 => y_spec (i := 0) hP rfl hy, ?_⟩ | (refine SCall.mono (let_spec hP hx hg.V) ?_; rintro v_ L_ ⟨hv_, hL_⟩; rw [hv_, hL_]; clear hv_ hL_ v_ L_) | refine ⟨_, let_spec hP hx hg.V, ?_⟩ | refine ⟨_, fun L0 hl0 => let_spec hP hx hg.V, ?_⟩ | (refine SCall.mono (skip_spec hP) ?_; rintro v_ L_ ⟨hv_, hL_⟩; rw [hv_, hL_]; clear hv_ hL_ v_ L_) | refine ⟨_, skip_spec hP, ?_⟩ | refine ⟨_, fun L0 hl0 => skip_spec hP, ?_⟩ | (refine SCall.mono (flagged_spec hP hx hg.V) ?_; rintro v_ L_ ⟨hv_, hL_⟩; rw [hv_, hL_]; clear hv_ hL_ v_ L_) | refine ⟨_, flagged_spec hP hx hg.V, ?_⟩ | refine ⟨_, fun L0 hl0 => flagged_spec hP hx hg.V, ?_⟩ | (refine SCall.mono (truth_spec hP _) ?_; rintro v_ L_ ⟨hv_, hL_⟩; rw [hv_, hL_]; clear hv_ hL_ v_ L_) | refine ⟨_, truth_spec hP _, ?_⟩ | refine ⟨_, fun L0 hl0 => truth_spec hP _, ?_⟩ | (refine SCall.mono (down_spec (i := 0) hP rfl hx hg.Vb) ?_; rintro v_ L_ ⟨hv_, hL_⟩; rw [hv_, hL_]; clear hv_ hL_ v_ L_) | refine ⟨_, down_spec (i := 0) hP rfl hx hg.Vb, ?_⟩ | refine ⟨_, fun L0 hl0 => down_spec (i := 0) hP rfl hx hg.Vb, ?_⟩ | (refine SCall.mono (behind_spec hP hx) ?_; rintro v_ L_ ⟨hv_, hL_⟩; rw [hv_, hL_]; clear hv_ hL_ v_ L_) | refine ⟨_, behind_spec hP hx, ?_⟩ | refine ⟨_, fun L0 hl0 => behind_spec hP hx, ?_⟩ | refine And.intro (by omega) ?_ | fail); try (with_reducible refine stI ?_); try simp (maxSteps:=1000000)(dsimp:=false)(disch:=omega) only [go_sem, Φa, hP, hops])
  refine hK2 _ _ ?_
  try clear hK2 K2
  refine SX.ret ?_
  simp only [andThen_normal, andThen_ret, andThen_exit, inBlk_normal, inBlk_ret, inBlk_exit, Nat.reduceEqDiff, if_true, if_false, ↓reduceIte, retQ_ret]
  try simp only [res0, res1, res2, res3, stK_e, go_sem, Φa, hP]
  refine ⟨_, _, Less.refl _, rfl, rfl, sv, pv, mv, q1, q2, q3, ?_, ?_⟩
  · first | rfl | (unfold skipG vG; simp only [decide_eq_true_eq, Bool.not_eq_true', decide_eq_false_iff_not]; done) | (unfold skipG; simp only [decide_eq_true_eq, Bool.not_eq_true', decide_eq_false_iff_not]; done) | (unfold skipG vG; simp only [decide_eq_true_eq, Bool.not_eq_true', decide_eq_false_iff_not]; rfl)
  · unfold skipG; dsimp only; split <;> exact ⟨hr.st, hr.pg, hr.mm⟩
set_option maxHeartbeats 1000000 in
set_option maxRecDepth 100000 in
theorem set_spec {Γ : Ctx} (hP : Γ.P = Try.prog) {L : Hp} {gp : Nat} {g : GM} {sv pv mv : Value} {o : Ord} {f : Fnt} {fv : Value} {d : Feed} {q1 q2 q3 : Slot} (hg : OkG g) (hr : Rows g sv pv mv q1 q2 q3) (ho : OkO o) (hx : o.x < 16) (hy : o.y < 16) (hd : OkD d) :
    SCall Γ 54 #[(.pointer (some ⟨gp, 0, none⟩))] (PS gp g sv pv mv o f fv d :: q1 :: q2 :: q3 :: L) (mres gp o f fv d L (letG g o (o.b : Int))) := by
  have hbx := byte_at hg.Vb o.x
  have hby := byte_at hg.Vb o.y
  have hob := ho.b
  have hoa := ho.a
  have hox := ho.x
  have hPCb := hg.PC
  have hIb := hg.I
  have hrb := hd.rnd
  have hkb := hd.keys
  have hdl := hg.dl
  have hsd := hg.sd
  refine SCall.enter (n := 10) (res1 2) (hP ▸ Try.func54) rfl rfl (by simp) (res1_ok rfl) ?_
  refine SX.seq_k fun K1 hK1 => ?_
  refine SX.region_d [some 2] rfl (fun ops hops => ?_)
  unfold Dsts at hops
  simp (maxSteps:=1000000)(dsimp:=false)(disch:=omega) only [go_sem, Φa, hP, hops]
  repeat' ((first | refine ⟨_, Cell.at 0 rfl rfl, ?_⟩ | refine ⟨0, _, _, _, rfl, (by rw [pcells_length]; omega), .inr (by first | decide | exact Nat.zero_le _), ?_⟩ | fail); try (with_reducible refine stI ?_); try simp (maxSteps:=1000000)(dsimp:=false)(disch:=omega) only [go_sem, Φa, hP, hops])
  refine hK1 _ _ ?_
  try clear hK1 K1
  refine SX.seq_k fun K2 hK2 => ?_
  refine SX.region_d [some 3, some 4, some 5, some 6, some 7, some 8, some 9] rfl (fun ops hops => ?_)
  unfold Dsts at hops
  simp (maxSteps:=1000000)(dsimp:=false)(disch:=omega) only [go_sem, Φa, hP, hops]
  repeat' ((first | refine ⟨_, Cell.at 0 rfl rfl, ?_⟩ | refine ⟨0, _, _, _, rfl, (by rw [pcells_length]; omega), .inr (by first | decide | exact Nat.zero_le _), ?_⟩ | (refine SCall.mono (x_spec (i := 0) hP rfl hx) ?_; rintro v_ L_ ⟨hv_, hL_⟩; rw [hv_, hL_]; clear hv_ hL_ v_ L_) | refine ⟨_, x_spec (i := 0) hP rfl hx, ?_⟩ | refine ⟨_, fun L0 hl0 => x_spec (i := 0) hP rfl hx, ?_⟩ | (refine SCall.mono (y_spec (i := 0) hP rfl hy) ?_; rintro v_ L_ ⟨hv_, hL_⟩; rw [hv_, hL_]; clear hv_ hL_ v_ L_) | refine ⟨_, y_spec (i := 0) hP rfl hy, ?_⟩ | refine ⟨_, fun L0 hl0 => y_spec (i := 0) hP rfl hy, ?_⟩ | (refine SCall.mono (let_spec hP hx hg.V) ?_; rintro v_ L_ ⟨hv_, hL_⟩; rw [hv_, hL_]; clear hv_ hL_ v_ L_) | refine ⟨_, let_spec hP hx hg.V, ?_⟩ | refine ⟨_, fun L0 hl0 => let_spec hP hx hg.V, ?_⟩ | (refine SCall.mono (skip_spec hP) ?_; rintro v_ L_ ⟨hv_, hL_⟩; rw [hv_, hL_]; clear hv_ hL_ v_ L_) | refine ⟨_, skip_spec hP, ?_⟩ | refine ⟨_, fun L0 hl0 => skip_spec hP, ?_⟩ | (refine SCall.mono (flagged_spec hP hx hg.V) ?_; rintro v_ L_ ⟨hv_, hL_⟩; rw [hv_, hL_]; clear hv_ hL_ v_ L_) | refine ⟨_, flagged_spec hP hx hg.V, ?_⟩ | refine ⟨_, fun L0 hl0 => flagged_spec hP hx hg.V, ?_⟩ | (refine SCall.mono (truth_spec hP _) ?_; rintro v_ L_ ⟨hv_, hL_⟩; rw [hv_, hL_]; clear hv_ hL_ v_ L_) | refine ⟨_, truth_spec hP _, ?_⟩ | refine ⟨_, fun L0 hl0 => truth_spec hP _, ?_⟩ | (refine SCall.mono (down_spec (i := 0) hP rfl hx hg.Vb) ?_; rintro v_ L_ ⟨hv_, hL_⟩; rw [hv_, hL_]; clear hv_ hL_ v_ L_) | refine ⟨_, down_spec (i := 0) hP rfl hx hg.Vb, ?_⟩ | refine ⟨_, fun L0 hl0 => down_spec (i := 0) hP rfl hx hg.Vb, ?_⟩ | (refine SCall.mono (behind_spec hP hx) ?_; rintro v_ L_ ⟨hv_, hL_⟩; rw [hv_, hL_]; clear hv_ hL_ v_ L_) | refine ⟨_, behind_spec hP hx, ?_⟩ | refine ⟨_, fun L0 hl0 => behind_spec hP hx, ?_⟩ | refine And.intro (by omega) ?_ | fail); try (with_reducible refine stI ?_); try simp (maxSteps:=1000000)(dsimp:=false)(disch:=omega) only [go_sem, Φa, hP, hops])
  refine hK2 _ _ ?_
  try clear hK2 K2
  refine SX.seq_k fun K3 hK3 => ?_
  refine SX.region_d [some 2] rfl (fun ops hops => ?_)
  unfold Dsts at hops
  simp (maxSteps:=1000000)(dsimp:=false)(disch:=omega) only [go_sem, Φa, hP, hops]
  repeat' ((first | refine ⟨_, Cell.at 0 rfl rfl, ?_⟩ | refine ⟨0, _, _, _, rfl, (by rw [pcells_length]; omega), .inr (by first | decide | exact Nat.zero_le _), ?_⟩ | fail); try (with_reducible refine stI ?_); try simp (maxSteps:=1000000)(dsimp:=false)(disch:=omega) only [go_sem, Φa, hP, hops])
  refine hK3 _ _ ?_
  try clear hK3 K3
  refine SX.ret ?_
  simp only [andThen_normal, andThen_ret, andThen_exit, inBlk_normal, inBlk_ret, inBlk_exit, Nat.reduceEqDiff, if_true, if_false, ↓reduceIte, retQ_ret]
  try simp only [res0, res1, res2, res3, stK_e, go_sem, Φa, hP]
  exact ⟨_, _, Less.refl _, rfl, rfl, sv, pv, mv, q1, q2, q3, rfl, ⟨hr.st, hr.pg, hr.mm⟩⟩
set_option maxHeartbeats 1000000 in
set_option maxRecDepth 100000 in
theorem add_spec {Γ : Ctx} (hP : Γ.P = Try.prog) {L : Hp} {gp : Nat} {g : GM} {sv pv mv : Value} {o : Ord} {f : Fnt} {fv : Value} {d : Feed} {q1 q2 q3 : Slot} (hg : OkG g) (hr : Rows g sv pv mv q1 q2 q3) (ho : OkO o) (hx : o.x < 16) (hy : o.y < 16) (hd : OkD d) :
    SCall Γ 55 #[(.pointer (some ⟨gp, 0, none⟩))] (PS gp g sv pv mv o f fv d :: q1 :: q2 :: q3 :: L) (mres gp o f fv d L (letG g o (IntKind.u8.wrap (vG g o.x + (o.b : Int))))) := by
  have hbx := byte_at hg.Vb o.x
  have hby := byte_at hg.Vb o.y
  have hob := ho.b
  have hoa := ho.a
  have hox := ho.x
  have hPCb := hg.PC
  have hIb := hg.I
  have hrb := hd.rnd
  have hkb := hd.keys
  have hdl := hg.dl
  have hsd := hg.sd
  refine SCall.enter (n := 13) (res1 2) (hP ▸ Try.func55) rfl rfl (by simp) (res1_ok rfl) ?_
  refine SX.seq_k fun K1 hK1 => ?_
  refine SX.region_d [some 2] rfl (fun ops hops => ?_)
  unfold Dsts at hops
  simp (maxSteps:=1000000)(dsimp:=false)(disch:=omega) only [go_sem, Φa, hP, hops]
  repeat' ((first | refine ⟨_, Cell.at 0 rfl rfl, ?_⟩ | refine ⟨0, _, _, _, rfl, (by rw [pcells_length]; omega), .inr (by first | decide | exact Nat.zero_le _), ?_⟩ | fail); try (with_reducible refine stI ?_); try simp (maxSteps:=1000000)(dsimp:=false)(disch:=omega) only [go_sem, Φa, hP, hops])
  refine hK1 _ _ ?_
  try clear hK1 K1
  refine SX.seq_k fun K2 hK2 => ?_
  refine SX.drawn_d [(0, .q), (1, .q), (3, .q), (4, .q), (5, .q), (6, .q), (7, .q), (2, .e), (8, .q), (9, .t)] (fun L => L) (hP ▸ T.mixed) (by kernel_rfl) (by exact Less.refl _) [some 3, some 4, some 5, some 6, some 7, some 8, some 9, some 10, some 11, some 12] rfl (fun ops hops hopl => ?_)
  unfold Dsts at hops
  simp (maxSteps:=1000000)(dsimp:=false)(disch:=omega) only [go_sem, Φa, hP, hops, hopl]
  repeat' ((first | refine ⟨_, Cell.at 0 rfl rfl, ?_⟩ | refine ⟨0, _, _, _, rfl, (by rw [pcells_length]; omega), .inr (by first | decide | exact Nat.zero_le _), ?_⟩ | (refine SCall.mono (x_spec (i := 0) hP rfl hx) ?_; rintro v_ L_ ⟨hv_, hL_⟩; rw [hv_, hL_]; clear hv_ hL_ v_ L_) | refine ⟨_, x_spec (i := 0) hP rfl hx, ?_⟩ | refine ⟨_, fun L0 hl0 => x_spec (i := 0) hP rfl hx, ?_⟩ | (refine SCall.mono (y_spec (i := 0) hP rfl hy) ?_; rintro v_ L_ ⟨hv_, hL_⟩; rw [hv_, hL_]; clear hv_ hL_ v_ L_) | refine ⟨_, y_spec (i := 0) hP rfl hy, ?_⟩ | refine ⟨_, fun L0 hl0 => y_spec (i := 0) hP rfl hy, ?_⟩ | (refine SCall.mono (let_spec hP hx hg.V) ?_; rintro v_ L_ ⟨hv_, hL_⟩; rw [hv_, hL_]; clear hv_ hL_ v_ L_) | refine ⟨_, let_spec hP hx hg.V, ?_⟩ | refine ⟨_, fun L0 hl0 => let_spec hP hx hg.V, ?_⟩ | (refine SCall.mono (skip_spec hP) ?_; rintro v_ L_ ⟨hv_, hL_⟩; rw [hv_, hL_]; clear hv_ hL_ v_ L_) | refine ⟨_, skip_spec hP, ?_⟩ | refine ⟨_, fun L0 hl0 => skip_spec hP, ?_⟩ | (refine SCall.mono (flagged_spec hP hx hg.V) ?_; rintro v_ L_ ⟨hv_, hL_⟩; rw [hv_, hL_]; clear hv_ hL_ v_ L_) | refine ⟨_, flagged_spec hP hx hg.V, ?_⟩ | refine ⟨_, fun L0 hl0 => flagged_spec hP hx hg.V, ?_⟩ | (refine SCall.mono (truth_spec hP _) ?_; rintro v_ L_ ⟨hv_, hL_⟩; rw [hv_, hL_]; clear hv_ hL_ v_ L_) | refine ⟨_, truth_spec hP _, ?_⟩ | refine ⟨_, fun L0 hl0 => truth_spec hP _, ?_⟩ | (refine SCall.mono (down_spec (i := 0) hP rfl hx hg.Vb) ?_; rintro v_ L_ ⟨hv_, hL_⟩; rw [hv_, hL_]; clear hv_ hL_ v_ L_) | refine ⟨_, down_spec (i := 0) hP rfl hx hg.Vb, ?_⟩ | refine ⟨_, fun L0 hl0 => down_spec (i := 0) hP rfl hx hg.Vb, ?_⟩ | (refine SCall.mono (behind_spec hP hx) ?_; rintro v_ L_ ⟨hv_, hL_⟩; rw [hv_, hL_]; clear hv_ hL_ v_ L_) | refine ⟨_, behind_spec hP hx, ?_⟩ | refine ⟨_, fun L0 hl0 => behind_spec hP hx, ?_⟩ | refine And.intro (by omega) ?_ | fail); try (with_reducible refine stI ?_); try simp (maxSteps:=1000000)(dsimp:=false)(disch:=omega) only [go_sem, Φa, hP, hops, hopl])
  refine hK2 _ _ ?_
  try clear hK2 K2
  refine SX.live [] (fun T1 hT1 => ?_)
  clear hT1
  refine SX.seq_k fun K3 hK3 => ?_
  refine SX.region_d [some 2] rfl (fun ops hops => ?_)
  unfold Dsts at hops
  simp (maxSteps:=1000000)(dsimp:=false)(disch:=omega) only [go_sem, Φa, hP, hops]
  repeat' ((first | refine ⟨_, Cell.at 0 rfl rfl, ?_⟩ | refine ⟨0, _, _, _, rfl, (by rw [pcells_length]; omega), .inr (by first | decide | exact Nat.zero_le _), ?_⟩ | fail); try (with_reducible refine stI ?_); try simp (maxSteps:=1000000)(dsimp:=false)(disch:=omega) only [go_sem, Φa, hP, hops])
  refine hK3 _ _ ?_
  try clear hK3 K3
  refine SX.ret ?_
  simp only [andThen_normal, andThen_ret, andThen_exit, inBlk_normal, inBlk_ret, inBlk_exit, Nat.reduceEqDiff, if_true, if_false, ↓reduceIte, retQ_ret]
  try simp only [res0, res1, res2, res3, stK_e, go_sem, Φa, hP]
  exact ⟨_, _, Less.refl _, rfl, rfl, sv, pv, mv, q1, q2, q3, rfl, ⟨hr.st, hr.pg, hr.mm⟩⟩
set_option maxHeartbeats 1000000 in
set_option maxRecDepth 100000 in
theorem move_spec {Γ : Ctx} (hP : Γ.P = Try.prog) {L : Hp} {gp : Nat} {g : GM} {sv pv mv : Value} {o : Ord} {f : Fnt} {fv : Value} {d : Feed} {q1 q2 q3 : Slot} (hg : OkG g) (hr : Rows g sv pv mv q1 q2 q3) (ho : OkO o) (hx : o.x < 16) (hy : o.y < 16) (hd : OkD d) :
    SCall Γ 56 #[(.pointer (some ⟨gp, 0, none⟩))] (PS gp g sv pv mv o f fv d :: q1 :: q2 :: q3 :: L) (mres gp o f fv d L (letG g o (vG g o.y))) := by
  have hbx := byte_at hg.Vb o.x
  have hby := byte_at hg.Vb o.y
  have hob := ho.b
  have hoa := ho.a
  have hox := ho.x
  have hPCb := hg.PC
  have hIb := hg.I
  have hrb := hd.rnd
  have hkb := hd.keys
  have hdl := hg.dl
  have hsd := hg.sd
  refine SCall.enter (n := 7) (res1 2) (hP ▸ Try.func56) rfl rfl (by simp) (res1_ok rfl) ?_
  refine SX.seq_k fun K1 hK1 => ?_
  refine SX.region_d [some 2] rfl (fun ops hops => ?_)
  unfold Dsts at hops
  simp (maxSteps:=1000000)(dsimp:=false)(disch:=omega) only [go_sem, Φa, hP, hops]
  repeat' ((first | refine ⟨_, Cell.at 0 rfl rfl, ?_⟩ | refine ⟨0, _, _, _, rfl, (by rw [pcells_length]; omega), .inr (by first | decide | exact Nat.zero_le _), ?_⟩ | fail); try (with_reducible refine stI ?_); try simp (maxSteps:=1000000)(dsimp:=false)(disch:=omega) only [go_sem, Φa, hP, hops])
  refine hK1 _ _ ?_
  try clear hK1 K1
  refine SX.seq_k fun K2 hK2 => ?_
  refine SX.region_d [some 3, some 4, some 5, some 6] rfl (fun ops hops => ?_)
  unfold Dsts at hops
  simp (maxSteps:=1000000)(dsimp:=false)(disch:=omega) only [go_sem, Φa, hP, hops]
  repeat' ((first | refine ⟨_, Cell.at 0 rfl rfl, ?_⟩ | refine ⟨0, _, _, _, rfl, (by rw [pcells_length]; omega), .inr (by first | decide | exact Nat.zero_le _), ?_⟩ | (refine SCall.mono (x_spec (i := 0) hP rfl hx) ?_; rintro v_ L_ ⟨hv_, hL_⟩; rw [hv_, hL_]; clear hv_ hL_ v_ L_) | refine ⟨_, x_spec (i := 0) hP rfl hx, ?_⟩ | refine ⟨_, fun L0 hl0 => x_spec (i := 0) hP rfl hx, ?_⟩ | (refine SCall.mono (y_spec (i := 0) hP rfl hy) ?_; rintro v_ L_ ⟨hv_, hL_⟩; rw [hv_, hL_]; clear hv_ hL_ v_ L_) | refine ⟨_, y_spec (i := 0) hP rfl hy, ?_⟩ | refine ⟨_, fun L0 hl0 => y_spec (i := 0) hP rfl hy, ?_⟩ | (refine SCall.mono (let_spec hP hx hg.V) ?_; rintro v_ L_ ⟨hv_, hL_⟩; rw [hv_, hL_]; clear hv_ hL_ v_ L_) | refine ⟨_, let_spec hP hx hg.V, ?_⟩ | refine ⟨_, fun L0 hl0 => let_spec hP hx hg.V, ?_⟩ | (refine SCall.mono (skip_spec hP) ?_; rintro v_ L_ ⟨hv_, hL_⟩; rw [hv_, hL_]; clear hv_ hL_ v_ L_) | refine ⟨_, skip_spec hP, ?_⟩ | refine ⟨_, fun L0 hl0 => skip_spec hP, ?_⟩ | (refine SCall.mono (flagged_spec hP hx hg.V) ?_; rintro v_ L_ ⟨hv_, hL_⟩; rw [hv_, hL_]; clear hv_ hL_ v_ L_) | refine ⟨_, flagged_spec hP hx hg.V, ?_⟩ | refine ⟨_, fun L0 hl0 => flagged_spec hP hx hg.V, ?_⟩ | (refine SCall.mono (truth_spec hP _) ?_; rintro v_ L_ ⟨hv_, hL_⟩; rw [hv_, hL_]; clear hv_ hL_ v_ L_) | refine ⟨_, truth_spec hP _, ?_⟩ | refine ⟨_, fun L0 hl0 => truth_spec hP _, ?_⟩ | (refine SCall.mono (down_spec (i := 0) hP rfl hx hg.Vb) ?_; rintro v_ L_ ⟨hv_, hL_⟩; rw [hv_, hL_]; clear hv_ hL_ v_ L_) | refine ⟨_, down_spec (i := 0) hP rfl hx hg.Vb, ?_⟩ | refine ⟨_, fun L0 hl0 => down_spec (i := 0) hP rfl hx hg.Vb, ?_⟩ | (refine SCall.mono (behind_spec hP hx) ?_; rintro v_ L_ ⟨hv_, hL_⟩; rw [hv_, hL_]; clear hv_ hL_ v_ L_) | refine ⟨_, behind_spec hP hx, ?_⟩ | refine ⟨_, fun L0 hl0 => behind_spec hP hx, ?_⟩ | refine And.intro (by omega) ?_ | fail); try (with_reducible refine stI ?_); try simp (maxSteps:=1000000)(dsimp:=false)(disch:=omega) only [go_sem, Φa, hP, hops])
  refine hK2 _ _ ?_
  try clear hK2 K2
  refine SX.seq_k fun K3 hK3 => ?_
  refine SX.region_d [some 2] rfl (fun ops hops => ?_)
  unfold Dsts at hops
  simp (maxSteps:=1000000)(dsimp:=false)(disch:=omega) only [go_sem, Φa, hP, hops]
  repeat' ((first | refine ⟨_, Cell.at 0 rfl rfl, ?_⟩ | refine ⟨0, _, _, _, rfl, (by rw [pcells_length]; omega), .inr (by first | decide | exact Nat.zero_le _), ?_⟩ | fail); try (with_reducible refine stI ?_); try simp (maxSteps:=1000000)(dsimp:=false)(disch:=omega) only [go_sem, Φa, hP, hops])
  refine hK3 _ _ ?_
  try clear hK3 K3
  refine SX.ret ?_
  simp only [andThen_normal, andThen_ret, andThen_exit, inBlk_normal, inBlk_ret, inBlk_exit, Nat.reduceEqDiff, if_true, if_false, ↓reduceIte, retQ_ret]
  try simp only [res0, res1, res2, res3, stK_e, go_sem, Φa, hP]
  exact ⟨_, _, Less.refl _, rfl, rfl, sv, pv, mv, q1, q2, q3, rfl, ⟨hr.st, hr.pg, hr.mm⟩⟩
set_option maxHeartbeats 1000000 in
set_option maxRecDepth 100000 in
theorem or_spec {Γ : Ctx} (hP : Γ.P = Try.prog) {L : Hp} {gp : Nat} {g : GM} {sv pv mv : Value} {o : Ord} {f : Fnt} {fv : Value} {d : Feed} {q1 q2 q3 : Slot} (hg : OkG g) (hr : Rows g sv pv mv q1 q2 q3) (ho : OkO o) (hx : o.x < 16) (hy : o.y < 16) (hd : OkD d) :
    SCall Γ 57 #[(.pointer (some ⟨gp, 0, none⟩))] (PS gp g sv pv mv o f fv d :: q1 :: q2 :: q3 :: L) (mres gp o f fv d L (flagG g o (bits .or .u8 (vG g o.x) (vG g o.y)) 0)) := by
  have hbx := byte_at hg.Vb o.x
  have hby := byte_at hg.Vb o.y
  have hob := ho.b
  have hoa := ho.a
  have hox := ho.x
  have hPCb := hg.PC
  have hIb := hg.I
  have hrb := hd.rnd
  have hkb := hd.keys
  have hdl := hg.dl
  have hsd := hg.sd
  refine SCall.enter (n := 10) (res1 2) (hP ▸ Try.func57) rfl rfl (by simp) (res1_ok rfl) ?_
  refine SX.seq_k fun K1 hK1 => ?_
  refine SX.region_d [some 2] rfl (fun ops hops => ?_)
  unfold Dsts at hops
  simp (maxSteps:=1000000)(dsimp:=false)(disch:=omega) only [go_sem, Φa, hP, hops]
  repeat' ((first | refine ⟨_, Cell.at 0 rfl rfl, ?_⟩ | refine ⟨0, _, _, _, rfl, (by rw [pcells_length]; omega), .inr (by first | decide | exact Nat.zero_le _), ?_⟩ | fail); try (with_reducible refine stI ?_); try simp (maxSteps:=1000000)(dsimp:=false)(disch:=omega) only [go_sem, Φa, hP, hops])
  refine hK1 _ _ ?_
  try clear hK1 K1
  refine SX.seq_k fun K2 hK2 => ?_
  refine SX.region_d [some 3, some 4, some 5, some 6, some 7, some 8, some 9, some 2] rfl (fun ops hops => ?_)
  unfold Dsts at hops
  simp (maxSteps:=1000000)(dsimp:=false)(disch:=omega) only [go_sem, Φa, hP, hops]
  repeat' ((first | refine ⟨_, Cell.at 0 rfl rfl, ?_⟩ | refine ⟨0, _, _, _, rfl, (by rw [pcells_length]; omega), .inr (by first | decide | exact Nat.zero_le _), ?_⟩ | (refine SCall.mono (x_spec (i := 0) hP rfl hx) ?_; rintro v_ L_ ⟨hv_, hL_⟩; rw [hv_, hL_]; clear hv_ hL_ v_ L_) | refine ⟨_, x_spec (i := 0) hP rfl hx, ?_⟩ | refine ⟨_, fun L0 hl0 => x_spec (i := 0) hP rfl hx, ?_⟩ | (refine SCall.mono (y_spec (i := 0) hP rfl hy) ?_; rintro v_ L_ ⟨hv_, hL_⟩; rw [hv_, hL_]; clear hv_ hL_ v_ L_) | refine ⟨_, y_spec (i := 0) hP rfl hy, ?_⟩ | refine ⟨_, fun L0 hl0 => y_spec (i := 0) hP rfl hy, ?_⟩ | (refine SCall.mono (let_spec hP hx hg.V) ?_; rintro v_ L_ ⟨hv_, hL_⟩; rw [hv_, hL_]; clear hv_ hL_ v_ L_) | refine ⟨_, let_spec hP hx hg.V, ?_⟩ | refine ⟨_, fun L0 hl0 => let_spec hP hx hg.V, ?_⟩ | (refine SCall.mono (skip_spec hP) ?_; rintro v_ L_ ⟨hv_, hL_⟩; rw [hv_, hL_]; clear hv_ hL_ v_ L_) | refine ⟨_, skip_spec hP, ?_⟩ | refine ⟨_, fun L0 hl0 => skip_spec hP, ?_⟩ | (refine SCall.mono (flagged_spec hP hx hg.V) ?_; rintro v_ L_ ⟨hv_, hL_⟩; rw [hv_, hL_]; clear hv_ hL_ v_ L_) | refine ⟨_, flagged_spec hP hx hg.V, ?_⟩ | refine ⟨_, fun L0 hl0 => flagged_spec hP hx hg.V, ?_⟩ | (refine SCall.mono (truth_spec hP _) ?_; rintro v_ L_ ⟨hv_, hL_⟩; rw [hv_, hL_]; clear hv_ hL_ v_ L_) | refine ⟨_, truth_spec hP _, ?_⟩ | refine ⟨_, fun L0 hl0 => truth_spec hP _, ?_⟩ | (refine SCall.mono (down_spec (i := 0) hP rfl hx hg.Vb) ?_; rintro v_ L_ ⟨hv_, hL_⟩; rw [hv_, hL_]; clear hv_ hL_ v_ L_) | refine ⟨_, down_spec (i := 0) hP rfl hx hg.Vb, ?_⟩ | refine ⟨_, fun L0 hl0 => down_spec (i := 0) hP rfl hx hg.Vb, ?_⟩ | (refine SCall.mono (behind_spec hP hx) ?_; rintro v_ L_ ⟨hv_, hL_⟩; rw [hv_, hL_]; clear hv_ hL_ v_ L_) | refine ⟨_, behind_spec hP hx, ?_⟩ | refine ⟨_, fun L0 hl0 => behind_spec hP hx, ?_⟩ | refine And.intro (by omega) ?_ | fail); try (with_reducible refine stI ?_); try simp (maxSteps:=1000000)(dsimp:=false)(disch:=omega) only [go_sem, Φa, hP, hops])
  refine hK2 _ _ ?_
  try clear hK2 K2
  refine SX.ret ?_
  simp only [andThen_normal, andThen_ret, andThen_exit, inBlk_normal, inBlk_ret, inBlk_exit, Nat.reduceEqDiff, if_true, if_false, ↓reduceIte, retQ_ret]
  try simp only [res0, res1, res2, res3, stK_e, go_sem, Φa, hP]
  exact ⟨_, _, Less.refl _, rfl, rfl, sv, pv, mv, q1, q2, q3, rfl, ⟨hr.st, hr.pg, hr.mm⟩⟩
set_option maxHeartbeats 1000000 in
set_option maxRecDepth 100000 in
theorem and_spec {Γ : Ctx} (hP : Γ.P = Try.prog) {L : Hp} {gp : Nat} {g : GM} {sv pv mv : Value} {o : Ord} {f : Fnt} {fv : Value} {d : Feed} {q1 q2 q3 : Slot} (hg : OkG g) (hr : Rows g sv pv mv q1 q2 q3) (ho : OkO o) (hx : o.x < 16) (hy : o.y < 16) (hd : OkD d) :
    SCall Γ 58 #[(.pointer (some ⟨gp, 0, none⟩))] (PS gp g sv pv mv o f fv d :: q1 :: q2 :: q3 :: L) (mres gp o f fv d L (flagG g o (bits .and .u8 (vG g o.x) (vG g o.y)) 0)) := by
  have hbx := byte_at hg.Vb o.x
  have hby := byte_at hg.Vb o.y
  have hob := ho.b
  have hoa := ho.a
  have hox := ho.x
  have hPCb := hg.PC
  have hIb := hg.I
  have hrb := hd.rnd
  have hkb := hd.keys
  have hdl := hg.dl
  have hsd := hg.sd
  refine SCall.enter (n := 10) (res1 2) (hP ▸ Try.func58) rfl rfl (by simp) (res1_ok rfl) ?_
  refine SX.seq_k fun K1 hK1 => ?_
  refine SX.region_d [some 2] rfl (fun ops hops => ?_)
  unfold Dsts at hops
  simp (maxSteps:=1000000)(dsimp:=false)(disch:=omega) only [go_sem, Φa, hP, hops]
  repeat' ((first | refine ⟨_, Cell.at 0 rfl rfl, ?_⟩ | refine ⟨0, _, _, _, rfl, (by rw [pcells_length]; omega), .inr (by first | decide | exact Nat.zero_le _), ?_⟩ | fail); try (with_reducible refine stI ?_); try simp (maxSteps:=1000000)(dsimp:=false)(disch:=omega) only [go_sem, Φa, hP, hops])
  refine hK1 _ _ ?_
  try clear hK1 K1
  refine SX.seq_k fun K2 hK2 => ?_
  refine SX.region_d [some 3, some 4, some 5, some 6, some 7, some 8, some 9, some 2] rfl (fun ops hops => ?_)
  unfold Dsts at hops
  simp (maxSteps:=1000000)(dsimp:=false)(disch:=omega) only [go_sem, Φa, hP, hops]
  repeat' ((first | refine ⟨_, Cell.at 0 rfl rfl, ?_⟩ | refine ⟨0, _, _, _, rfl, (by rw [pcells_length]; omega), .inr (by first | decide | exact Nat.zero_le _), ?_⟩ | (refine SCall.mono (x_spec (i := 0) hP rfl hx) ?_; rintro v_ L_ ⟨hv_, hL_⟩; rw [hv_, hL_]; clear hv_ hL_ v_ L_) | refine ⟨_, x_spec (i := 0) hP rfl hx, ?_⟩ | refine ⟨_, fun L0 hl0 => x_spec (i := 0) hP rfl hx, ?_⟩ | (refine SCall.mono (y_spec (i := 0) hP rfl hy) ?_; rintro v_ L_ ⟨hv_, hL_⟩; rw [hv_, hL_]; clear hv_ hL_ v_ L_) | refine ⟨_, y_spec (i := 0) hP rfl hy, ?_⟩ | refine ⟨_, fun L0 hl0 => y_spec (i := 0) hP rfl hy, ?_⟩ | (refine SCall.mono (let_spec hP hx hg.V) ?_; rintro v_ L_ ⟨hv_, hL_⟩; rw [hv_, hL_]; clear hv_ hL_ v_ L_) | refine ⟨_, let_spec hP hx hg.V, ?_⟩ | refine ⟨_, fun L0 hl0 => let_spec hP hx hg.V, ?_⟩ | (refine SCall.mono (skip_spec hP) ?_; rintro v_ L_ ⟨hv_, hL_⟩; rw [hv_, hL_]; clear hv_ hL_ v_ L_) | refine ⟨_, skip_spec hP, ?_⟩ | refine ⟨_, fun L0 hl0 => skip_spec hP, ?_⟩ | (refine SCall.mono (flagged_spec hP hx hg.V) ?_; rintro v_ L_ ⟨hv_, hL_⟩; rw [hv_, hL_]; clear hv_ hL_ v_ L_) | refine ⟨_, flagged_spec hP hx hg.V, ?_⟩ | refine ⟨_, fun L0 hl0 => flagged_spec hP hx hg.V, ?_⟩ | (refine SCall.mono (truth_spec hP _) ?_; rintro v_ L_ ⟨hv_, hL_⟩; rw [hv_, hL_]; clear hv_ hL_ v_ L_) | refine ⟨_, truth_spec hP _, ?_⟩ | refine ⟨_, fun L0 hl0 => truth_spec hP _, ?_⟩ | (refine SCall.mono (down_spec (i := 0) hP rfl hx hg.Vb) ?_; rintro v_ L_ ⟨hv_, hL_⟩; rw [hv_, hL_]; clear hv_ hL_ v_ L_) | refine ⟨_, down_spec (i := 0) hP rfl hx hg.Vb, ?_⟩ | refine ⟨_, fun L0 hl0 => down_spec (i := 0) hP rfl hx hg.Vb, ?_⟩ | (refine SCall.mono (behind_spec hP hx) ?_; rintro v_ L_ ⟨hv_, hL_⟩; rw [hv_, hL_]; clear hv_ hL_ v_ L_) | refine ⟨_, behind_spec hP hx, ?_⟩ | refine ⟨_, fun L0 hl0 => behind_spec hP hx, ?_⟩ | refine And.intro (by omega) ?_ | fail); try (with_reducible refine stI ?_); try simp (maxSteps:=1000000)(dsimp:=false)(disch:=omega) only [go_sem, Φa, hP, hops])
  refine hK2 _ _ ?_
  try clear hK2 K2
  refine SX.ret ?_
  simp only [andThen_normal, andThen_ret, andThen_exit, inBlk_normal, inBlk_ret, inBlk_exit, Nat.reduceEqDiff, if_true, if_false, ↓reduceIte, retQ_ret]
  try simp only [res0, res1, res2, res3, stK_e, go_sem, Φa, hP]
  exact ⟨_, _, Less.refl _, rfl, rfl, sv, pv, mv, q1, q2, q3, rfl, ⟨hr.st, hr.pg, hr.mm⟩⟩
set_option maxHeartbeats 1000000 in
set_option maxRecDepth 100000 in
theorem point_spec {Γ : Ctx} (hP : Γ.P = Try.prog) {L : Hp} {gp : Nat} {g : GM} {sv pv mv : Value} {o : Ord} {f : Fnt} {fv : Value} {d : Feed} {q1 q2 q3 : Slot} (hg : OkG g) (hr : Rows g sv pv mv q1 q2 q3) (ho : OkO o) (hx : o.x < 16) (hy : o.y < 16) (hd : OkD d) :
    SCall Γ 62 #[(.pointer (some ⟨gp, 0, none⟩))] (PS gp g sv pv mv o f fv d :: q1 :: q2 :: q3 :: L) (mres gp o f fv d L (1, { g with I := (o.a : Int) })) := by
  have hbx := byte_at hg.Vb o.x
  have hby := byte_at hg.Vb o.y
  have hob := ho.b
  have hoa := ho.a
  have hox := ho.x
  have hPCb := hg.PC
  have hIb := hg.I
  have hrb := hd.rnd
  have hkb := hd.keys
  have hdl := hg.dl
  have hsd := hg.sd
  refine SCall.enter (n := 12) (res1 2) (hP ▸ Try.func62) rfl rfl (by simp) (res1_ok rfl) ?_
  refine SX.seq_k fun K1 hK1 => ?_
  refine SX.region_d [some 2] rfl (fun ops hops => ?_)
  unfold Dsts at hops
  simp (maxSteps:=1000000)(dsimp:=false)(disch:=omega) only [go_sem, Φa, hP, hops]
  repeat' ((first | refine ⟨_, Cell.at 0 rfl rfl, ?_⟩ | refine ⟨0, _, _, _, rfl, (by rw [pcells_length]; omega), .inr (by first | decide | exact Nat.zero_le _), ?_⟩ | fail); try (with_reducible refine stI ?_); try simp (maxSteps:=1000000)(dsimp:=false)(disch:=omega) only [go_sem, Φa, hP, hops])
  refine hK1 _ _ ?_
  try clear hK1 K1
  refine SX.seq_k fun K2 hK2 => ?_
  refine SX.region_d [some 3, some 4, some 5, some 6, some 7, some 8, some 9, some 10, some 11, none] rfl (fun ops hops => ?_)
  unfold Dsts at hops
  simp (maxSteps:=1000000)(dsimp:=false)(disch:=omega) only [go_sem, Φa, hP, hops]
  repeat' ((first | refine ⟨_, Cell.at 0 rfl rfl, ?_⟩ | refine ⟨0, _, _, _, rfl, (by rw [pcells_length]; omega), .inr (by first | decide | exact Nat.zero_le _), ?_⟩ | fail); try (with_reducible refine stI ?_); try simp (maxSteps:=1000000)(dsimp:=false)(disch:=omega) only [go_sem, Φa, hP, hops])
  refine hK2 _ _ ?_
  try clear hK2 K2
  refine SX.live [] (fun T1 hT1 => ?_)
  clear hT1
  refine SX.seq_k fun K3 hK3 => ?_
  refine SX.region_d [some 2] rfl (fun ops hops => ?_)
  unfold Dsts at hops
  simp (maxSteps:=1000000)(dsimp:=false)(disch:=omega) only [go_sem, Φa, hP, hops]
  repeat' ((first | refine ⟨_, Cell.at 0 rfl rfl, ?_⟩ | refine ⟨0, _, _, _, rfl, (by rw [pcells_length]; omega), .inr (by first | decide | exact Nat.zero_le _), ?_⟩ | fail); try (with_reducible refine stI ?_); try simp (maxSteps:=1000000)(dsimp:=false)(disch:=omega) only [go_sem, Φa, hP, hops])
  refine hK3 _ _ ?_
  try clear hK3 K3
  refine SX.ret ?_
  simp only [andThen_normal, andThen_ret, andThen_exit, inBlk_normal, inBlk_ret, inBlk_exit, Nat.reduceEqDiff, if_true, if_false, ↓reduceIte, retQ_ret]
  try simp only [res0, res1, res2, res3, stK_e, go_sem, Φa, hP]
  exact ⟨_, _, Less.refl _, rfl, rfl, sv, pv, mv, q1, q2, q3, rfl, ⟨hr.st, hr.pg, hr.mm⟩⟩
set_option maxHeartbeats 1000000 in
set_option maxRecDepth 100000 in
theorem random_spec {Γ : Ctx} (hP : Γ.P = Try.prog) {L : Hp} {gp : Nat} {g : GM} {sv pv mv : Value} {o : Ord} {f : Fnt} {fv : Value} {d : Feed} {q1 q2 q3 : Slot} (hg : OkG g) (hr : Rows g sv pv mv q1 q2 q3) (ho : OkO o) (hx : o.x < 16) (hy : o.y < 16) (hd : OkD d) :
    SCall Γ 64 #[(.pointer (some ⟨gp, 0, none⟩))] (PS gp g sv pv mv o f fv d :: q1 :: q2 :: q3 :: L) (mres gp o f fv d L (letG g o (bits .and .u8 d.rnd (o.b : Int)))) := by
  have hbx := byte_at hg.Vb o.x
  have hby := byte_at hg.Vb o.y
  have hob := ho.b
  have hoa := ho.a
  have hox := ho.x
  have hPCb := hg.PC
  have hIb := hg.I
  have hrb := hd.rnd
  have hkb := hd.keys
  have hdl := hg.dl
  have hsd := hg.sd
  refine SCall.enter (n := 16) (res1 2) (hP ▸ Try.func64) rfl rfl (by simp) (res1_ok rfl) ?_
  refine SX.seq_k fun K1 hK1 => ?_
  refine SX.region_d [some 2] rfl (fun ops hops => ?_)
  unfold Dsts at hops
  simp (maxSteps:=1000000)(dsimp:=false)(disch:=omega) only [go_sem, Φa, hP, hops]
  repeat' ((first | refine ⟨_, Cell.at 0 rfl rfl, ?_⟩ | refine ⟨0, _, _, _, rfl, (by rw [pcells_length]; omega), .inr (by first | decide | exact Nat.zero_le _), ?_⟩ | fail); try (with_reducible refine stI ?_); try simp (maxSteps:=1000000)(dsimp:=false)(disch:=omega) only [go_sem, Φa, hP, hops])
  refine hK1 _ _ ?_
  try clear hK1 K1
  refine SX.seq_k fun K2 hK2 => ?_
  refine SX.drawn_d [(0, .q), (1, .q), (2, .q), (3, .q), (4, .q), (5, .q), (6, .q), (7, .q), (8, .q), (9, .q), (10, .q), (11, .q), (12, .t)] (fun L => L) (hP ▸ T.mixed) (by kernel_rfl) (by exact Less.refl _) [some 3, some 4, some 5, some 6, some 7, some 8, some 9, some 10, some 11, some 12, some 13, some 14, some 15] rfl (fun ops hops hopl => ?_)
  unfold Dsts at hops
  simp (maxSteps:=1000000)(dsimp:=false)(disch:=omega) only [go_sem, Φa, hP, hops, hopl]
  repeat' ((first | refine ⟨_, Cell.at 0 rfl rfl, ?_⟩ | refine ⟨0, _, _, _, rfl, (by rw [pcells_length]; omega), .inr (by first | decide | exact Nat.zero_le _), ?_⟩ | (refine SCall.mono (x_spec (i := 0) hP rfl hx) ?_; rintro v_ L_ ⟨hv_, hL_⟩; rw [hv_, hL_]; clear hv_ hL_ v_ L_) | refine ⟨_, x_spec (i := 0) hP rfl hx, ?_⟩ | refine ⟨_, fun L0 hl0 => x_spec (i := 0) hP rfl hx, ?_⟩ | (refine SCall.mono (y_spec (i := 0) hP rfl hy) ?_; rintro v_ L_ ⟨hv_, hL_⟩; rw [hv_, hL_]; clear hv_ hL_ v_ L_) | refine ⟨_, y_spec (i := 0) hP rfl hy, ?_⟩ | refine ⟨_, fun L0 hl0 => y_spec (i := 0) hP rfl hy, ?_⟩ | (refine SCall.mono (let_spec hP hx hg.V) ?_; rintro v_ L_ ⟨hv_, hL_⟩; rw [hv_, hL_]; clear hv_ hL_ v_ L_) | refine ⟨_, let_spec hP hx hg.V, ?_⟩ | refine ⟨_, fun L0 hl0 => let_spec hP hx hg.V, ?_⟩ | (refine SCall.mono (skip_spec hP) ?_; rintro v_ L_ ⟨hv_, hL_⟩; rw [hv_, hL_]; clear hv_ hL_ v_ L_) | refine ⟨_, skip_spec hP, ?_⟩ | refine ⟨_, fun L0 hl0 => skip_spec hP, ?_⟩ | (refine SCall.mono (flagged_spec hP hx hg.V) ?_; rintro v_ L_ ⟨hv_, hL_⟩; rw [hv_, hL_]; clear hv_ hL_ v_ L_) | refine ⟨_, flagged_spec hP hx hg.V, ?_⟩ | refine ⟨_, fun L0 hl0 => flagged_spec hP hx hg.V, ?_⟩ | (refine SCall.mono (truth_spec hP _) ?_; rintro v_ L_ ⟨hv_, hL_⟩; rw [hv_, hL_]; clear hv_ hL_ v_ L_) | refine ⟨_, truth_spec hP _, ?_⟩ | refine ⟨_, fun L0 hl0 => truth_spec hP _, ?_⟩ | (refine SCall.mono (down_spec (i := 0) hP rfl hx hg.Vb) ?_; rintro v_ L_ ⟨hv_, hL_⟩; rw [hv_, hL_]; clear hv_ hL_ v_ L_) | refine ⟨_, down_spec (i := 0) hP rfl hx hg.Vb, ?_⟩ | refine ⟨_, fun L0 hl0 => down_spec (i := 0) hP rfl hx hg.Vb, ?_⟩ | (refine SCall.mono (behind_spec hP hx) ?_; rintro v_ L_ ⟨hv_, hL_⟩; rw [hv_, hL_]; clear hv_ hL_ v_ L_) | refine ⟨_, behind_spec hP hx, ?_⟩ | refine ⟨_, fun L0 hl0 => behind_spec hP hx, ?_⟩ | refine And.intro (by omega) ?_ | fail); try (with_reducible refine stI ?_); try simp (maxSteps:=1000000)(dsimp:=false)(disch:=omega) only [go_sem, Φa, hP, hops, hopl])
  refine hK2 _ _ ?_
  try clear hK2 K2
  refine SX.live [] (fun T1 hT1 => ?_)
  clear hT1
  refine SX.seq_k fun K3 hK3 => ?_
  refine SX.region_d [some 2] rfl (fun ops hops => ?_)
  unfold Dsts at hops
  simp (maxSteps:=1000000)(dsimp:=false)(disch:=omega) only [go_sem, Φa, hP, hops]
  repeat' ((first | refine ⟨_, Cell.at 0 rfl rfl, ?_⟩ | refine ⟨0, _, _, _, rfl, (by rw [pcells_length]; omega), .inr (by first | decide | exact Nat.zero_le _), ?_⟩ | fail); try (with_reducible refine stI ?_); try simp (maxSteps:=1000000)(dsimp:=false)(disch:=omega) only [go_sem, Φa, hP, hops])
  refine hK3 _ _ ?_
  try clear hK3 K3
  refine SX.ret ?_
  simp only [andThen_normal, andThen_ret, andThen_exit, inBlk_normal, inBlk_ret, inBlk_exit, Nat.reduceEqDiff, if_true, if_false, ↓reduceIte, retQ_ret]
  try simp only [res0, res1, res2, res3, stK_e, go_sem, Φa, hP]
  exact ⟨_, _, Less.refl _, rfl, rfl, sv, pv, mv, q1, q2, q3, rfl, ⟨hr.st, hr.pg, hr.mm⟩⟩
set_option maxHeartbeats 1000000 in
set_option maxRecDepth 100000 in
theorem timer_spec {Γ : Ctx} (hP : Γ.P = Try.prog) {L : Hp} {gp : Nat} {g : GM} {sv pv mv : Value} {o : Ord} {f : Fnt} {fv : Value} {d : Feed} {q1 q2 q3 : Slot} (hg : OkG g) (hr : Rows g sv pv mv q1 q2 q3) (ho : OkO o) (hx : o.x < 16) (hy : o.y < 16) (hd : OkD d) :
    SCall Γ 68 #[(.pointer (some ⟨gp, 0, none⟩))] (PS gp g sv pv mv o f fv d :: q1 :: q2 :: q3 :: L) (mres gp o f fv d L (letG g o g.dl)) := by
  have hbx := byte_at hg.Vb o.x
  have hby := byte_at hg.Vb o.y
  have hob := ho.b
  have hoa := ho.a
  have hox := ho.x
  have hPCb := hg.PC
  have hIb := hg.I
  have hrb := hd.rnd
  have hkb := hd.keys
  have hdl := hg.dl
  have hsd := hg.sd
  refine SCall.enter (n := 10) (res1 2) (hP ▸ Try.func68) rfl rfl (by simp) (res1_ok rfl) ?_
  refine SX.seq_k fun K1 hK1 => ?_
  refine SX.region_d [some 2] rfl (fun ops hops => ?_)
  unfold Dsts at hops
  simp (maxSteps:=1000000)(dsimp:=false)(disch:=omega) only [go_sem, Φa, hP, hops]
  repeat' ((first | refine ⟨_, Cell.at 0 rfl rfl, ?_⟩ | refine ⟨0, _, _, _, rfl, (by rw [pcells_length]; omega), .inr (by first | decide | exact Nat.zero_le _), ?_⟩ | fail); try (with_reducible refine stI ?_); try simp (maxSteps:=1000000)(dsimp:=false)(disch:=omega) only [go_sem, Φa, hP, hops])
  refine hK1 _ _ ?_
  try clear hK1 K1
  refine SX.seq_k fun K2 hK2 => ?_
  refine SX.region_d [some 3, some 4, some 5, some 6, some 7, some 8, some 9] rfl (fun ops hops => ?_)
  unfold Dsts at hops
  simp (maxSteps:=1000000)(dsimp:=false)(disch:=omega) only [go_sem, Φa, hP, hops]
  repeat' ((first | refine ⟨_, Cell.at 0 rfl rfl, ?_⟩ | refine ⟨0, _, _, _, rfl, (by rw [pcells_length]; omega), .inr (by first | decide | exact Nat.zero_le _), ?_⟩ | (refine SCall.mono (x_spec (i := 0) hP rfl hx) ?_; rintro v_ L_ ⟨hv_, hL_⟩; rw [hv_, hL_]; clear hv_ hL_ v_ L_) | refine ⟨_, x_spec (i := 0) hP rfl hx, ?_⟩ | refine ⟨_, fun L0 hl0 => x_spec (i := 0) hP rfl hx, ?_⟩ | (refine SCall.mono (y_spec (i := 0) hP rfl hy) ?_; rintro v_ L_ ⟨hv_, hL_⟩; rw [hv_, hL_]; clear hv_ hL_ v_ L_) | refine ⟨_, y_spec (i := 0) hP rfl hy, ?_⟩ | refine ⟨_, fun L0 hl0 => y_spec (i := 0) hP rfl hy, ?_⟩ | (refine SCall.mono (let_spec hP hx hg.V) ?_; rintro v_ L_ ⟨hv_, hL_⟩; rw [hv_, hL_]; clear hv_ hL_ v_ L_) | refine ⟨_, let_spec hP hx hg.V, ?_⟩ | refine ⟨_, fun L0 hl0 => let_spec hP hx hg.V, ?_⟩ | (refine SCall.mono (skip_spec hP) ?_; rintro v_ L_ ⟨hv_, hL_⟩; rw [hv_, hL_]; clear hv_ hL_ v_ L_) | refine ⟨_, skip_spec hP, ?_⟩ | refine ⟨_, fun L0 hl0 => skip_spec hP, ?_⟩ | (refine SCall.mono (flagged_spec hP hx hg.V) ?_; rintro v_ L_ ⟨hv_, hL_⟩; rw [hv_, hL_]; clear hv_ hL_ v_ L_) | refine ⟨_, flagged_spec hP hx hg.V, ?_⟩ | refine ⟨_, fun L0 hl0 => flagged_spec hP hx hg.V, ?_⟩ | (refine SCall.mono (truth_spec hP _) ?_; rintro v_ L_ ⟨hv_, hL_⟩; rw [hv_, hL_]; clear hv_ hL_ v_ L_) | refine ⟨_, truth_spec hP _, ?_⟩ | refine ⟨_, fun L0 hl0 => truth_spec hP _, ?_⟩ | (refine SCall.mono (down_spec (i := 0) hP rfl hx hg.Vb) ?_; rintro v_ L_ ⟨hv_, hL_⟩; rw [hv_, hL_]; clear hv_ hL_ v_ L_) | refine ⟨_, down_spec (i := 0) hP rfl hx hg.Vb, ?_⟩ | refine ⟨_, fun L0 hl0 => down_spec (i := 0) hP rfl hx hg.Vb, ?_⟩ | (refine SCall.mono (behind_spec hP hx) ?_; rintro v_ L_ ⟨hv_, hL_⟩; rw [hv_, hL_]; clear hv_ hL_ v_ L_) | refine ⟨_, behind_spec hP hx, ?_⟩ | refine ⟨_, fun L0 hl0 => behind_spec hP hx, ?_⟩ | refine And.intro (by omega) ?_ | fail); try (with_reducible refine stI ?_); try simp (maxSteps:=1000000)(dsimp:=false)(disch:=omega) only [go_sem, Φa, hP, hops])
  refine hK2 _ _ ?_
  try clear hK2 K2
  refine SX.seq_k fun K3 hK3 => ?_
  refine SX.region_d [some 2] rfl (fun ops hops => ?_)
  unfold Dsts at hops
  simp (maxSteps:=1000000)(dsimp:=false)(disch:=omega) only [go_sem, Φa, hP, hops]
  repeat' ((first | refine ⟨_, Cell.at 0 rfl rfl, ?_⟩ | refine ⟨0, _, _, _, rfl, (by rw [pcells_length]; omega), .inr (by first | decide | exact Nat.zero_le _), ?_⟩ | fail); try (with_reducible refine stI ?_); try simp (maxSteps:=1000000)(dsimp:=false)(disch:=omega) only [go_sem, Φa, hP, hops])
  refine hK3 _ _ ?_
  try clear hK3 K3
  refine SX.ret ?_
  simp only [andThen_normal, andThen_ret, andThen_exit, inBlk_normal, inBlk_ret, inBlk_exit, Nat.reduceEqDiff, if_true, if_false, ↓reduceIte, retQ_ret]
  try simp only [res0, res1, res2, res3, stK_e, go_sem, Φa, hP]
  exact ⟨_, _, Less.refl _, rfl, rfl, sv, pv, mv, q1, q2, q3, rfl, ⟨hr.st, hr.pg, hr.mm⟩⟩
set_option maxHeartbeats 1000000 in
set_option maxRecDepth 100000 in
theorem delay_spec {Γ : Ctx} (hP : Γ.P = Try.prog) {L : Hp} {gp : Nat} {g : GM} {sv pv mv : Value} {o : Ord} {f : Fnt} {fv : Value} {d : Feed} {q1 q2 q3 : Slot} (hg : OkG g) (hr : Rows g sv pv mv q1 q2 q3) (ho : OkO o) (hx : o.x < 16) (hy : o.y < 16) (hd : OkD d) :
    SCall Γ 70 #[(.pointer (some ⟨gp, 0, none⟩))] (PS gp g sv pv mv o f fv d :: q1 :: q2 :: q3 :: L) (mres gp o f fv d L (1, { g with dl := vG g o.x })) := by
  have hbx := byte_at hg.Vb o.x
  have hby := byte_at hg.Vb o.y
  have hob := ho.b
  have hoa := ho.a
  have hox := ho.x
  have hPCb := hg.PC
  have hIb := hg.I
  have hrb := hd.rnd
  have hkb := hd.keys
  have hdl := hg.dl
  have hsd := hg.sd
  refine SCall.enter (n := 9) (res1 2) (hP ▸ Try.func70) rfl rfl (by simp) (res1_ok rfl) ?_
  refine SX.seq_k fun K1 hK1 => ?_
  refine SX.region_d [some 2] rfl (fun ops hops => ?_)
  unfold Dsts at hops
  simp (maxSteps:=1000000)(dsimp:=false)(disch:=omega) only [go_sem, Φa, hP, hops]
  repeat' ((first | refine ⟨_, Cell.at 0 rfl rfl, ?_⟩ | refine ⟨0, _, _, _, rfl, (by rw [pcells_length]; omega), .inr (by first | decide | exact Nat.zero_le _), ?_⟩ | fail); try (with_reducible refine stI ?_); try simp (maxSteps:=1000000)(dsimp:=false)(disch:=omega) only [go_sem, Φa, hP, hops])
  refine hK1 _ _ ?_
  try clear hK1 K1
  refine SX.seq_k fun K2 hK2 => ?_
  refine SX.region_d [some 3, some 4, some 5, some 6, some 7, some 8, none] rfl (fun ops hops => ?_)
  unfold Dsts at hops
  simp (maxSteps:=1000000)(dsimp:=false)(disch:=omega) only [go_sem, Φa, hP, hops]
  repeat' ((first | refine ⟨_, Cell.at 0 rfl rfl, ?_⟩ | refine ⟨0, _, _, _, rfl, (by rw [pcells_length]; omega), .inr (by first | decide | exact Nat.zero_le _), ?_⟩ | (refine SCall.mono (x_spec (i := 0) hP rfl hx) ?_; rintro v_ L_ ⟨hv_, hL_⟩; rw [hv_, hL_]; clear hv_ hL_ v_ L_) | refine ⟨_, x_spec (i := 0) hP rfl hx, ?_⟩ | refine ⟨_, fun L0 hl0 => x_spec (i := 0) hP rfl hx, ?_⟩ | (refine SCall.mono (y_spec (i := 0) hP rfl hy) ?_; rintro v_ L_ ⟨hv_, hL_⟩; rw [hv_, hL_]; clear hv_ hL_ v_ L_) | refine ⟨_, y_spec (i := 0) hP rfl hy, ?_⟩ | refine ⟨_, fun L0 hl0 => y_spec (i := 0) hP rfl hy, ?_⟩ | (refine SCall.mono (let_spec hP hx hg.V) ?_; rintro v_ L_ ⟨hv_, hL_⟩; rw [hv_, hL_]; clear hv_ hL_ v_ L_) | refine ⟨_, let_spec hP hx hg.V, ?_⟩ | refine ⟨_, fun L0 hl0 => let_spec hP hx hg.V, ?_⟩ | (refine SCall.mono (skip_spec hP) ?_; rintro v_ L_ ⟨hv_, hL_⟩; rw [hv_, hL_]; clear hv_ hL_ v_ L_) | refine ⟨_, skip_spec hP, ?_⟩ | refine ⟨_, fun L0 hl0 => skip_spec hP, ?_⟩ | (refine SCall.mono (flagged_spec hP hx hg.V) ?_; rintro v_ L_ ⟨hv_, hL_⟩; rw [hv_, hL_]; clear hv_ hL_ v_ L_) | refine ⟨_, flagged_spec hP hx hg.V, ?_⟩ | refine ⟨_, fun L0 hl0 => flagged_spec hP hx hg.V, ?_⟩ | (refine SCall.mono (truth_spec hP _) ?_; rintro v_ L_ ⟨hv_, hL_⟩; rw [hv_, hL_]; clear hv_ hL_ v_ L_) | refine ⟨_, truth_spec hP _, ?_⟩ | refine ⟨_, fun L0 hl0 => truth_spec hP _, ?_⟩ | (refine SCall.mono (down_spec (i := 0) hP rfl hx hg.Vb) ?_; rintro v_ L_ ⟨hv_, hL_⟩; rw [hv_, hL_]; clear hv_ hL_ v_ L_) | refine ⟨_, down_spec (i := 0) hP rfl hx hg.Vb, ?_⟩ | refine ⟨_, fun L0 hl0 => down_spec (i := 0) hP rfl hx hg.Vb, ?_⟩ | (refine SCall.mono (behind_spec hP hx) ?_; rintro v_ L_ ⟨hv_, hL_⟩; rw [hv_, hL_]; clear hv_ hL_ v_ L_) | refine ⟨_, behind_spec hP hx, ?_⟩ | refine ⟨_, fun L0 hl0 => behind_spec hP hx, ?_⟩ | refine And.intro (by omega) ?_ | fail); try (with_reducible refine stI ?_); try simp (maxSteps:=1000000)(dsimp:=false)(disch:=omega) only [go_sem, Φa, hP, hops])
  refine hK2 _ _ ?_
  try clear hK2 K2
  refine SX.seq_k fun K3 hK3 => ?_
  refine SX.region_d [some 2] rfl (fun ops hops => ?_)
  unfold Dsts at hops
  simp (maxSteps:=1000000)(dsimp:=false)(disch:=omega) only [go_sem, Φa, hP, hops]
  repeat' ((first | refine ⟨_, Cell.at 0 rfl rfl, ?_⟩ | refine ⟨0, _, _, _, rfl, (by rw [pcells_length]; omega), .inr (by first | decide | exact Nat.zero_le _), ?_⟩ | fail); try (with_reducible refine stI ?_); try simp (maxSteps:=1000000)(dsimp:=false)(disch:=omega) only [go_sem, Φa, hP, hops])
  refine hK3 _ _ ?_
  try clear hK3 K3
  refine SX.ret ?_
  simp only [andThen_normal, andThen_ret, andThen_exit, inBlk_normal, inBlk_ret, inBlk_exit, Nat.reduceEqDiff, if_true, if_false, ↓reduceIte, retQ_ret]
  try simp only [res0, res1, res2, res3, stK_e, go_sem, Φa, hP]
  exact ⟨_, _, Less.refl _, rfl, rfl, sv, pv, mv, q1, q2, q3, rfl, ⟨hr.st, hr.pg, hr.mm⟩⟩
set_option maxHeartbeats 1000000 in
set_option maxRecDepth 100000 in
theorem sound_spec {Γ : Ctx} (hP : Γ.P = Try.prog) {L : Hp} {gp : Nat} {g : GM} {sv pv mv : Value} {o : Ord} {f : Fnt} {fv : Value} {d : Feed} {q1 q2 q3 : Slot} (hg : OkG g) (hr : Rows g sv pv mv q1 q2 q3) (ho : OkO o) (hx : o.x < 16) (hy : o.y < 16) (hd : OkD d) :
    SCall Γ 71 #[(.pointer (some ⟨gp, 0, none⟩))] (PS gp g sv pv mv o f fv d :: q1 :: q2 :: q3 :: L) (mres gp o f fv d L (1, { g with sd := vG g o.x })) := by
  have hbx := byte_at hg.Vb o.x
  have hby := byte_at hg.Vb o.y
  have hob := ho.b
  have hoa := ho.a
  have hox := ho.x
  have hPCb := hg.PC
  have hIb := hg.I
  have hrb := hd.rnd
  have hkb := hd.keys
  have hdl := hg.dl
  have hsd := hg.sd
  refine SCall.enter (n := 9) (res1 2) (hP ▸ Try.func71) rfl rfl (by simp) (res1_ok rfl) ?_
  refine SX.seq_k fun K1 hK1 => ?_
  refine SX.region_d [some 2] rfl (fun ops hops => ?_)
  unfold Dsts at hops
  simp (maxSteps:=1000000)(dsimp:=false)(disch:=omega) only [go_sem, Φa, hP, hops]
  repeat' ((first | refine ⟨_, Cell.at 0 rfl rfl, ?_⟩ | refine ⟨0, _, _, _, rfl, (by rw [pcells_length]; omega), .inr (by first | decide | exact Nat.zero_le _), ?_⟩ | fail); try (with_reducible refine stI ?_); try simp (maxSteps:=1000000)(dsimp:=false)(disch:=omega) only [go_sem, Φa, hP, hops])
  refine hK1 _ _ ?_
  try clear hK1 K1
  refine SX.seq_k fun K2 hK2 => ?_
  refine SX.region_d [some 3, some 4, some 5, some 6, some 7, some 8, none] rfl (fun ops hops => ?_)
  unfold Dsts at hops
  simp (maxSteps:=1000000)(dsimp:=false)(disch:=omega) only [go_sem, Φa, hP, hops]
  repeat' ((first | refine ⟨_, Cell.at 0 rfl rfl, ?_⟩ | refine ⟨0, _, _, _, rfl, (by rw [pcells_length]; omega), .inr (by first | decide | exact Nat.zero_le _), ?_⟩ | (refine SCall.mono (x_spec (i := 0) hP rfl hx) ?_; rintro v_ L_ ⟨hv_, hL_⟩; rw [hv_, hL_]; clear hv_ hL_ v_ L_) | refine ⟨_, x_spec (i := 0) hP rfl hx, ?_⟩ | refine ⟨_, fun L0 hl0 => x_spec (i := 0) hP rfl hx, ?_⟩ | (refine SCall.mono (y_spec (i := 0) hP rfl hy) ?_; rintro v_ L_ ⟨hv_, hL_⟩; rw [hv_, hL_]; clear hv_ hL_ v_ L_) | refine ⟨_, y_spec (i := 0) hP rfl hy, ?_⟩ | refine ⟨_, fun L0 hl0 => y_spec (i := 0) hP rfl hy, ?_⟩ | (refine SCall.mono (let_spec hP hx hg.V) ?_; rintro v_ L_ ⟨hv_, hL_⟩; rw [hv_, hL_]; clear hv_ hL_ v_ L_) | refine ⟨_, let_spec hP hx hg.V, ?_⟩ | refine ⟨_, fun L0 hl0 => let_spec hP hx hg.V, ?_⟩ | (refine SCall.mono (skip_spec hP) ?_; rintro v_ L_ ⟨hv_, hL_⟩; rw [hv_, hL_]; clear hv_ hL_ v_ L_) | refine ⟨_, skip_spec hP, ?_⟩ | refine ⟨_, fun L0 hl0 => skip_spec hP, ?_⟩ | (refine SCall.mono (flagged_spec hP hx hg.V) ?_; rintro v_ L_ ⟨hv_, hL_⟩; rw [hv_, hL_]; clear hv_ hL_ v_ L_) | refine ⟨_, flagged_spec hP hx hg.V, ?_⟩ | refine ⟨_, fun L0 hl0 => flagged_spec hP hx hg.V, ?_⟩ | (refine SCall.mono (truth_spec hP _) ?_; rintro v_ L_ ⟨hv_, hL_⟩; rw [hv_, hL_]; clear hv_ hL_ v_ L_) | refine ⟨_, truth_spec hP _, ?_⟩ | refine ⟨_, fun L0 hl0 => truth_spec hP _, ?_⟩ | (refine SCall.mono (down_spec (i := 0) hP rfl hx hg.Vb) ?_; rintro v_ L_ ⟨hv_, hL_⟩; rw [hv_, hL_]; clear hv_ hL_ v_ L_) | refine ⟨_, down_spec (i := 0) hP rfl hx hg.Vb, ?_⟩ | refine ⟨_, fun L0 hl0 => down_spec (i := 0) hP rfl hx hg.Vb, ?_⟩ | (refine SCall.mono (behind_spec hP hx) ?_; rintro v_ L_ ⟨hv_, hL_⟩; rw [hv_, hL_]; clear hv_ hL_ v_ L_) | refine ⟨_, behind_spec hP hx, ?_⟩ | refine ⟨_, fun L0 hl0 => behind_spec hP hx, ?_⟩ | refine And.intro (by omega) ?_ | fail); try (with_reducible refine stI ?_); try simp (maxSteps:=1000000)(dsimp:=false)(disch:=omega) only [go_sem, Φa, hP, hops])
  refine hK2 _ _ ?_
  try clear hK2 K2
  refine SX.seq_k fun K3 hK3 => ?_
  refine SX.region_d [some 2] rfl (fun ops hops => ?_)
  unfold Dsts at hops
  simp (maxSteps:=1000000)(dsimp:=false)(disch:=omega) only [go_sem, Φa, hP, hops]
  repeat' ((first | refine ⟨_, Cell.at 0 rfl rfl, ?_⟩ | refine ⟨0, _, _, _, rfl, (by rw [pcells_length]; omega), .inr (by first | decide | exact Nat.zero_le _), ?_⟩ | fail); try (with_reducible refine stI ?_); try simp (maxSteps:=1000000)(dsimp:=false)(disch:=omega) only [go_sem, Φa, hP, hops])
  refine hK3 _ _ ?_
  try clear hK3 K3
  refine SX.ret ?_
  simp only [andThen_normal, andThen_ret, andThen_exit, inBlk_normal, inBlk_ret, inBlk_exit, Nat.reduceEqDiff, if_true, if_false, ↓reduceIte, retQ_ret]
  try simp only [res0, res1, res2, res3, stK_e, go_sem, Φa, hP]
  exact ⟨_, _, Less.refl _, rfl, rfl, sv, pv, mv, q1, q2, q3, rfl, ⟨hr.st, hr.pg, hr.mm⟩⟩

end Go.Proofs.Ytgioegdjeodpiaa
set_option linter.unusedVariables false
set_option linter.unusedSimpArgs false
namespace Go.Proofs.Ytgioegdjeodpiaa
open Go.RowKit Go.SX

def plusG (g : GM) (o : Ord) : Int × GM := flagG g o (IntKind.u8.wrap (vG g o.x + vG g o.y)) (truthI (decide (255 < vG g o.x + vG g o.y)))
def minusG (g : GM) (o : Ord) : Int × GM := flagG g o (IntKind.u8.wrap (vG g o.x - vG g o.y)) (truthI (decide (vG g o.y ≤ vG g o.x)))
def keyG (g : GM) (o : Ord) (d : Feed) : Int × GM := if d.key < 0 then (2, g) else letG g o (IntKind.u8.wrap d.key)
def backG (g : GM) : Int × GM := if g.st.length = 0 then (6, g) else (1, { g with PC := g.st.getD (g.st.length - 1) 0, st := g.st.take (g.st.length - 1) })
def callG (g : GM) (o : Ord) : Int × GM := if g.st.length = 12 then (5, g) else (1, { g with st := g.st ++ [g.PC], PC := (o.a : Int) })
set_option maxHeartbeats 1000000 in
set_option maxRecDepth 100000 in
theorem plus_spec {Γ : Ctx} (hP : Γ.P = Try.prog) {L : Hp} {gp : Nat} {g : GM} {sv pv mv : Value} {o : Ord} {f : Fnt} {fv : Value} {d : Feed} {q1 q2 q3 : Slot} (hg : OkG g) (hr : Rows g sv pv mv q1 q2 q3) (ho : OkO o) (hx : o.x < 16) (hy : o.y < 16) (hd : OkD d) :
    SCall Γ 59 #[(.pointer (some ⟨gp, 0, none⟩))] (PS gp g sv pv mv o f fv d :: q1 :: q2 :: q3 :: L) (mres gp o f fv d L (plusG g o)) := by
  have hbx := byte_at hg.Vb o.x
  have hby := byte_at hg.Vb o.y
  have hob := ho.b
  have hoa := ho.a
  have hox := ho.x
  have hPCb := hg.PC
  have hIb := hg.I
  have hrb := hd.rnd
  have hkb := hd.keys
  have hdl := hg.dl
  have hsd := hg.sd
  refine SCall.enter (n := 21) (res1 2) (hP ▸ Try.func59) rfl rfl (by simp) (res1_ok rfl) ?_
  refine SX.seq_k fun K1 hK1 => ?_
  refine SX.region_d [some 2] rfl (fun ops hops => ?_)
  unfold Dsts at hops
  simp (maxSteps:=1000000)(dsimp:=false)(disch:=omega) only [go_sem, ia_someH, hP, hops]
  repeat' ((first | refine ⟨_, Cell.at 0 rfl rfl, ?_⟩ | refine ⟨0, _, _, _, rfl, (by rw [pcells_length]; omega), .inr (by first | decide | exact Nat.zero_le _), ?_⟩ | fail); try (with_reducible refine stI ?_); try simp (maxSteps:=1000000)(dsimp:=false)(disch:=omega) only [go_sem, ia_someH, hP, hops])
  refine hK1 _ _ ?_
  try clear hK1 K1
  refine SX.seq_k fun K2 hK2 => ?_
  refine SX.region_d [some 5, some 6, some 7, some 8, some 3, some 4] rfl (fun ops hops => ?_)
  unfold Dsts at hops
  simp (maxSteps:=1000000)(dsimp:=false)(disch:=omega) only [go_sem, ia_someH, hP, hops]
  repeat' ((first | refine ⟨_, Cell.at 0 rfl rfl, ?_⟩ | refine ⟨0, _, _, _, rfl, (by rw [pcells_length]; omega), .inr (by first | decide | exact Nat.zero_le _), ?_⟩ | (refine SCall.mono (x_spec (i := 0) hP rfl hx) ?_; rintro v_ L_ ⟨hv_, hL_⟩; rw [hv_, hL_]; clear hv_ hL_ v_ L_) | refine ⟨_, x_spec (i := 0) hP rfl hx, ?_⟩ | refine ⟨_, fun L0 hl0 => x_spec (i := 0) hP rfl hx, ?_⟩ | (refine SCall.mono (y_spec (i := 0) hP rfl hy) ?_; rintro v_ L_ ⟨hv_, hL_⟩; rw [hv_, hL_]; clear hv_ hL_ v_ L_) | refine ⟨_, y_spec (i := 0) hP rfl hy, ?_⟩ | refine ⟨_, fun L0 hl0 => y_spec (i := 0) hP rfl hy, ?_⟩ | (refine SCall.mono (let_spec hP hx hg.V) ?_; rintro v_ L_ ⟨hv_, hL_⟩; rw [hv_, hL_]; clear hv_ hL_ v_ L_) | refine ⟨_, let_spec hP hx hg.V, ?_⟩ | refine ⟨_, fun L0 hl0 => let_spec hP hx hg.V, ?_⟩ | (refine SCall.mono (skip_spec hP) ?_; rintro v_ L_ ⟨hv_, hL_⟩; rw [hv_, hL_]; clear hv_ hL_ v_ L_) | refine ⟨_, skip_spec hP, ?_⟩ | refine ⟨_, fun L0 hl0 => skip_spec hP, ?_⟩ | (refine SCall.mono (flagged_spec hP hx hg.V) ?_; rintro v_ L_ ⟨hv_, hL_⟩; rw [hv_, hL_]; clear hv_ hL_ v_ L_) | refine ⟨_, flagged_spec hP hx hg.V, ?_⟩ | refine ⟨_, fun L0 hl0 => flagged_spec hP hx hg.V, ?_⟩ | (refine SCall.mono (truth_spec hP _) ?_; rintro v_ L_ ⟨hv_, hL_⟩; rw [hv_, hL_]; clear hv_ hL_ v_ L_) | refine ⟨_, truth_spec hP _, ?_⟩ | refine ⟨_, fun L0 hl0 => truth_spec hP _, ?_⟩ | (refine SCall.mono (down_spec (i := 0) hP rfl hx hg.Vb) ?_; rintro v_ L_ ⟨hv_, hL_⟩; rw [hv_, hL_]; clear hv_ hL_ v_ L_) | refine ⟨_, down_spec (i := 0) hP rfl hx hg.Vb, ?_⟩ | refine ⟨_, fun L0 hl0 => down_spec (i := 0) hP rfl hx hg.Vb, ?_⟩ | (refine SCall.mono (behind_spec hP hx) ?_; rintro v_ L_ ⟨hv_, hL_⟩; rw [hv_, hL_]; clear hv_ hL_ v_ L_) | refine ⟨_, behind_spec hP hx, ?_⟩ | refine ⟨_, fun L0 hl0 => behind_spec hP hx, ?_⟩ | refine And.intro (by omega) ?_ | fail); try (with_reducible refine stI ?_); try simp (maxSteps:=1000000)(dsimp:=false)(disch:=omega) only [go_sem, ia_someH, hP, hops])
  refine hK2 _ _ ?_
  try clear hK2 K2
  refine SX.seq_k fun K3 hK3 => ?_
  refine SX.region_d [some 9, some 10, some 11, some 12, some 13, some 14, some 15, some 16, some 17, some 18, some 19, some 20, some 2] rfl (fun ops hops => ?_)
  unfold Dsts at hops
  simp (maxSteps:=1000000)(dsimp:=false)(disch:=omega) only [go_sem, ia_someH, hP, hops]
  repeat' ((first | refine ⟨_, Cell.at 0 rfl rfl, ?_⟩ | refine ⟨0, _, _, _, rfl, (by rw [pcells_length]; omega), .inr (by first | decide | exact Nat.zero_le _), ?_⟩ | (refine SCall.mono (x_spec (i := 0) hP rfl hx) ?_; rintro v_ L_ ⟨hv_, hL_⟩; rw [hv_, hL_]; clear hv_ hL_ v_ L_) | refine ⟨_, x_spec (i := 0) hP rfl hx, ?_⟩ | refine ⟨_, fun L0 hl0 => x_spec (i := 0) hP rfl hx, ?_⟩ | (refine SCall.mono (y_spec (i := 0) hP rfl hy) ?_; rintro v_ L_ ⟨hv_, hL_⟩; rw [hv_, hL_]; clear hv_ hL_ v_ L_) | refine ⟨_, y_spec (i := 0) hP rfl hy, ?_⟩ | refine ⟨_, fun L0 hl0 => y_spec (i := 0) hP rfl hy, ?_⟩ | (refine SCall.mono (let_spec hP hx hg.V) ?_; rintro v_ L_ ⟨hv_, hL_⟩; rw [hv_, hL_]; clear hv_ hL_ v_ L_) | refine ⟨_, let_spec hP hx hg.V, ?_⟩ | refine ⟨_, fun L0 hl0 => let_spec hP hx hg.V, ?_⟩ | (refine SCall.mono (skip_spec hP) ?_; rintro v_ L_ ⟨hv_, hL_⟩; rw [hv_, hL_]; clear hv_ hL_ v_ L_) | refine ⟨_, skip_spec hP, ?_⟩ | refine ⟨_, fun L0 hl0 => skip_spec hP, ?_⟩ | (refine SCall.mono (flagged_spec hP hx hg.V) ?_; rintro v_ L_ ⟨hv_, hL_⟩; rw [hv_, hL_]; clear hv_ hL_ v_ L_) | refine ⟨_, flagged_spec hP hx hg.V, ?_⟩ | refine ⟨_, fun L0 hl0 => flagged_spec hP hx hg.V, ?_⟩ | (refine SCall.mono (truth_spec hP _) ?_; rintro v_ L_ ⟨hv_, hL_⟩; rw [hv_, hL_]; clear hv_ hL_ v_ L_) | refine ⟨_, truth_spec hP _, ?_⟩ | refine ⟨_, fun L0 hl0 => truth_spec hP _, ?_⟩ | (refine SCall.mono (down_spec (i := 0) hP rfl hx hg.Vb) ?_; rintro v_ L_ ⟨hv_, hL_⟩; rw [hv_, hL_]; clear hv_ hL_ v_ L_) | refine ⟨_, down_spec (i := 0) hP rfl hx hg.Vb, ?_⟩ | refine ⟨_, fun L0 hl0 => down_spec (i := 0) hP rfl hx hg.Vb, ?_⟩ | (refine SCall.mono (behind_spec hP hx) ?_; rintro v_ L_ ⟨hv_, hL_⟩; rw [hv_, hL_]; clear hv_ hL_ v_ L_) | refine ⟨_, behind_spec hP hx, ?_⟩ | refine ⟨_, fun L0 hl0 => behind_spec hP hx, ?_⟩ | refine And.intro (by omega) ?_ | fail); try (with_reducible refine stI ?_); try simp (maxSteps:=1000000)(dsimp:=false)(disch:=omega) only [go_sem, ia_someH, hP, hops])
  refine hK3 _ _ ?_
  try clear hK3 K3
  refine SX.ret ?_
  simp only [andThen_normal, andThen_ret, andThen_exit, inBlk_normal, inBlk_ret, inBlk_exit, Nat.reduceEqDiff, if_true, if_false, ↓reduceIte, retQ_ret]
  try simp only [res0, res1, res2, res3, stK_e, go_sem, ia_someH, hP]
  refine ⟨_, _, Less.refl _, rfl, rfl, sv, pv, mv, q1, q2, q3, ?_, ?_⟩
  · unfold plusG flagG truthI vG; simp only [decide_eq_true_eq]
  · exact ⟨hr.st, hr.pg, hr.mm⟩
set_option maxHeartbeats 1000000 in
set_option maxRecDepth 100000 in
theorem minus_spec {Γ : Ctx} (hP : Γ.P = Try.prog) {L : Hp} {gp : Nat} {g : GM} {sv pv mv : Value} {o : Ord} {f : Fnt} {fv : Value} {d : Feed} {q1 q2 q3 : Slot} (hg : OkG g) (hr : Rows g sv pv mv q1 q2 q3) (ho : OkO o) (hx : o.x < 16) (hy : o.y < 16) (hd : OkD d) :
    SCall Γ 60 #[(.pointer (some ⟨gp, 0, none⟩))] (PS gp g sv pv mv o f fv d :: q1 :: q2 :: q3 :: L) (mres gp o f fv d L (minusG g o)) := by
  have hbx := byte_at hg.Vb o.x
  have hby := byte_at hg.Vb o.y
  have hob := ho.b
  have hoa := ho.a
  have hox := ho.x
  have hPCb := hg.PC
  have hIb := hg.I
  have hrb := hd.rnd
  have hkb := hd.keys
  have hdl := hg.dl
  have hsd := hg.sd
  refine SCall.enter (n := 18) (res1 2) (hP ▸ Try.func60) rfl rfl (by simp) (res1_ok rfl) ?_
  refine SX.seq_k fun K1 hK1 => ?_
  refine SX.region_d [some 2] rfl (fun ops hops => ?_)
  unfold Dsts at hops
  simp (maxSteps:=1000000)(dsimp:=false)(disch:=omega) only [go_sem, ia_someH, hP, hops]
  repeat' ((first | refine ⟨_, Cell.at 0 rfl rfl, ?_⟩ | refine ⟨0, _, _, _, rfl, (by rw [pcells_length]; omega), .inr (by first | decide | exact Nat.zero_le _), ?_⟩ | fail); try (with_reducible refine stI ?_); try simp (maxSteps:=1000000)(dsimp:=false)(disch:=omega) only [go_sem, ia_someH, hP, hops])
  refine hK1 _ _ ?_
  try clear hK1 K1
  refine SX.seq_k fun K2 hK2 => ?_
  refine SX.region_d [some 5, some 6, some 7, some 8, some 3, some 4] rfl (fun ops hops => ?_)
  unfold Dsts at hops
  simp (maxSteps:=1000000)(dsimp:=false)(disch:=omega) only [go_sem, ia_someH, hP, hops]
  repeat' ((first | refine ⟨_, Cell.at 0 rfl rfl, ?_⟩ | refine ⟨0, _, _, _, rfl, (by rw [pcells_length]; omega), .inr (by first | decide | exact Nat.zero_le _), ?_⟩ | (refine SCall.mono (x_spec (i := 0) hP rfl hx) ?_; rintro v_ L_ ⟨hv_, hL_⟩; rw [hv_, hL_]; clear hv_ hL_ v_ L_) | refine ⟨_, x_spec (i := 0) hP rfl hx, ?_⟩ | refine ⟨_, fun L0 hl0 => x_spec (i := 0) hP rfl hx, ?_⟩ | (refine SCall.mono (y_spec (i := 0) hP rfl hy) ?_; rintro v_ L_ ⟨hv_, hL_⟩; rw [hv_, hL_]; clear hv_ hL_ v_ L_) | refine ⟨_, y_spec (i := 0) hP rfl hy, ?_⟩ | refine ⟨_, fun L0 hl0 => y_spec (i := 0) hP rfl hy, ?_⟩ | (refine SCall.mono (let_spec hP hx hg.V) ?_; rintro v_ L_ ⟨hv_, hL_⟩; rw [hv_, hL_]; clear hv_ hL_ v_ L_) | refine ⟨_, let_spec hP hx hg.V, ?_⟩ | refine ⟨_, fun L0 hl0 => let_spec hP hx hg.V, ?_⟩ | (refine SCall.mono (skip_spec hP) ?_; rintro v_ L_ ⟨hv_, hL_⟩; rw [hv_, hL_]; clear hv_ hL_ v_ L_) | refine ⟨_, skip_spec hP, ?_⟩ | refine ⟨_, fun L0 hl0 => skip_spec hP, ?_⟩ | (refine SCall.mono (flagged_spec hP hx hg.V) ?_; rintro v_ L_ ⟨hv_, hL_⟩; rw [hv_, hL_]; clear hv_ hL_ v_ L_) | refine ⟨_, flagged_spec hP hx hg.V, ?_⟩ | refine ⟨_, fun L0 hl0 => flagged_spec hP hx hg.V, ?_⟩ | (refine SCall.mono (truth_spec hP _) ?_; rintro v_ L_ ⟨hv_, hL_⟩; rw [hv_, hL_]; clear hv_ hL_ v_ L_) | refine ⟨_, truth_spec hP _, ?_⟩ | refine ⟨_, fun L0 hl0 => truth_spec hP _, ?_⟩ | (refine SCall.mono (down_spec (i := 0) hP rfl hx hg.Vb) ?_; rintro v_ L_ ⟨hv_, hL_⟩; rw [hv_, hL_]; clear hv_ hL_ v_ L_) | refine ⟨_, down_spec (i := 0) hP rfl hx hg.Vb, ?_⟩ | refine ⟨_, fun L0 hl0 => down_spec (i := 0) hP rfl hx hg.Vb, ?_⟩ | (refine SCall.mono (behind_spec hP hx) ?_; rintro v_ L_ ⟨hv_, hL_⟩; rw [hv_, hL_]; clear hv_ hL_ v_ L_) | refine ⟨_, behind_spec hP hx, ?_⟩ | refine ⟨_, fun L0 hl0 => behind_spec hP hx, ?_⟩ | refine And.intro (by omega) ?_ | fail); try (with_reducible refine stI ?_); try simp (maxSteps:=1000000)(dsimp:=false)(disch:=omega) only [go_sem, ia_someH, hP, hops])
  refine hK2 _ _ ?_
  try clear hK2 K2
  refine SX.seq_k fun K3 hK3 => ?_
  refine SX.region_d [some 9, some 10, some 11, some 12, some 13, some 14, some 15, some 16, some 17, some 2] rfl (fun ops hops => ?_)
  unfold Dsts at hops
  simp (maxSteps:=1000000)(dsimp:=false)(disch:=omega) only [go_sem, ia_someH, hP, hops]
  repeat' ((first | refine ⟨_, Cell.at 0 rfl rfl, ?_⟩ | refine ⟨0, _, _, _, rfl, (by rw [pcells_length]; omega), .inr (by first | decide | exact Nat.zero_le _), ?_⟩ | (refine SCall.mono (x_spec (i := 0) hP rfl hx) ?_; rintro v_ L_ ⟨hv_, hL_⟩; rw [hv_, hL_]; clear hv_ hL_ v_ L_) | refine ⟨_, x_spec (i := 0) hP rfl hx, ?_⟩ | refine ⟨_, fun L0 hl0 => x_spec (i := 0) hP rfl hx, ?_⟩ | (refine SCall.mono (y_spec (i := 0) hP rfl hy) ?_; rintro v_ L_ ⟨hv_, hL_⟩; rw [hv_, hL_]; clear hv_ hL_ v_ L_) | refine ⟨_, y_spec (i := 0) hP rfl hy, ?_⟩ | refine ⟨_, fun L0 hl0 => y_spec (i := 0) hP rfl hy, ?_⟩ | (refine SCall.mono (let_spec hP hx hg.V) ?_; rintro v_ L_ ⟨hv_, hL_⟩; rw [hv_, hL_]; clear hv_ hL_ v_ L_) | refine ⟨_, let_spec hP hx hg.V, ?_⟩ | refine ⟨_, fun L0 hl0 => let_spec hP hx hg.V, ?_⟩ | (refine SCall.mono (skip_spec hP) ?_; rintro v_ L_ ⟨hv_, hL_⟩; rw [hv_, hL_]; clear hv_ hL_ v_ L_) | refine ⟨_, skip_spec hP, ?_⟩ | refine ⟨_, fun L0 hl0 => skip_spec hP, ?_⟩ | (refine SCall.mono (flagged_spec hP hx hg.V) ?_; rintro v_ L_ ⟨hv_, hL_⟩; rw [hv_, hL_]; clear hv_ hL_ v_ L_) | refine ⟨_, flagged_spec hP hx hg.V, ?_⟩ | refine ⟨_, fun L0 hl0 => flagged_spec hP hx hg.V, ?_⟩ | (refine SCall.mono (truth_spec hP _) ?_; rintro v_ L_ ⟨hv_, hL_⟩; rw [hv_, hL_]; clear hv_ hL_ v_ L_) | refine ⟨_, truth_spec hP _, ?_⟩ | refine ⟨_, fun L0 hl0 => truth_spec hP _, ?_⟩ | (refine SCall.mono (down_spec (i := 0) hP rfl hx hg.Vb) ?_; rintro v_ L_ ⟨hv_, hL_⟩; rw [hv_, hL_]; clear hv_ hL_ v_ L_) | refine ⟨_, down_spec (i := 0) hP rfl hx hg.Vb, ?_⟩ | refine ⟨_, fun L0 hl0 => down_spec (i := 0) hP rfl hx hg.Vb, ?_⟩ | (refine SCall.mono (behind_spec hP hx) ?_; rintro v_ L_ ⟨hv_, hL_⟩; rw [hv_, hL_]; clear hv_ hL_ v_ L_) | refine ⟨_, behind_spec hP hx, ?_⟩ | refine ⟨_, fun L0 hl0 => behind_spec hP hx, ?_⟩ | refine And.intro (by omega) ?_ | fail); try (with_reducible refine stI ?_); try simp (maxSteps:=1000000)(dsimp:=false)(disch:=omega) only [go_sem, ia_someH, hP, hops])
  refine hK3 _ _ ?_
  try clear hK3 K3
  refine SX.ret ?_
  simp only [andThen_normal, andThen_ret, andThen_exit, inBlk_normal, inBlk_ret, inBlk_exit, Nat.reduceEqDiff, if_true, if_false, ↓reduceIte, retQ_ret]
  try simp only [res0, res1, res2, res3, stK_e, go_sem, ia_someH, hP]
  refine ⟨_, _, Less.refl _, rfl, rfl, sv, pv, mv, q1, q2, q3, ?_, ?_⟩
  · unfold minusG flagG truthI vG; simp only [decide_eq_true_eq]
  · exact ⟨hr.st, hr.pg, hr.mm⟩
set_option maxHeartbeats 1000000 in
set_option maxRecDepth 100000 in
theorem jumpBy_spec {Γ : Ctx} (hP : Γ.P = Try.prog) {L : Hp} {gp : Nat} {g : GM} {sv pv mv : Value} {o : Ord} {f : Fnt} {fv : Value} {d : Feed} {q1 q2 q3 : Slot} (hg : OkG g) (hr : Rows g sv pv mv q1 q2 q3) (ho : OkO o) (hx : o.x < 16) (hy : o.y < 16) (hd : OkD d) :
    SCall Γ 63 #[(.pointer (some ⟨gp, 0, none⟩))] (PS gp g sv pv mv o f fv d :: q1 :: q2 :: q3 :: L) (mres gp o f fv d L (1, { g with PC := IntKind.u16.wrap ((o.a : Int) + vG g 0) })) := by
  have hbx := byte_at hg.Vb o.x
  have hby := byte_at hg.Vb o.y
  have hob := ho.b
  have hoa := ho.a
  have hox := ho.x
  have hPCb := hg.PC
  have hIb := hg.I
  have hrb := hd.rnd
  have hkb := hd.keys
  have hdl := hg.dl
  have hsd := hg.sd
  refine SCall.enter (n := 20) (res1 2) (hP ▸ Try.func63) rfl rfl (by simp) (res1_ok rfl) ?_
  refine SX.seq_k fun K1 hK1 => ?_
  refine SX.region_d [some 2] rfl (fun ops hops => ?_)
  unfold Dsts at hops
  simp (maxSteps:=1000000)(dsimp:=false)(disch:=omega) only [go_sem, ia_someH, hP, hops]
  repeat' ((first | refine ⟨_, Cell.at 0 rfl rfl, ?_⟩ | refine ⟨0, _, _, _, rfl, (by rw [pcells_length]; omega), .inr (by first | decide | exact Nat.zero_le _), ?_⟩ | fail); try (with_reducible refine stI ?_); try simp (maxSteps:=1000000)(dsimp:=false)(disch:=omega) only [go_sem, ia_someH, hP, hops])
  refine hK1 _ _ ?_
  try clear hK1 K1
  refine SX.seq_k fun K2 hK2 => ?_
  have hb0 := byte_at hg.Vb 0
  refine SX.drawn_d [(0, .q), (1, .q), (2, .q), (3, .q), (4, .q), (5, .q), (6, .q), (7, .q), (8, .q), (9, .q), (10, .q), (11, .q), (12, .q), (13, .q), (14, .q), (15, .q), (16, .q), (17, .t)] (fun L => L) (hP ▸ T.mixed) (by kernel_rfl) (by exact Less.refl _) [some 3, some 4, some 5, some 6, some 7, some 8, some 9, some 10, some 11, some 12, some 13, some 14, some 15, some 16, some 17, some 18, some 19, none] rfl (fun ops hops hopl => ?_)
  unfold Dsts at hops
  simp (maxSteps:=1000000)(dsimp:=false)(disch:=omega) only [go_sem, ia_someH, hP, hops, hopl]
  repeat' ((first | refine ⟨_, Cell.at 0 rfl (pV (x := 0) (by decide)), ?_⟩ | refine ⟨_, Cell.at 0 rfl rfl, ?_⟩ | refine ⟨0, _, _, _, rfl, (by rw [pcells_length]; omega), .inr (by first | decide | exact Nat.zero_le _), ?_⟩ | refine And.intro (by omega) ?_ | fail); try (with_reducible refine stI ?_); try simp (maxSteps:=1000000)(dsimp:=false)(disch:=omega) only [go_sem, ia_someH, hP, hops, hopl])
  refine hK2 _ _ ?_
  try clear hK2 K2
  refine SX.live [] (fun T1 hT1 => ?_)
  clear hT1
  refine SX.seq_k fun K3 hK3 => ?_
  refine SX.region_d [some 2] rfl (fun ops hops => ?_)
  unfold Dsts at hops
  simp (maxSteps:=1000000)(dsimp:=false)(disch:=omega) only [go_sem, ia_someH, hP, hops]
  repeat' ((first | refine ⟨_, Cell.at 0 rfl rfl, ?_⟩ | refine ⟨0, _, _, _, rfl, (by rw [pcells_length]; omega), .inr (by first | decide | exact Nat.zero_le _), ?_⟩ | fail); try (with_reducible refine stI ?_); try simp (maxSteps:=1000000)(dsimp:=false)(disch:=omega) only [go_sem, ia_someH, hP, hops])
  refine hK3 _ _ ?_
  try clear hK3 K3
  refine SX.ret ?_
  simp only [andThen_normal, andThen_ret, andThen_exit, inBlk_normal, inBlk_ret, inBlk_exit, Nat.reduceEqDiff, if_true, if_false, ↓reduceIte, retQ_ret]
  try simp only [res0, res1, res2, res3, stK_e, go_sem, ia_someH, hP]
  exact ⟨_, _, Less.refl _, rfl, rfl, sv, pv, mv, q1, q2, q3, rfl, ⟨hr.st, hr.pg, hr.mm⟩⟩
set_option maxHeartbeats 1000000 in
set_option maxRecDepth 100000 in
theorem on_spec {Γ : Ctx} (hP : Γ.P = Try.prog) {L : Hp} {gp : Nat} {g : GM} {sv pv mv : Value} {o : Ord} {f : Fnt} {fv : Value} {d : Feed} {q1 q2 q3 : Slot} (hg : OkG g) (hr : Rows g sv pv mv q1 q2 q3) (ho : OkO o) (hx : o.x < 16) (hy : o.y < 16) (hd : OkD d) :
    SCall Γ 72 #[(.pointer (some ⟨gp, 0, none⟩))] (PS gp g sv pv mv o f fv d :: q1 :: q2 :: q3 :: L) (mres gp o f fv d L (1, { g with I := IntKind.u16.wrap (g.I + vG g o.x) })) := by
  have hbx := byte_at hg.Vb o.x
  have hby := byte_at hg.Vb o.y
  have hob := ho.b
  have hoa := ho.a
  have hox := ho.x
  have hPCb := hg.PC
  have hIb := hg.I
  have hrb := hd.rnd
  have hkb := hd.keys
  have hdl := hg.dl
  have hsd := hg.sd
  refine SCall.enter (n := 15) (res1 2) (hP ▸ Try.func72) rfl rfl (by simp) (res1_ok rfl) ?_
  refine SX.seq_k fun K1 hK1 => ?_
  refine SX.region_d [some 2] rfl (fun ops hops => ?_)
  unfold Dsts at hops
  simp (maxSteps:=1000000)(dsimp:=false)(disch:=omega) only [go_sem, ia_someH, hP, hops]
  repeat' ((first | refine ⟨_, Cell.at 0 rfl rfl, ?_⟩ | refine ⟨0, _, _, _, rfl, (by rw [pcells_length]; omega), .inr (by first | decide | exact Nat.zero_le _), ?_⟩ | fail); try (with_reducible refine stI ?_); try simp (maxSteps:=1000000)(dsimp:=false)(disch:=omega) only [go_sem, ia_someH, hP, hops])
  refine hK1 _ _ ?_
  try clear hK1 K1
  refine SX.seq_k fun K2 hK2 => ?_
  refine SX.drawn_d [(0, .q), (1, .q), (2, .q), (3, .q), (4, .q), (5, .q), (6, .e), (7, .q), (8, .q), (9, .q), (10, .q), (11, .q), (12, .t)] (fun L => L) (hP ▸ T.mixed) (by kernel_rfl) (by exact Less.refl _) [some 3, some 4, some 5, some 6, some 7, some 8, some 9, some 10, some 11, some 12, some 13, some 14, none] rfl (fun ops hops hopl => ?_)
  unfold Dsts at hops
  simp (maxSteps:=1000000)(dsimp:=false)(disch:=omega) only [go_sem, ia_someH, hP, hops, hopl]
  repeat' ((first | refine ⟨_, Cell.at 0 rfl rfl, ?_⟩ | refine ⟨0, _, _, _, rfl, (by rw [pcells_length]; omega), .inr (by first | decide | exact Nat.zero_le _), ?_⟩ | (refine SCall.mono (x_spec (i := 0) hP rfl hx) ?_; rintro v_ L_ ⟨hv_, hL_⟩; rw [hv_, hL_]; clear hv_ hL_ v_ L_) | refine ⟨_, x_spec (i := 0) hP rfl hx, ?_⟩ | refine ⟨_, fun L0 hl0 => x_spec (i := 0) hP rfl hx, ?_⟩ | (refine SCall.mono (y_spec (i := 0) hP rfl hy) ?_; rintro v_ L_ ⟨hv_, hL_⟩; rw [hv_, hL_]; clear hv_ hL_ v_ L_) | refine ⟨_, y_spec (i := 0) hP rfl hy, ?_⟩ | refine ⟨_, fun L0 hl0 => y_spec (i := 0) hP rfl hy, ?_⟩ | (refine SCall.mono (let_spec hP hx hg.V) ?_; rintro v_ L_ ⟨hv_, hL_⟩; rw [hv_, hL_]; clear hv_ hL_ v_ L_) | refine ⟨_, let_spec hP hx hg.V, ?_⟩ | refine ⟨_, fun L0 hl0 => let_spec hP hx hg.V, ?_⟩ | (refine SCall.mono (skip_spec hP) ?_; rintro v_ L_ ⟨hv_, hL_⟩; rw [hv_, hL_]; clear hv_ hL_ v_ L_) | refine ⟨_, skip_spec hP, ?_⟩ | refine ⟨_, fun L0 hl0 => skip_spec hP, ?_⟩ | (refine SCall.mono (flagged_spec hP hx hg.V) ?_; rintro v_ L_ ⟨hv_, hL_⟩; rw [hv_, hL_]; clear hv_ hL_ v_ L_) | refine ⟨_, flagged_spec hP hx hg.V, ?_⟩ | refine ⟨_, fun L0 hl0 => flagged_spec hP hx hg.V, ?_⟩ | (refine SCall.mono (truth_spec hP _) ?_; rintro v_ L_ ⟨hv_, hL_⟩; rw [hv_, hL_]; clear hv_ hL_ v_ L_) | refine ⟨_, truth_spec hP _, ?_⟩ | refine ⟨_, fun L0 hl0 => truth_spec hP _, ?_⟩ | (refine SCall.mono (down_spec (i := 0) hP rfl hx hg.Vb) ?_; rintro v_ L_ ⟨hv_, hL_⟩; rw [hv_, hL_]; clear hv_ hL_ v_ L_) | refine ⟨_, down_spec (i := 0) hP rfl hx hg.Vb, ?_⟩ | refine ⟨_, fun L0 hl0 => down_spec (i := 0) hP rfl hx hg.Vb, ?_⟩ | (refine SCall.mono (behind_spec hP hx) ?_; rintro v_ L_ ⟨hv_, hL_⟩; rw [hv_, hL_]; clear hv_ hL_ v_ L_) | refine ⟨_, behind_spec hP hx, ?_⟩ | refine ⟨_, fun L0 hl0 => behind_spec hP hx, ?_⟩ | refine And.intro (by omega) ?_ | fail); try (with_reducible refine stI ?_); try simp (maxSteps:=1000000)(dsimp:=false)(disch:=omega) only [go_sem, ia_someH, hP, hops, hopl])
  refine hK2 _ _ ?_
  try clear hK2 K2
  refine SX.live [] (fun T1 hT1 => ?_)
  clear hT1
  refine SX.seq_k fun K3 hK3 => ?_
  refine SX.region_d [some 2] rfl (fun ops hops => ?_)
  unfold Dsts at hops
  simp (maxSteps:=1000000)(dsimp:=false)(disch:=omega) only [go_sem, ia_someH, hP, hops]
  repeat' ((first | refine ⟨_, Cell.at 0 rfl rfl, ?_⟩ | refine ⟨0, _, _, _, rfl, (by rw [pcells_length]; omega), .inr (by first | decide | exact Nat.zero_le _), ?_⟩ | fail); try (with_reducible refine stI ?_); try simp (maxSteps:=1000000)(dsimp:=false)(disch:=omega) only [go_sem, ia_someH, hP, hops])
  refine hK3 _ _ ?_
  try clear hK3 K3
  refine SX.ret ?_
  simp only [andThen_normal, andThen_ret, andThen_exit, inBlk_normal, inBlk_ret, inBlk_exit, Nat.reduceEqDiff, if_true, if_false, ↓reduceIte, retQ_ret]
  try simp only [res0, res1, res2, res3, stK_e, go_sem, ia_someH, hP]
  exact ⟨_, _, Less.refl _, rfl, rfl, sv, pv, mv, q1, q2, q3, rfl, ⟨hr.st, hr.pg, hr.mm⟩⟩
set_option maxHeartbeats 1000000 in
set_option maxRecDepth 100000 in
theorem digit_spec {Γ : Ctx} (hP : Γ.P = Try.prog) {L : Hp} {gp : Nat} {g : GM} {sv pv mv : Value} {o : Ord} {f : Fnt} {fv : Value} {d : Feed} {q1 q2 q3 : Slot} (hg : OkG g) (hr : Rows g sv pv mv q1 q2 q3) (ho : OkO o) (hx : o.x < 16) (hy : o.y < 16) (hd : OkD d) :
    SCall Γ 73 #[(.pointer (some ⟨gp, 0, none⟩))] (PS gp g sv pv mv o f fv d :: q1 :: q2 :: q3 :: L) (mres gp o f fv d L (1, { g with I := f.at_.getD (vG g o.x % 16).toNat 0 })) := by
  have hbx := byte_at hg.Vb o.x
  have hby := byte_at hg.Vb o.y
  have hob := ho.b
  have hoa := ho.a
  have hox := ho.x
  have hPCb := hg.PC
  have hIb := hg.I
  have hrb := hd.rnd
  have hkb := hd.keys
  have hdl := hg.dl
  have hsd := hg.sd
  refine SCall.enter (n := 16) (res1 2) (hP ▸ Try.func73) rfl rfl (by simp) (res1_ok rfl) ?_
  refine SX.seq_k fun K1 hK1 => ?_
  refine SX.region_d [some 2] rfl (fun ops hops => ?_)
  unfold Dsts at hops
  simp (maxSteps:=1000000)(dsimp:=false)(disch:=omega) only [go_sem, ia_someH, hP, hops]
  repeat' ((first | refine ⟨_, Cell.at 0 rfl rfl, ?_⟩ | refine ⟨0, _, _, _, rfl, (by rw [pcells_length]; omega), .inr (by first | decide | exact Nat.zero_le _), ?_⟩ | fail); try (with_reducible refine stI ?_); try simp (maxSteps:=1000000)(dsimp:=false)(disch:=omega) only [go_sem, ia_someH, hP, hops])
  refine hK1 _ _ ?_
  try clear hK1 K1
  refine SX.seq_k fun K2 hK2 => ?_
  have h15 := u8_and15 (g.V.getD o.x 0) hbx.1 (by omega)
  have hm16 : (g.V.getD o.x 0 % 16).toNat < 16 := by omega
  refine SX.drawn_d [(0, .q), (1, .q), (2, .q), (5, .q), (6, .q), (7, .q), (3, .e), (4, .q), (8, .q), (9, .q), (10, .q), (11, .q), (12, .q), (13, .t)] (fun L => L) (hP ▸ T.mixed) (by kernel_rfl) (by exact Less.refl _) [some 3, some 4, some 5, some 6, some 7, some 8, some 9, some 10, some 11, some 12, some 13, some 14, some 15, none] rfl (fun ops hops hopl => ?_)
  unfold Dsts at hops
  simp (maxSteps:=1000000)(dsimp:=false)(disch:=omega) only [go_sem, ia_someH, hP, hops, hopl, h15]
  repeat' ((first | refine ⟨_, Cell.at 0 rfl (pAt hm16), ?_⟩ | refine ⟨_, Cell.at 0 rfl rfl, ?_⟩ | refine ⟨0, _, _, _, rfl, (by rw [pcells_length]; omega), .inr (by first | decide | exact Nat.zero_le _), ?_⟩ | (refine SCall.mono (x_spec (i := 0) hP rfl hx) ?_; rintro v_ L_ ⟨hv_, hL_⟩; rw [hv_, hL_]; clear hv_ hL_ v_ L_) | refine ⟨_, x_spec (i := 0) hP rfl hx, ?_⟩ | refine ⟨_, fun L0 hl0 => x_spec (i := 0) hP rfl hx, ?_⟩ | (refine SCall.mono (y_spec (i := 0) hP rfl hy) ?_; rintro v_ L_ ⟨hv_, hL_⟩; rw [hv_, hL_]; clear hv_ hL_ v_ L_) | refine ⟨_, y_spec (i := 0) hP rfl hy, ?_⟩ | refine ⟨_, fun L0 hl0 => y_spec (i := 0) hP rfl hy, ?_⟩ | (refine SCall.mono (let_spec hP hx hg.V) ?_; rintro v_ L_ ⟨hv_, hL_⟩; rw [hv_, hL_]; clear hv_ hL_ v_ L_) | refine ⟨_, let_spec hP hx hg.V, ?_⟩ | refine ⟨_, fun L0 hl0 => let_spec hP hx hg.V, ?_⟩ | (refine SCall.mono (skip_spec hP) ?_; rintro v_ L_ ⟨hv_, hL_⟩; rw [hv_, hL_]; clear hv_ hL_ v_ L_) | refine ⟨_, skip_spec hP, ?_⟩ | refine ⟨_, fun L0 hl0 => skip_spec hP, ?_⟩ | (refine SCall.mono (flagged_spec hP hx hg.V) ?_; rintro v_ L_ ⟨hv_, hL_⟩; rw [hv_, hL_]; clear hv_ hL_ v_ L_) | refine ⟨_, flagged_spec hP hx hg.V, ?_⟩ | refine ⟨_, fun L0 hl0 => flagged_spec hP hx hg.V, ?_⟩ | (refine SCall.mono (truth_spec hP _) ?_; rintro v_ L_ ⟨hv_, hL_⟩; rw [hv_, hL_]; clear hv_ hL_ v_ L_) | refine ⟨_, truth_spec hP _, ?_⟩ | refine ⟨_, fun L0 hl0 => truth_spec hP _, ?_⟩ | (refine SCall.mono (down_spec (i := 0) hP rfl hx hg.Vb) ?_; rintro v_ L_ ⟨hv_, hL_⟩; rw [hv_, hL_]; clear hv_ hL_ v_ L_) | refine ⟨_, down_spec (i := 0) hP rfl hx hg.Vb, ?_⟩ | refine ⟨_, fun L0 hl0 => down_spec (i := 0) hP rfl hx hg.Vb, ?_⟩ | (refine SCall.mono (behind_spec hP hx) ?_; rintro v_ L_ ⟨hv_, hL_⟩; rw [hv_, hL_]; clear hv_ hL_ v_ L_) | refine ⟨_, behind_spec hP hx, ?_⟩ | refine ⟨_, fun L0 hl0 => behind_spec hP hx, ?_⟩ | refine And.intro (by omega) ?_ | fail); try (with_reducible refine stI ?_); try simp (maxSteps:=1000000)(dsimp:=false)(disch:=omega) only [go_sem, ia_someH, hP, hops, hopl, h15])
  refine hK2 _ _ ?_
  try clear hK2 K2
  refine SX.live [] (fun T1 hT1 => ?_)
  clear hT1
  refine SX.seq_k fun K3 hK3 => ?_
  refine SX.region_d [some 2] rfl (fun ops hops => ?_)
  unfold Dsts at hops
  simp (maxSteps:=1000000)(dsimp:=false)(disch:=omega) only [go_sem, ia_someH, hP, hops]
  repeat' ((first | refine ⟨_, Cell.at 0 rfl rfl, ?_⟩ | refine ⟨0, _, _, _, rfl, (by rw [pcells_length]; omega), .inr (by first | decide | exact Nat.zero_le _), ?_⟩ | fail); try (with_reducible refine stI ?_); try simp (maxSteps:=1000000)(dsimp:=false)(disch:=omega) only [go_sem, ia_someH, hP, hops])
  refine hK3 _ _ ?_
  try clear hK3 K3
  refine SX.ret ?_
  simp only [andThen_normal, andThen_ret, andThen_exit, inBlk_normal, inBlk_ret, inBlk_exit, Nat.reduceEqDiff, if_true, if_false, ↓reduceIte, retQ_ret]
  try simp only [res0, res1, res2, res3, stK_e, go_sem, ia_someH, hP]
  exact ⟨_, _, Less.refl _, rfl, rfl, sv, pv, mv, q1, q2, q3, rfl, ⟨hr.st, hr.pg, hr.mm⟩⟩
set_option maxHeartbeats 1000000 in
set_option maxRecDepth 100000 in
theorem key_spec {Γ : Ctx} (hP : Γ.P = Try.prog) {L : Hp} {gp : Nat} {g : GM} {sv pv mv : Value} {o : Ord} {f : Fnt} {fv : Value} {d : Feed} {q1 q2 q3 : Slot} (hg : OkG g) (hr : Rows g sv pv mv q1 q2 q3) (ho : OkO o) (hx : o.x < 16) (hy : o.y < 16) (hd : OkD d) :
    SCall Γ 69 #[(.pointer (some ⟨gp, 0, none⟩))] (PS gp g sv pv mv o f fv d :: q1 :: q2 :: q3 :: L) (mres gp o f fv d L (keyG g o d)) := by
  have hbx := byte_at hg.Vb o.x
  have hby := byte_at hg.Vb o.y
  have hob := ho.b
  have hoa := ho.a
  have hox := ho.x
  have hPCb := hg.PC
  have hIb := hg.I
  have hrb := hd.rnd
  have hkb := hd.keys
  have hdl := hg.dl
  have hsd := hg.sd
  refine SCall.enter (n := 17) (res1 2) (hP ▸ Try.func69) rfl rfl (by simp) (res1_ok rfl) ?_
  refine SX.seq_k fun K1 hK1 => ?_
  refine SX.region_d [some 2] rfl (fun ops hops => ?_)
  unfold Dsts at hops
  simp (maxSteps:=1000000)(dsimp:=false)(disch:=omega) only [go_sem, ia_someH, hP, hops]
  repeat' ((first | refine ⟨_, Cell.at 0 rfl rfl, ?_⟩ | refine ⟨0, _, _, _, rfl, (by rw [pcells_length]; omega), .inr (by first | decide | exact Nat.zero_le _), ?_⟩ | fail); try (with_reducible refine stI ?_); try simp (maxSteps:=1000000)(dsimp:=false)(disch:=omega) only [go_sem, ia_someH, hP, hops])
  refine hK1 _ _ ?_
  try clear hK1 K1
  refine SX.seq_k fun K2 hK2 => ?_
  refine SX.seq_k fun K3 hK3 => ?_
  refine SX.region_d [some 3, some 4, some 5, some 6, some 7, some 8] rfl (fun ops hops => ?_)
  unfold Dsts at hops
  simp (maxSteps:=1000000)(dsimp:=false)(disch:=omega) only [go_sem, ia_someH, hP, hops]
  repeat' ((first | refine ⟨_, Cell.at 0 rfl rfl, ?_⟩ | refine ⟨0, _, _, _, rfl, (by rw [pcells_length]; omega), .inr (by first | decide | exact Nat.zero_le _), ?_⟩ | refine And.intro (by omega) ?_ | fail); try (with_reducible refine stI ?_); try simp (maxSteps:=1000000)(dsimp:=false)(disch:=omega) only [go_sem, ia_someH, hP, hops])
  refine hK3 _ _ ?_
  try clear hK3 K3
  refine SX.cond_k fun X4 Y4 hX4 hY4 => ?_
  simp (maxSteps:=1000000)(dsimp:=false)(disch:=omega) only [go_sem, ia_someH, hP, condVC]
  refine ⟨fun hc8 => hX4 ?_, fun hc8 => hY4 ?_⟩
  · clear hX4 hY4 X4 Y4
    refine SX.seq_k fun K5 hK5 => ?_
    refine SX.region_d [some 2] rfl (fun ops hops => ?_)
    unfold Dsts at hops
    simp (maxSteps:=1000000)(dsimp:=false)(disch:=omega) only [go_sem, ia_someH, hP, hops]
    repeat' ((first | refine ⟨_, Cell.at 0 rfl rfl, ?_⟩ | refine ⟨0, _, _, _, rfl, (by rw [pcells_length]; omega), .inr (by first | decide | exact Nat.zero_le _), ?_⟩ | fail); try (with_reducible refine stI ?_); try simp (maxSteps:=1000000)(dsimp:=false)(disch:=omega) only [go_sem, ia_someH, hP, hops])
    refine hK5 _ _ ?_
    try clear hK5 K5
    refine SX.ret ?_
    simp only [andThen_normal, andThen_ret, andThen_exit, inBlk_normal, inBlk_ret, inBlk_exit, Nat.reduceEqDiff, if_true, if_false, ↓reduceIte, retQ_ret]
    try simp only [res0, res1, res2, res3, stK_e, go_sem, ia_someH, hP]
    refine ⟨_, _, Less.refl _, rfl, ?_⟩
    unfold keyG
    rw [if_pos (by first | exact hc7 | omega)]
    exact ⟨rfl, sv, pv, mv, q1, q2, q3, rfl, hr⟩
  · clear hX4 hY4 X4 Y4
    refine SX.skip ?_
    try simp only [andThen_normal, andThen_ret, andThen_exit, inBlk_normal, inBlk_ret, inBlk_exit, Nat.reduceEqDiff, if_true, if_false, ↓reduceIte]
    refine hK2 _ _ ?_
    try clear hK2 K2
    refine SX.seq_k fun K6 hK6 => ?_
    refine SX.region_d [some 9, some 10, some 11, some 12, some 13, some 14, some 15, some 16] rfl (fun ops hops => ?_)
    unfold Dsts at hops
    simp (maxSteps:=1000000)(dsimp:=false)(disch:=omega) only [go_sem, ia_someH, hP, hops]
    repeat' ((first | refine ⟨_, Cell.at 0 rfl rfl, ?_⟩ | refine ⟨0, _, _, _, rfl, (by rw [pcells_length]; omega), .inr (by first | decide | exact Nat.zero_le _), ?_⟩ | (refine SCall.mono (x_spec (i := 0) hP rfl hx) ?_; rintro v_ L_ ⟨hv_, hL_⟩; rw [hv_, hL_]; clear hv_ hL_ v_ L_) | refine ⟨_, x_spec (i := 0) hP rfl hx, ?_⟩ | refine ⟨_, fun L0 hl0 => x_spec (i := 0) hP rfl hx, ?_⟩ | (refine SCall.mono (y_spec (i := 0) hP rfl hy) ?_; rintro v_ L_ ⟨hv_, hL_⟩; rw [hv_, hL_]; clear hv_ hL_ v_ L_) | refine ⟨_, y_spec (i := 0) hP rfl hy, ?_⟩ | refine ⟨_, fun L0 hl0 => y_spec (i := 0) hP rfl hy, ?_⟩ | (refine SCall.mono (let_spec hP hx hg.V) ?_; rintro v_ L_ ⟨hv_, hL_⟩; rw [hv_, hL_]; clear hv_ hL_ v_ L_) | refine ⟨_, let_spec hP hx hg.V, ?_⟩ | refine ⟨_, fun L0 hl0 => let_spec hP hx hg.V, ?_⟩ | (refine SCall.mono (skip_spec hP) ?_; rintro v_ L_ ⟨hv_, hL_⟩; rw [hv_, hL_]; clear hv_ hL_ v_ L_) | refine ⟨_, skip_spec hP, ?_⟩ | refine ⟨_, fun L0 hl0 => skip_spec hP, ?_⟩ | (refine SCall.mono (flagged_spec hP hx hg.V) ?_; rintro v_ L_ ⟨hv_, hL_⟩; rw [hv_, hL_]; clear hv_ hL_ v_ L_) | refine ⟨_, flagged_spec hP hx hg.V, ?_⟩ | refine ⟨_, fun L0 hl0 => flagged_spec hP hx hg.V, ?_⟩ | (refine SCall.mono (truth_spec hP _) ?_; rintro v_ L_ ⟨hv_, hL_⟩; rw [hv_, hL_]; clear hv_ hL_ v_ L_) | refine ⟨_, truth_spec hP _, ?_⟩ | refine ⟨_, fun L0 hl0 => truth_spec hP _, ?_⟩ | (refine SCall.mono (down_spec (i := 0) hP rfl hx hg.Vb) ?_; rintro v_ L_ ⟨hv_, hL_⟩; rw [hv_, hL_]; clear hv_ hL_ v_ L_) | refine ⟨_, down_spec (i := 0) hP rfl hx hg.Vb, ?_⟩ | refine ⟨_, fun L0 hl0 => down_spec (i := 0) hP rfl hx hg.Vb, ?_⟩ | (refine SCall.mono (behind_spec hP hx) ?_; rintro v_ L_ ⟨hv_, hL_⟩; rw [hv_, hL_]; clear hv_ hL_ v_ L_) | refine ⟨_, behind_spec hP hx, ?_⟩ | refine ⟨_, fun L0 hl0 => behind_spec hP hx, ?_⟩ | refine And.intro (by omega) ?_ | fail); try (with_reducible refine stI ?_); try simp (maxSteps:=1000000)(dsimp:=false)(disch:=omega) only [go_sem, ia_someH, hP, hops])
    refine hK6 _ _ ?_
    try clear hK6 K6
    refine SX.live [] (fun T1 hT1 => ?_)
    clear hT1
    refine SX.seq_k fun K7 hK7 => ?_
    refine SX.region_d [some 2] rfl (fun ops hops => ?_)
    unfold Dsts at hops
    simp (maxSteps:=1000000)(dsimp:=false)(disch:=omega) only [go_sem, ia_someH, hP, hops]
    repeat' ((first | refine ⟨_, Cell.at 0 rfl rfl, ?_⟩ | refine ⟨0, _, _, _, rfl, (by rw [pcells_length]; omega), .inr (by first | decide | exact Nat.zero_le _), ?_⟩ | fail); try (with_reducible refine stI ?_); try simp (maxSteps:=1000000)(dsimp:=false)(disch:=omega) only [go_sem, ia_someH, hP, hops])
    refine hK7 _ _ ?_
    try clear hK7 K7
    refine SX.ret ?_
    simp only [andThen_normal, andThen_ret, andThen_exit, inBlk_normal, inBlk_ret, inBlk_exit, Nat.reduceEqDiff, if_true, if_false, ↓reduceIte, retQ_ret]
    try simp only [res0, res1, res2, res3, stK_e, go_sem, ia_someH, hP]
    refine ⟨_, _, Less.refl _, rfl, ?_⟩
    unfold keyG
    rw [if_neg (by first | exact hc7 | omega)]
    exact ⟨rfl, sv, pv, mv, q1, q2, q3, rfl, ⟨hr.st, hr.pg, hr.mm⟩⟩

end Go.Proofs.Ytgioegdjeodpiaa
set_option linter.unusedVariables false
set_option linter.unusedSimpArgs false
namespace Go.Proofs.Ytgioegdjeodpiaa
open Go.RowKit Go.SX
open Go.SX renaming ia_someH → Φa

theorem lessPut (p : Slot) (i : Nat) (L : Hp) : Less (p :: L) (L.set i p) := fun _ _ h => h.put i
theorem rowMade (k : IntKind) (e b n : Nat) (hb : n ≤ 9223372036854775807) : RowI k e (.slice (some ⟨b, 0, none⟩) (List.replicate n (0 : Int)).length n) (List.replicate n 0) (some (b, .cells (zerosV [.int k 0] n).toArray e (0, 0))) := by
  have h : zerosV [.int k 0] n = ints k (List.replicate n 0) ++ [] := by simp [zerosV, ints]
  exact ⟨by rw [ints_length, Nat.mul_one], .inr ⟨b, n, [], rfl, by rw [h], ⟨by simp, hb⟩, by simp [ints_length]⟩⟩
theorem rowShape {k : IntKind} {e : Nat} {v : Value} {l : List Int} {s : Slot} (h : RowI k e v l s) : ∃ A c, v = .slice A l.length c ∧ l.length ≤ c := by
  rcases h with ⟨_, ⟨rfl, hn, _⟩ | ⟨r, cap, junk, rfl, _, h3, _⟩⟩
  · exact ⟨none, 0, by rw [hn], by omega⟩
  · exact ⟨_, _, rfl, h3.1⟩
theorem takeSplit {k : IntKind} {l : List Int} {n : Nat} {js : List Value} : ints k l ++ js = ints k (l.take n) ++ (ints k (l.drop n) ++ js) := by rw [← List.append_assoc, ← ints_app, List.take_append_drop]
theorem slTake {Γ : Ctx} {L : Hp} {k : IntKind} {xs : List Int} {js : List Value} {b n c : Nat} {e : TypeId} {fr : Nat × Nat} (i : Nat) (hL : L[i]? = some (some (b, .cells (ints k xs ++ js).toArray e fr))) (hn : n ≤ xs.length) (hc : n ≤ c) : SlI k (Cell Γ L) (.slice (some ⟨b, 0, none⟩) n c) (xs.take n) :=
  SlI.row i (by rw [hL, takeSplit (n := n)]) (by simp; omega) hc
theorem lessOne (p : Slot) : ∀ L : Hp, Less (p :: L) [p]
  | [] => Less.refl _
  | q :: L => (lessPut p 0 (q :: L)).trans (lessOne p L)
def cloneR (k : IntKind) (e : Nat) (L : Hp) (l : List Int) (v : Value) (L' : Hp) : Prop := ∃ s, L' = s :: L ∧ RowI k e v l s
theorem rowEmpty (k : IntKind) (e b : Nat) : RowI k e (.slice (some ⟨b, 0, none⟩) 0 0) [] (some (b, .cells #[] e (0, 0))) := ⟨rfl, .inr ⟨b, 0, [], rfl, rfl, ⟨Nat.le_refl _, by decide⟩, rfl⟩⟩
theorem wd_app {l : List Int} (h : Wd l) {x : Int} (hx : 0 ≤ x ∧ x ≤ 65535) : Wd (l ++ [x]) := fun y hy => by
  rcases List.mem_append.1 hy with h1 | h1
  · exact h y h1
  · rw [List.mem_singleton.1 h1]; exact hx
set_option maxHeartbeats 1000000 in
set_option maxRecDepth 100000 in
theorem cloneW_spec {Γ : Ctx} (hP : Γ.P = Try.prog) {L : Hp} {v : Value} {l : List Int} (hx : SlI .u16 (Cell Γ L) v l) (hl : l.length ≤ 1000000) :
    SCall Γ 45 #[v] L (cloneR .u16 26 L l) := by
  obtain ⟨A, c, rfl, hc, hA⟩ := id hx
  refine SCall.enter (n := 8) (res1 2) (hP ▸ Try.func45) rfl rfl (by simp) (res1_ok rfl) ?_
  refine SX.seq_k fun K1 hK1 => ?_
  refine SX.region_d [some 2] rfl (fun ops hops => ?_)
  unfold Dsts at hops
  simp (maxSteps:=1000000)(dsimp:=false)(disch:=omega) only [go_sem, Φa, hP, hops]
  refine hK1 _ _ ?_
  try clear hK1 K1
  refine SX.seq_k fun K2 hK2 => ?_
  refine SX.seq_k fun K3 hK3 => ?_
  refine SX.region_d [some 3, some 4] rfl (fun ops hops => ?_)
  unfold Dsts at hops
  simp (maxSteps:=1000000)(dsimp:=false)(disch:=omega) only [go_sem, Φa, hP, hops]
  repeat' ((first | refine And.intro (by omega) ?_ | fail); try (with_reducible refine stI ?_); try simp (maxSteps:=1000000)(dsimp:=false)(disch:=omega) only [go_sem, Φa, hP, hops])
  refine hK3 _ _ ?_
  try clear hK3 K3
  refine SX.cond_k fun X4 Y4 hX4 hY4 => ?_
  simp (maxSteps:=1000000)(dsimp:=false)(disch:=omega) only [go_sem, Φa, hP, condVC]
  refine ⟨fun hc4 => hX4 ?_, fun hc4 => hY4 ?_⟩
  · clear hX4 hY4 X4 Y4
    refine SX.seq_k fun K5 hK5 => ?_
    refine SX.region_d [some 2] rfl (fun ops hops => ?_)
    unfold Dsts at hops
    simp (maxSteps:=1000000)(dsimp:=false)(disch:=omega) only [go_sem, Φa, hP, hops]
    refine hK5 _ _ ?_
    try clear hK5 K5
    refine SX.ret ?_
    simp only [andThen_normal, andThen_ret, andThen_exit, inBlk_normal, inBlk_ret, inBlk_exit, Nat.reduceEqDiff, if_true, if_false, ↓reduceIte, retQ_ret]
    try simp only [res0, res1, res2, res3, stK_e, go_sem, Φa, hP]
    rcases A with _ | A
    · obtain rfl : l = [] := by
        cases l with
        | nil => rfl
        | cons x xs =>
          obtain ⟨a, h, _⟩ := hA 0 x rfl
          cases h
      exact ⟨_, _, Less.none _, rfl, none, rfl, RowI.nil _ _⟩
    · exact absurd hc4 (by simp)
  · clear hX4 hY4 X4 Y4
    refine SX.skip ?_
    try simp only [andThen_normal, andThen_ret, andThen_exit, inBlk_normal, inBlk_ret, inBlk_exit, Nat.reduceEqDiff, if_true, if_false, ↓reduceIte]
    refine hK2 _ _ ?_
    try clear hK2 K2
    refine SX.seq_k fun K6 hK6 => ?_
    rcases A with _ | A
    · exact absurd hc4 (by simp)
    refine SX.region_d [some 5, some 6, some 7, some 2] rfl (fun ops hops => ?_)
    unfold Dsts at hops
    simp (maxSteps:=1000000)(dsimp:=false)(disch:=omega) only [go_sem, Φa, hP, hops]
    intro bb
    try with_reducible refine stI ?_
    try simp (maxSteps:=1000000)(dsimp:=false)(disch:=omega) only [go_sem, Φa, hP, hops]
    refine YAppend.ints (i := 0) (hP ▸ T.elS_27) (hP ▸ T.zr_26) rfl rfl (rowEmpty .u16 26 bb) (SlI.cons _ hx) (by simp; omega) (by decide) (fun v_ s_ hr_ => ?_)
    try with_reducible refine stI ?_
    try simp (maxSteps:=1000000)(dsimp:=false)(disch:=omega) only [go_sem, Φa, hP, hops]
    refine hK6 _ _ ?_
    try clear hK6 K6
    refine SX.ret ?_
    simp only [andThen_normal, andThen_ret, andThen_exit, inBlk_normal, inBlk_ret, inBlk_exit, Nat.reduceEqDiff, if_true, if_false, ↓reduceIte, retQ_ret]
    try simp only [res0, res1, res2, res3, stK_e, go_sem, Φa, hP]
    exact ⟨_, _, Less.refl _, rfl, s_, rfl, hr_⟩
set_option maxHeartbeats 1000000 in
set_option maxRecDepth 100000 in
theorem cloneB_spec {Γ : Ctx} (hP : Γ.P = Try.prog) {L : Hp} {v : Value} {l : List Int} (hx : SlI .u8 (Cell Γ L) v l) (hl : l.length ≤ 1000000) :
    SCall Γ 46 #[v] L (cloneR .u8 5 L l) := by
  obtain ⟨A, c, rfl, hc, hA⟩ := id hx
  refine SCall.enter (n := 8) (res1 2) (hP ▸ Try.func46) rfl rfl (by simp) (res1_ok rfl) ?_
  refine SX.seq_k fun K1 hK1 => ?_
  refine SX.region_d [some 2] rfl (fun ops hops => ?_)
  unfold Dsts at hops
  simp (maxSteps:=1000000)(dsimp:=false)(disch:=omega) only [go_sem, Φa, hP, hops]
  refine hK1 _ _ ?_
  try clear hK1 K1
  refine SX.seq_k fun K2 hK2 => ?_
  refine SX.seq_k fun K3 hK3 => ?_
  refine SX.region_d [some 3, some 4] rfl (fun ops hops => ?_)
  unfold Dsts at hops
  simp (maxSteps:=1000000)(dsimp:=false)(disch:=omega) only [go_sem, Φa, hP, hops]
  repeat' ((first | refine And.intro (by omega) ?_ | fail); try (with_reducible refine stI ?_); try simp (maxSteps:=1000000)(dsimp:=false)(disch:=omega) only [go_sem, Φa, hP, hops])
  refine hK3 _ _ ?_
  try clear hK3 K3
  refine SX.cond_k fun X4 Y4 hX4 hY4 => ?_
  simp (maxSteps:=1000000)(dsimp:=false)(disch:=omega) only [go_sem, Φa, hP, condVC]
  refine ⟨fun hc4 => hX4 ?_, fun hc4 => hY4 ?_⟩
  · clear hX4 hY4 X4 Y4
    refine SX.seq_k fun K5 hK5 => ?_
    refine SX.region_d [some 2] rfl (fun ops hops => ?_)
    unfold Dsts at hops
    simp (maxSteps:=1000000)(dsimp:=false)(disch:=omega) only [go_sem, Φa, hP, hops]
    refine hK5 _ _ ?_
    try clear hK5 K5
    refine SX.ret ?_
    simp only [andThen_normal, andThen_ret, andThen_exit, inBlk_normal, inBlk_ret, inBlk_exit, Nat.reduceEqDiff, if_true, if_false, ↓reduceIte, retQ_ret]
    try simp only [res0, res1, res2, res3, stK_e, go_sem, Φa, hP]
    rcases A with _ | A
    · obtain rfl : l = [] := by
        cases l with
        | nil => rfl
        | cons x xs =>
          obtain ⟨a, h, _⟩ := hA 0 x rfl
          cases h
      exact ⟨_, _, Less.none _, rfl, none, rfl, RowI.nil _ _⟩
    · exact absurd hc4 (by simp)
  · clear hX4 hY4 X4 Y4
    refine SX.skip ?_
    try simp only [andThen_normal, andThen_ret, andThen_exit, inBlk_normal, inBlk_ret, inBlk_exit, Nat.reduceEqDiff, if_true, if_false, ↓reduceIte]
    refine hK2 _ _ ?_
    try clear hK2 K2
    refine SX.seq_k fun K6 hK6 => ?_
    rcases A with _ | A
    · exact absurd hc4 (by simp)
    refine SX.region_d [some 5, some 6, some 7, some 2] rfl (fun ops hops => ?_)
    unfold Dsts at hops
    simp (maxSteps:=1000000)(dsimp:=false)(disch:=omega) only [go_sem, Φa, hP, hops]
    intro bb
    try with_reducible refine stI ?_
    try simp (maxSteps:=1000000)(dsimp:=false)(disch:=omega) only [go_sem, Φa, hP, hops]
    refine YAppend.ints (i := 0) (hP ▸ T.elS_23) (hP ▸ T.zr_5) rfl rfl (rowEmpty .u8 5 bb) (SlI.cons _ hx) (by simp; omega) (by decide) (fun v_ s_ hr_ => ?_)
    try with_reducible refine stI ?_
    try simp (maxSteps:=1000000)(dsimp:=false)(disch:=omega) only [go_sem, Φa, hP, hops]
    refine hK6 _ _ ?_
    try clear hK6 K6
    refine SX.ret ?_
    simp only [andThen_normal, andThen_ret, andThen_exit, inBlk_normal, inBlk_ret, inBlk_exit, Nat.reduceEqDiff, if_true, if_false, ↓reduceIte, retQ_ret]
    try simp only [res0, res1, res2, res3, stK_e, go_sem, Φa, hP]
    exact ⟨_, _, Less.refl _, rfl, s_, rfl, hr_⟩
set_option maxHeartbeats 1000000 in
set_option maxRecDepth 100000 in
theorem clear_spec {Γ : Ctx} (hP : Γ.P = Try.prog) {L : Hp} {gp : Nat} {g : GM} {sv pv mv : Value} {o : Ord} {f : Fnt} {fv : Value} {d : Feed} {q1 q2 q3 : Slot} (hg : OkG g) (hr : Rows g sv pv mv q1 q2 q3) (ho : OkO o) (hx : o.x < 16) (hy : o.y < 16) (hd : OkD d) :
    SCall Γ 47 #[(.pointer (some ⟨gp, 0, none⟩))] (PS gp g sv pv mv o f fv d :: q1 :: q2 :: q3 :: L) (mres gp o f fv d L (1, { g with pg := List.replicate 256 0 })) := by
  have hbx := byte_at hg.Vb o.x
  have hby := byte_at hg.Vb o.y
  have hob := ho.b
  have hoa := ho.a
  have hox := ho.x
  have hPCb := hg.PC
  have hIb := hg.I
  have hrb := hd.rnd
  have hkb := hd.keys
  have hdl := hg.dl
  have hsd := hg.sd
  refine SCall.enter (n := 8) (res1 2) (hP ▸ Try.func47) rfl rfl (by simp) (res1_ok rfl) ?_
  refine SX.seq_k fun K1 hK1 => ?_
  refine SX.region_d [some 2] rfl (fun ops hops => ?_)
  unfold Dsts at hops
  simp (maxSteps:=1000000)(dsimp:=false)(disch:=omega) only [go_sem, Φa, hP, hops]
  repeat' ((first | refine ⟨_, Cell.at 0 rfl rfl, ?_⟩ | refine ⟨0, _, _, _, rfl, (by rw [pcells_length]; omega), .inr (by first | decide | exact Nat.zero_le _), ?_⟩ | fail); try (with_reducible refine stI ?_); try simp (maxSteps:=1000000)(dsimp:=false)(disch:=omega) only [go_sem, Φa, hP, hops])
  refine hK1 _ _ ?_
  try clear hK1 K1
  refine SX.seq_k fun K2 hK2 => ?_
  refine SX.region_d [some 3, some 4, some 5, some 6, some 7, none] rfl (fun ops hops => ?_)
  unfold Dsts at hops
  simp (maxSteps:=1000000)(dsimp:=false)(disch:=omega) only [go_sem, Φa, hP, hops]
  intro bb
  try with_reducible refine stI ?_
  try simp (maxSteps:=1000000)(dsimp:=false)(disch:=omega) only [go_sem, Φa, hP, hops]
  refine ⟨1, _, _, _, rfl, (by rw [pcells_length]; omega), .inr (by decide), ?_⟩
  try with_reducible refine stI ?_
  try simp (maxSteps:=1000000)(dsimp:=false)(disch:=omega) only [go_sem, Φa, hP, hops]
  refine hK2 _ _ ?_
  try clear hK2 K2
  refine SX.seq_k fun K3 hK3 => ?_
  refine SX.region_d [some 2] rfl (fun ops hops => ?_)
  unfold Dsts at hops
  simp (maxSteps:=1000000)(dsimp:=false)(disch:=omega) only [go_sem, Φa, hP, hops]
  repeat' ((first | refine ⟨_, Cell.at 0 rfl rfl, ?_⟩ | refine ⟨0, _, _, _, rfl, (by rw [pcells_length]; omega), .inr (by first | decide | exact Nat.zero_le _), ?_⟩ | fail); try (with_reducible refine stI ?_); try simp (maxSteps:=1000000)(dsimp:=false)(disch:=omega) only [go_sem, Φa, hP, hops])
  refine hK3 _ _ ?_
  try clear hK3 K3
  refine SX.ret ?_
  simp only [andThen_normal, andThen_ret, andThen_exit, inBlk_normal, inBlk_ret, inBlk_exit, Nat.reduceEqDiff, if_true, if_false, ↓reduceIte, retQ_ret]
  try simp only [res0, res1, res2, res3, stK_e, go_sem, Φa, hP]
  refine ⟨_, _, lessPut _ 2 _, rfl, rfl, sv, _, mv, q1, _, q3, rfl, ⟨hr.st, rowMade .u8 5 bb 256 (by decide), hr.mm⟩⟩
set_option maxHeartbeats 1000000 in
set_option maxRecDepth 100000 in
theorem back_spec {Γ : Ctx} (hP : Γ.P = Try.prog) {L : Hp} {gp : Nat} {g : GM} {sv pv mv : Value} {o : Ord} {f : Fnt} {fv : Value} {d : Feed} {q1 q2 q3 : Slot} (hg : OkG g) (hr : Rows g sv pv mv q1 q2 q3) (ho : OkO o) (hx : o.x < 16) (hy : o.y < 16) (hd : OkD d) (hst : g.st.length ≤ 12) :
    SCall Γ 48 #[(.pointer (some ⟨gp, 0, none⟩))] (PS gp g sv pv mv o f fv d :: q1 :: q2 :: q3 :: L) (mres gp o f fv d L (backG g)) := by
  have hbx := byte_at hg.Vb o.x
  have hby := byte_at hg.Vb o.y
  have hob := ho.b
  have hoa := ho.a
  have hox := ho.x
  have hPCb := hg.PC
  have hIb := hg.I
  have hrb := hd.rnd
  have hkb := hd.keys
  have hdl := hg.dl
  have hsd := hg.sd
  obtain ⟨sb, scap, rfl, hsc⟩ := rowShape hr.st
  refine SCall.enter (n := 38) (res1 2) (hP ▸ Try.func48) rfl rfl (by simp) (res1_ok rfl) ?_
  refine SX.seq_k fun K1 hK1 => ?_
  refine SX.region_d [some 2] rfl (fun ops hops => ?_)
  unfold Dsts at hops
  simp (maxSteps:=1000000)(dsimp:=false)(disch:=omega) only [go_sem, Φa, hP, hops]
  repeat' ((first | refine ⟨_, Cell.at 0 rfl rfl, ?_⟩ | refine ⟨0, _, _, _, rfl, (by rw [pcells_length]; omega), .inr (by first | decide | exact Nat.zero_le _), ?_⟩ | fail); try (with_reducible refine stI ?_); try simp (maxSteps:=1000000)(dsimp:=false)(disch:=omega) only [go_sem, Φa, hP, hops])
  refine hK1 _ _ ?_
  try clear hK1 K1
  refine SX.seq_k fun K2 hK2 => ?_
  refine SX.region_d [some 4, some 5, some 6, some 7, some 8, some 9, some 3] rfl (fun ops hops => ?_)
  unfold Dsts at hops
  simp (maxSteps:=1000000)(dsimp:=false)(disch:=omega) only [go_sem, Φa, hP, hops]
  repeat' ((first | refine ⟨_, Cell.at 0 rfl rfl, ?_⟩ | refine ⟨0, _, _, _, rfl, (by rw [pcells_length]; omega), .inr (by first | decide | exact Nat.zero_le _), ?_⟩ | (refine SCall.mono (x_spec (i := 0) hP rfl hx) ?_; rintro v_ L_ ⟨hv_, hL_⟩; rw [hv_, hL_]; clear hv_ hL_ v_ L_) | refine ⟨_, x_spec (i := 0) hP rfl hx, ?_⟩ | refine ⟨_, fun L0 hl0 => x_spec (i := 0) hP rfl hx, ?_⟩ | (refine SCall.mono (y_spec (i := 0) hP rfl hy) ?_; rintro v_ L_ ⟨hv_, hL_⟩; rw [hv_, hL_]; clear hv_ hL_ v_ L_) | refine ⟨_, y_spec (i := 0) hP rfl hy, ?_⟩ | refine ⟨_, fun L0 hl0 => y_spec (i := 0) hP rfl hy, ?_⟩ | (refine SCall.mono (let_spec hP hx hg.V) ?_; rintro v_ L_ ⟨hv_, hL_⟩; rw [hv_, hL_]; clear hv_ hL_ v_ L_) | refine ⟨_, let_spec hP hx hg.V, ?_⟩ | refine ⟨_, fun L0 hl0 => let_spec hP hx hg.V, ?_⟩ | (refine SCall.mono (skip_spec hP) ?_; rintro v_ L_ ⟨hv_, hL_⟩; rw [hv_, hL_]; clear hv_ hL_ v_ L_) | refine ⟨_, skip_spec hP, ?_⟩ | refine ⟨_, fun L0 hl0 => skip_spec hP, ?_⟩ | (refine SCall.mono (flagged_spec hP hx hg.V) ?_; rintro v_ L_ ⟨hv_, hL_⟩; rw [hv_, hL_]; clear hv_ hL_ v_ L_) | refine ⟨_, flagged_spec hP hx hg.V, ?_⟩ | refine ⟨_, fun L0 hl0 => flagged_spec hP hx hg.V, ?_⟩ | (refine SCall.mono (truth_spec hP _) ?_; rintro v_ L_ ⟨hv_, hL_⟩; rw [hv_, hL_]; clear hv_ hL_ v_ L_) | refine ⟨_, truth_spec hP _, ?_⟩ | refine ⟨_, fun L0 hl0 => truth_spec hP _, ?_⟩ | (refine SCall.mono (down_spec (i := 0) hP rfl hx hg.Vb) ?_; rintro v_ L_ ⟨hv_, hL_⟩; rw [hv_, hL_]; clear hv_ hL_ v_ L_) | refine ⟨_, down_spec (i := 0) hP rfl hx hg.Vb, ?_⟩ | refine ⟨_, fun L0 hl0 => down_spec (i := 0) hP rfl hx hg.Vb, ?_⟩ | (refine SCall.mono (behind_spec hP hx) ?_; rintro v_ L_ ⟨hv_, hL_⟩; rw [hv_, hL_]; clear hv_ hL_ v_ L_) | refine ⟨_, behind_spec hP hx, ?_⟩ | refine ⟨_, fun L0 hl0 => behind_spec hP hx, ?_⟩ | refine And.intro (by omega) ?_ | fail); try (with_reducible refine stI ?_); try simp (maxSteps:=1000000)(dsimp:=false)(disch:=omega) only [go_sem, Φa, hP, hops])
  refine hK2 _ _ ?_
  try clear hK2 K2
  refine SX.seq_k fun K3 hK3 => ?_
  refine SX.seq_k fun K4 hK4 => ?_
  refine SX.region_d [some 10, some 11] rfl (fun ops hops => ?_)
  unfold Dsts at hops
  simp (maxSteps:=1000000)(dsimp:=false)(disch:=omega) only [go_sem, Φa, hP, hops]
  repeat' ((first | refine ⟨_, Cell.at 0 rfl rfl, ?_⟩ | refine ⟨0, _, _, _, rfl, (by rw [pcells_length]; omega), .inr (by first | decide | exact Nat.zero_le _), ?_⟩ | refine And.intro (by omega) ?_ | fail); try (with_reducible refine stI ?_); try simp (maxSteps:=1000000)(dsimp:=false)(disch:=omega) only [go_sem, Φa, hP, hops])
  refine hK4 _ _ ?_
  try clear hK4 K4
  refine SX.live [0, 3, 11] (fun T1 hT1 => ?_)
  simp only [forall_mem_cons', forall_mem_nil', go_sem, Φa, hP] at hT1
  obtain ⟨h1_0, h1_3, h1_11⟩ := hT1
  refine SX.cond_k fun X5 Y5 hX5 hY5 => ?_
  simp (maxSteps:=1000000)(dsimp:=false)(disch:=omega) only [go_sem, Φa, hP, h1_0, h1_3, h1_11, condVC]
  refine ⟨fun hc11 => hX5 ?_, fun hc11 => hY5 ?_⟩
  · clear hX5 hY5 X5 Y5
    refine SX.seq_k fun K6 hK6 => ?_
    refine SX.region_d [some 2] rfl (fun ops hops => ?_)
    unfold Dsts at hops
    simp (maxSteps:=1000000)(dsimp:=false)(disch:=omega) only [go_sem, Φa, hP, h1_0, h1_3, h1_11, hops]
    repeat' ((first | refine ⟨_, Cell.at 0 rfl rfl, ?_⟩ | refine ⟨0, _, _, _, rfl, (by rw [pcells_length]; omega), .inr (by first | decide | exact Nat.zero_le _), ?_⟩ | fail); try (with_reducible refine stI ?_); try simp (maxSteps:=1000000)(dsimp:=false)(disch:=omega) only [go_sem, Φa, hP, h1_0, h1_3, h1_11, hops])
    refine hK6 _ _ ?_
    try clear hK6 K6
    refine SX.ret ?_
    simp only [andThen_normal, andThen_ret, andThen_exit, inBlk_normal, inBlk_ret, inBlk_exit, Nat.reduceEqDiff, if_true, if_false, ↓reduceIte, retQ_ret]
    try simp only [res0, res1, res2, res3, stK_e, go_sem, Φa, hP, h1_0, h1_3, h1_11]
    refine ⟨_, _, Less.refl _, rfl, ?_⟩
    unfold backG
    rw [if_pos (by first | exact hc11 | omega)]
    exact ⟨rfl, _, pv, mv, q1, q2, q3, rfl, hr⟩
  · clear hX5 hY5 X5 Y5
    refine SX.skip ?_
    try simp only [andThen_normal, andThen_ret, andThen_exit, inBlk_normal, inBlk_ret, inBlk_exit, Nat.reduceEqDiff, if_true, if_false, ↓reduceIte]
    refine hK3 _ _ ?_
    try clear hK3 K3
    refine SX.seq_k fun K7 hK7 => ?_
    have hn : 0 < g.st.length := by omega
    obtain ⟨rs, caps, js, hsv, rfl, hcs, hjs⟩ := RowI.form2 hr.st hn
    cases hsv
    have hw64 : IntKind.i64.wrap ((g.st.length : Int) - 1) = ((g.st.length - 1 : Nat) : Int) := by rw [w64 (by omega)]; omega
    have hlt : ((g.st.length - 1 : Nat) : Int) < (g.st.length : Int) := by omega
    have hlast : (ints .u16 g.st ++ js)[g.st.length - 1]? = some (.int .u16 (g.st.getD (g.st.length - 1) 0)) := ints_app_at (by omega)
    refine SX.region_d [some 12, some 13, some 14, some 15, some 16, some 17, some 18, some 19, some 20, some 21, some 22, some 23, some 24, none] rfl (fun ops hops => ?_)
    unfold Dsts at hops
    simp (maxSteps:=1000000)(dsimp:=false)(disch:=omega) only [go_sem, Φa, hP, h1_0, h1_3, h1_11, hops, hw64]
    refine ⟨_, Cell.at 0 rfl (show (pcells _ _ _ _ _ _ _ _)[18]? = _ from rfl), ?_⟩
    try with_reducible refine stI ?_
    try simp (maxSteps:=1000000)(dsimp:=false)(disch:=omega) only [go_sem, Φa, hP, h1_0, h1_3, h1_11, hops, hw64]
    refine ⟨_, Cell.at 1 rfl hlast, ?_⟩
    try with_reducible refine stI ?_
    try simp (maxSteps:=1000000)(dsimp:=false)(disch:=omega) only [go_sem, Φa, hP, h1_0, h1_3, h1_11, hops, hw64]
    refine ⟨0, _, _, _, rfl, (by rw [pcells_length]; omega), .inr (by first | decide | exact Nat.zero_le _), ?_⟩
    try with_reducible refine stI ?_
    try simp (maxSteps:=1000000)(dsimp:=false)(disch:=omega) only [go_sem, Φa, hP, h1_0, h1_3, h1_11, hops, hw64]
    refine hK7 _ _ ?_
    try clear hK7 K7
    refine SX.live [0, 3] (fun T2 hT2 => ?_)
    simp only [forall_mem_cons', forall_mem_nil', go_sem, Φa, hP, h1_0, h1_3, h1_11] at hT2
    obtain ⟨h2_0, h2_3⟩ := hT2
    clear h1_0 h1_3 h1_11 T1
    refine SX.seq_k fun K8 hK8 => ?_
    have hcap0 : 0 < scap := by omega
    refine SX.region_d [some 25, some 26, some 27, some 28, some 29, some 30, some 31, some 32, some 33, some 34, some 35, some 36, some 37, none] rfl (fun ops hops => ?_)
    unfold Dsts at hops
    simp (maxSteps:=1000000)(dsimp:=false)(disch:=omega) only [go_sem, Φa, hP, h2_0, h2_3, hops, hw64, cutA_lt hcap0, Nat.sub_zero]
    refine ⟨_, Cell.at 0 rfl (show (pcells _ _ _ _ _ _ _ _)[18]? = _ from rfl), ?_⟩
    try with_reducible refine stI ?_
    try simp (maxSteps:=1000000)(dsimp:=false)(disch:=omega) only [go_sem, Φa, hP, h2_0, h2_3, hops, hw64, cutA_lt hcap0, Nat.sub_zero]
    refine SCall.mono (cloneW_spec hP (slTake (xs := g.st) 1 rfl (by omega) (by omega)) (by simp; omega)) ?_
    rintro v_ L_ ⟨s_, rfl, hr_⟩
    obtain ⟨A_, c_, rfl, hc_⟩ := rowShape hr_
    try with_reducible refine stI ?_
    try simp (maxSteps:=1000000)(dsimp:=false)(disch:=omega) only [go_sem, Φa, hP, h2_0, h2_3, hops, hw64, cutA_lt hcap0, Nat.sub_zero]
    refine ⟨1, _, _, _, rfl, (by simp [pcells_length]), .inr (by decide), ?_⟩
    try with_reducible refine stI ?_
    try simp (maxSteps:=1000000)(dsimp:=false)(disch:=omega) only [go_sem, Φa, hP, h2_0, h2_3, hops, hw64, cutA_lt hcap0, Nat.sub_zero]
    refine hK8 _ _ ?_
    try clear hK8 K8
    refine SX.live [] (fun T3 hT3 => ?_)
    clear hT3
    clear h2_0 h2_3 T2
    refine SX.seq_k fun K9 hK9 => ?_
    refine SX.region_d [some 2] rfl (fun ops hops => ?_)
    unfold Dsts at hops
    simp (maxSteps:=1000000)(dsimp:=false)(disch:=omega) only [go_sem, Φa, hP, hops]
    repeat' ((first | refine ⟨_, Cell.at 0 rfl rfl, ?_⟩ | refine ⟨0, _, _, _, rfl, (by rw [pcells_length]; omega), .inr (by first | decide | exact Nat.zero_le _), ?_⟩ | fail); try (with_reducible refine stI ?_); try simp (maxSteps:=1000000)(dsimp:=false)(disch:=omega) only [go_sem, Φa, hP, hops])
    refine hK9 _ _ ?_
    try clear hK9 K9
    refine SX.ret ?_
    simp only [andThen_normal, andThen_ret, andThen_exit, inBlk_normal, inBlk_ret, inBlk_exit, Nat.reduceEqDiff, if_true, if_false, ↓reduceIte, retQ_ret]
    try simp only [res0, res1, res2, res3, stK_e, go_sem, Φa, hP]
    refine ⟨_, _, lessPut _ 1 _, rfl, ?_⟩
    unfold backG
    rw [if_neg (by omega)]
    exact ⟨rfl, _, pv, mv, _, q2, q3, rfl, ⟨hr_, hr.pg, hr.mm⟩⟩
set_option maxHeartbeats 1000000 in
set_option maxRecDepth 100000 in
theorem call_spec {Γ : Ctx} (hP : Γ.P = Try.prog) {L : Hp} {gp : Nat} {g : GM} {sv pv mv : Value} {o : Ord} {f : Fnt} {fv : Value} {d : Feed} {q1 q2 q3 : Slot} (hg : OkG g) (hr : Rows g sv pv mv q1 q2 q3) (ho : OkO o) (hx : o.x < 16) (hy : o.y < 16) (hd : OkD d) (hst : g.st.length ≤ 12) :
    SCall Γ 50 #[(.pointer (some ⟨gp, 0, none⟩))] (PS gp g sv pv mv o f fv d :: q1 :: q2 :: q3 :: L) (mres gp o f fv d L (callG g o)) := by
  have hbx := byte_at hg.Vb o.x
  have hby := byte_at hg.Vb o.y
  have hob := ho.b
  have hoa := ho.a
  have hox := ho.x
  have hPCb := hg.PC
  have hIb := hg.I
  have hrb := hd.rnd
  have hkb := hd.keys
  have hdl := hg.dl
  have hsd := hg.sd
  obtain ⟨sb, scap, rfl, hsc⟩ := rowShape hr.st
  refine SCall.enter (n := 28) (res1 2) (hP ▸ Try.func50) rfl rfl (by simp) (res1_ok rfl) ?_
  refine SX.seq_k fun K1 hK1 => ?_
  refine SX.region_d [some 2] rfl (fun ops hops => ?_)
  unfold Dsts at hops
  simp (maxSteps:=1000000)(dsimp:=false)(disch:=omega) only [go_sem, Φa, hP, hops]
  repeat' ((first | refine ⟨_, Cell.at 0 rfl rfl, ?_⟩ | refine ⟨0, _, _, _, rfl, (by rw [pcells_length]; omega), .inr (by first | decide | exact Nat.zero_le _), ?_⟩ | fail); try (with_reducible refine stI ?_); try simp (maxSteps:=1000000)(dsimp:=false)(disch:=omega) only [go_sem, Φa, hP, hops])
  refine hK1 _ _ ?_
  try clear hK1 K1
  refine SX.seq_k fun K2 hK2 => ?_
  refine SX.seq_k fun K3 hK3 => ?_
  refine SX.region_d [some 3, some 4, some 5, some 6, some 7, some 8, some 9] rfl (fun ops hops => ?_)
  unfold Dsts at hops
  simp (maxSteps:=1000000)(dsimp:=false)(disch:=omega) only [go_sem, Φa, hP, hops]
  repeat' ((first | refine ⟨_, Cell.at 0 rfl rfl, ?_⟩ | refine ⟨0, _, _, _, rfl, (by rw [pcells_length]; omega), .inr (by first | decide | exact Nat.zero_le _), ?_⟩ | (refine SCall.mono (x_spec (i := 0) hP rfl hx) ?_; rintro v_ L_ ⟨hv_, hL_⟩; rw [hv_, hL_]; clear hv_ hL_ v_ L_) | refine ⟨_, x_spec (i := 0) hP rfl hx, ?_⟩ | refine ⟨_, fun L0 hl0 => x_spec (i := 0) hP rfl hx, ?_⟩ | (refine SCall.mono (y_spec (i := 0) hP rfl hy) ?_; rintro v_ L_ ⟨hv_, hL_⟩; rw [hv_, hL_]; clear hv_ hL_ v_ L_) | refine ⟨_, y_spec (i := 0) hP rfl hy, ?_⟩ | refine ⟨_, fun L0 hl0 => y_spec (i := 0) hP rfl hy, ?_⟩ | (refine SCall.mono (let_spec hP hx hg.V) ?_; rintro v_ L_ ⟨hv_, hL_⟩; rw [hv_, hL_]; clear hv_ hL_ v_ L_) | refine ⟨_, let_spec hP hx hg.V, ?_⟩ | refine ⟨_, fun L0 hl0 => let_spec hP hx hg.V, ?_⟩ | (refine SCall.mono (skip_spec hP) ?_; rintro v_ L_ ⟨hv_, hL_⟩; rw [hv_, hL_]; clear hv_ hL_ v_ L_) | refine ⟨_, skip_spec hP, ?_⟩ | refine ⟨_, fun L0 hl0 => skip_spec hP, ?_⟩ | (refine SCall.mono (flagged_spec hP hx hg.V) ?_; rintro v_ L_ ⟨hv_, hL_⟩; rw [hv_, hL_]; clear hv_ hL_ v_ L_) | refine ⟨_, flagged_spec hP hx hg.V, ?_⟩ | refine ⟨_, fun L0 hl0 => flagged_spec hP hx hg.V, ?_⟩ | (refine SCall.mono (truth_spec hP _) ?_; rintro v_ L_ ⟨hv_, hL_⟩; rw [hv_, hL_]; clear hv_ hL_ v_ L_) | refine ⟨_, truth_spec hP _, ?_⟩ | refine ⟨_, fun L0 hl0 => truth_spec hP _, ?_⟩ | (refine SCall.mono (down_spec (i := 0) hP rfl hx hg.Vb) ?_; rintro v_ L_ ⟨hv_, hL_⟩; rw [hv_, hL_]; clear hv_ hL_ v_ L_) | refine ⟨_, down_spec (i := 0) hP rfl hx hg.Vb, ?_⟩ | refine ⟨_, fun L0 hl0 => down_spec (i := 0) hP rfl hx hg.Vb, ?_⟩ | (refine SCall.mono (behind_spec hP hx) ?_; rintro v_ L_ ⟨hv_, hL_⟩; rw [hv_, hL_]; clear hv_ hL_ v_ L_) | refine ⟨_, behind_spec hP hx, ?_⟩ | refine ⟨_, fun L0 hl0 => behind_spec hP hx, ?_⟩ | refine And.intro (by omega) ?_ | fail); try (with_reducible refine stI ?_); try simp (maxSteps:=1000000)(dsimp:=false)(disch:=omega) only [go_sem, Φa, hP, hops])
  refine hK3 _ _ ?_
  try clear hK3 K3
  refine SX.cond_k fun X4 Y4 hX4 hY4 => ?_
  simp (maxSteps:=1000000)(dsimp:=false)(disch:=omega) only [go_sem, Φa, hP, condVC]
  refine ⟨fun hc9 => hX4 ?_, fun hc9 => hY4 ?_⟩
  · clear hX4 hY4 X4 Y4
    refine SX.seq_k fun K5 hK5 => ?_
    refine SX.region_d [some 2] rfl (fun ops hops => ?_)
    unfold Dsts at hops
    simp (maxSteps:=1000000)(dsimp:=false)(disch:=omega) only [go_sem, Φa, hP, hops]
    repeat' ((first | refine ⟨_, Cell.at 0 rfl rfl, ?_⟩ | refine ⟨0, _, _, _, rfl, (by rw [pcells_length]; omega), .inr (by first | decide | exact Nat.zero_le _), ?_⟩ | fail); try (with_reducible refine stI ?_); try simp (maxSteps:=1000000)(dsimp:=false)(disch:=omega) only [go_sem, Φa, hP, hops])
    refine hK5 _ _ ?_
    try clear hK5 K5
    refine SX.ret ?_
    simp only [andThen_normal, andThen_ret, andThen_exit, inBlk_normal, inBlk_ret, inBlk_exit, Nat.reduceEqDiff, if_true, if_false, ↓reduceIte, retQ_ret]
    try simp only [res0, res1, res2, res3, stK_e, go_sem, Φa, hP]
    refine ⟨_, _, Less.refl _, rfl, ?_⟩
    unfold callG
    rw [if_pos (by first | exact hc9 | omega)]
    exact ⟨rfl, _, pv, mv, q1, q2, q3, rfl, hr⟩
  · clear hX4 hY4 X4 Y4
    refine SX.skip ?_
    try simp only [andThen_normal, andThen_ret, andThen_exit, inBlk_normal, inBlk_ret, inBlk_exit, Nat.reduceEqDiff, if_true, if_false, ↓reduceIte]
    refine hK2 _ _ ?_
    try clear hK2 K2
    refine SX.seq_k fun K6 hK6 => ?_
    refine SX.drawn_d [(0, .q), (1, .q), (2, .q), (3, .q), (4, .q), (5, .q), (6, .q), (7, .q), (8, .q), (9, .q), (10, .q), (11, .e), (12, .e), (13, .q), (14, .q), (15, .q), (16, .t)] (fun _ => [PS gp g (.slice sb g.st.length scap) pv mv o f fv d]) (hP ▸ T.mixed) (by kernel_rfl) (by exact lessOne _ _) [some 10, some 11, some 12, some 13, some 14, some 15, some 16, some 17, some 18, some 19, some 20, some 21, some 22, some 23, some 24, some 25, none] rfl (fun ops hops hopl => ?_)
    unfold Dsts at hops
    simp (maxSteps:=1000000)(dsimp:=false)(disch:=omega) only [go_sem, Φa, hP, hops, hopl]
    refine ⟨_, Cell.at 0 rfl (show (pcells _ _ _ _ _ _ _ _)[18]? = _ from rfl), ?_⟩
    try with_reducible refine stI ?_
    try simp (maxSteps:=1000000)(dsimp:=false)(disch:=omega) only [go_sem, Φa, hP, hops, hopl]
    refine ⟨_, Cell.at 0 rfl (show (pcells _ _ _ _ _ _ _ _)[17]? = _ from rfl), ?_⟩
    try with_reducible refine stI ?_
    try simp (maxSteps:=1000000)(dsimp:=false)(disch:=omega) only [go_sem, Φa, hP, hops, hopl]
    intro bb
    try with_reducible refine stI ?_
    try simp (maxSteps:=1000000)(dsimp:=false)(disch:=omega) only [go_sem, Φa, hP, hops, hopl]
    refine And.intro (Less.drops (lessOne _ _)) ?_
    try with_reducible refine stI ?_
    try simp (maxSteps:=1000000)(dsimp:=false)(disch:=omega) only [go_sem, Φa, hP, hops, hopl]
    refine YAppend.int1 (i := 1) (hP ▸ T.elS_27) (hP ▸ T.zr_26) rfl rfl hr.st (by omega) (by decide) (fun v_ s_ hr_ => ?_)
    try with_reducible refine stI ?_
    try simp (maxSteps:=1000000)(dsimp:=false)(disch:=omega) only [go_sem, Φa, hP, hops, hopl]
    obtain ⟨A_, c_, rfl, hc_⟩ := rowShape hr_
    try with_reducible refine stI ?_
    try simp (maxSteps:=1000000)(dsimp:=false)(disch:=omega) only [go_sem, Φa, hP, hops, hopl]
    refine And.intro (Less.drops (lessOne _ _)) ?_
    try with_reducible refine stI ?_
    try simp (maxSteps:=1000000)(dsimp:=false)(disch:=omega) only [go_sem, Φa, hP, hops, hopl]
    refine ⟨1, _, _, _, rfl, (by simp [pcells_length]), .inr (by decide), ?_⟩
    try with_reducible refine stI ?_
    try simp (maxSteps:=1000000)(dsimp:=false)(disch:=omega) only [go_sem, Φa, hP, hops, hopl]
    refine hK6 _ _ ?_
    try clear hK6 K6
    refine SX.live [0] (fun T1 hT1 => ?_)
    simp only [forall_mem_cons', forall_mem_nil', go_sem, Φa, hP] at hT1
    have h1_0 := hT1; clear hT1
    refine SX.seq_k fun K7 hK7 => ?_
    refine SX.less (Less.drop _ _) ?_
    have hg' : OkG { g with st := g.st ++ [g.PC] } := ⟨hg.V, hg.Vb, hg.I, hg.PC, wd_app hg.st hg.PC, hg.dl, hg.sd, hg.pg, hg.mm⟩
    refine SX.region_d [some 26, some 27, some 2] rfl (fun ops hops => ?_)
    unfold Dsts at hops
    simp (maxSteps:=1000000)(dsimp:=false)(disch:=omega) only [go_sem, Φa, hP, h1_0, hops]
    refine SCall.mono (jump_spec (g := { g with st := g.st ++ [g.PC] }) hP hg' ⟨hr_, hr.pg, hr.mm⟩ ho hx hy hd) ?_
    rintro v_ L_ ⟨rfl, sv', pv', mv', p1, p2, p3, rfl, hr'⟩
    try with_reducible refine stI ?_
    try simp (maxSteps:=1000000)(dsimp:=false)(disch:=omega) only [go_sem, Φa, hP, h1_0, hops]
    refine hK7 _ _ ?_
    try clear hK7 K7
    refine SX.ret ?_
    simp only [andThen_normal, andThen_ret, andThen_exit, inBlk_normal, inBlk_ret, inBlk_exit, Nat.reduceEqDiff, if_true, if_false, ↓reduceIte, retQ_ret]
    try simp only [res0, res1, res2, res3, stK_e, go_sem, Φa, hP, h1_0]
    refine ⟨_, _, Less.refl _, rfl, ?_⟩
    unfold callG
    rw [if_neg (by omega)]
    exact ⟨rfl, _, _, _, _, _, _, rfl, hr'⟩

end Go.Proofs.Ytgioegdjeodpiaa
/-! Slots in another order. -/
namespace Go.SX
theorem SCall.of_less {Γ : Ctx} {f : FuncId} {args : Array Value} {L L0 : Hp} {R : Value → Hp → Prop} (hl : Less L L0) (h : SCall Γ f args L0 R) : SCall Γ f args L R := fun w hi => h w (hl _ _ hi)
/-- A slot behind four others. -/
theorem Less.behind4 (p a b c d : Slot) (L : Hp) : Less (p :: a :: b :: c :: d :: L) (a :: b :: c :: d :: p :: L) := Less.perm (List.perm_middle (l₁ := [a, b, c, d])).symm
theorem Less.front4 (p a b c d : Slot) (L : Hp) : Less (a :: b :: c :: d :: p :: L) (p :: a :: b :: c :: d :: L) := Less.perm (List.perm_middle (l₁ := [a, b, c, d]))
/-- A slot behind four others is let go. -/
theorem Less.drop4 (p a b c d : Slot) (L : Hp) : Less (a :: b :: c :: d :: p :: L) (a :: b :: c :: d :: L) := (Less.front4 p a b c d L).trans (Less.drop _ _)
end Go.SX
set_option linter.unusedVariables false
set_option linter.unusedSimpArgs false
namespace Go.Proofs.Ytgioegdjeodpiaa
open Go.RowKit Go.SX

def threeL (g : GM) (o : Ord) : List Int := [g.V.getD o.x 0 / 100, g.V.getD o.x 0 / 10 % 10, g.V.getD o.x 0 % 10]
def threeG (g : GM) (o : Ord) : Int × GM := match layG g (threeL g o) with
  | some g' => (1, g')
  | none => (7, g)
def storeG (g : GM) (o : Ord) : Int × GM := match layG g (g.V.take (o.x + 1)) with
  | some g' => (1, behindG g' o)
  | none => (7, g)
def drawG (g : GM) (o : Ord) (f : Fnt) : Int × GM := match rowG g f o.n with
  | none => (7, g)
  | some rows => (1, { g with pg := (drawn g.pg (vG g o.x).toNat (vG g o.y).toNat rows).2, V := g.V.set 15 (truthI (drawn g.pg (vG g o.x).toNat (vG g o.y).toNat rows).1) })
def fillG (g : GM) (o : Ord) (f : Fnt) : Int × GM := match rowG g f (o.x + 1) with
  | none => (7, g)
  | some l => (1, behindG { g with V := spliceL g.V 0 l } o)
theorem layG_fields {g g' : GM} {bs : List Int} (h : layG g bs = some g') : g' = { g with mm := spliceL g.mm (g.I - 512).toNat bs } := by
  unfold layG at h
  split at h
  · cases h; rfl
  · cases h
theorem sliceV {Γ : Ctx} {L : Hp} {gp i n c : Nat} {g : GM} {sv pv mv : Value} {o : Ord} {f : Fnt} {fv : Value} {d : Feed} (hV : g.V.length = 16) (hi : L[i]? = some (PS gp g sv pv mv o f fv d)) (hn : n ≤ 16) (hc : n ≤ c) : SlI .u8 (Cell Γ L) (.slice (some ⟨gp, 0, none⟩) n c) (g.V.take n) := by
  refine ⟨_, c, by rw [List.length_take, hV, Nat.min_eq_left hn], by rw [List.length_take, hV]; omega, fun j x hj => ⟨_, rfl, ?_⟩⟩
  show Cell Γ L _ _
  rw [Nat.mul_one, Addr.add_lit, Nat.zero_add]
  have hj' := (List.getElem?_eq_some_iff.1 hj).1
  rw [List.length_take] at hj'
  have hx : g.V.getD j 0 = x := by
    rw [List.getElem?_take_of_lt (by omega)] at hj
    rw [List.getD_eq_getElem?_getD, hj]; rfl
  rw [← hx]
  exact Cell.at i hi (pV (by omega))
set_option maxHeartbeats 1000000 in
set_option maxRecDepth 100000 in
theorem three_spec {Γ : Ctx} (hP : Γ.P = Try.prog) {L : Hp} {gp : Nat} {g : GM} {sv pv mv : Value} {o : Ord} {f : Fnt} {fv : Value} {d : Feed} {q1 q2 q3 : Slot} (hg : OkG g) (hr : Rows g sv pv mv q1 q2 q3) (ho : OkO o) (hx : o.x < 16) (hy : o.y < 16) (hd : OkD d) (hml : g.mm.length = 3232) :
    SCall Γ 74 #[(.pointer (some ⟨gp, 0, none⟩))] (PS gp g sv pv mv o f fv d :: q1 :: q2 :: q3 :: L) (mres gp o f fv d L (threeG g o)) := by
  have hbx := byte_at hg.Vb o.x
  have hby := byte_at hg.Vb o.y
  have hob := ho.b
  have hoa := ho.a
  have hox := ho.x
  have hPCb := hg.PC
  have hIb := hg.I
  have hrb := hd.rnd
  have hkb := hd.keys
  have hdl := hg.dl
  have hsd := hg.sd
  refine SCall.enter (n := 17) (res1 2) (hP ▸ Try.func74) rfl rfl (by simp) (res1_ok rfl) ?_
  refine SX.seq_k fun K1 hK1 => ?_
  refine SX.region_d [some 2] rfl (fun ops hops => ?_)
  unfold Dsts at hops
  simp (maxSteps := 1000000) (dsimp := false) (disch := omega) only [go_sem, ia_someH, hP, hops]
  repeat' ((first | refine ⟨_, Cell.at 0 rfl rfl, ?_⟩ | refine ⟨0, _, _, _, rfl, (by rw [pcells_length]; omega), .inr (by first | decide | exact Nat.zero_le _), ?_⟩ | fail); try (with_reducible refine stI ?_); try simp (maxSteps := 1000000) (dsimp := false) (disch := omega) only [go_sem, ia_someH, hP, hops])
  refine hK1 _ _ ?_
  try clear hK1 K1
  refine SX.seq_k fun K2 hK2 => ?_
  refine SX.region_d [some 4, some 5, some 3] rfl (fun ops hops => ?_)
  unfold Dsts at hops
  simp (maxSteps := 1000000) (dsimp := false) (disch := omega) only [go_sem, ia_someH, hP, hops]
  repeat' ((first | refine ⟨_, Cell.at 0 rfl rfl, ?_⟩ | refine ⟨0, _, _, _, rfl, (by rw [pcells_length]; omega), .inr (by first | decide | exact Nat.zero_le _), ?_⟩ | (refine SCall.mono (x_spec (i := 0) hP rfl hx) ?_; rintro v_ L_ ⟨hv_, hL_⟩; rw [hv_, hL_]; clear hv_ hL_ v_ L_) | refine ⟨_, x_spec (i := 0) hP rfl hx, ?_⟩ | refine ⟨_, fun L0 hl0 => x_spec (i := 0) hP rfl hx, ?_⟩ | (refine SCall.mono (y_spec (i := 0) hP rfl hy) ?_; rintro v_ L_ ⟨hv_, hL_⟩; rw [hv_, hL_]; clear hv_ hL_ v_ L_) | refine ⟨_, y_spec (i := 0) hP rfl hy, ?_⟩ | refine ⟨_, fun L0 hl0 => y_spec (i := 0) hP rfl hy, ?_⟩ | (refine SCall.mono (let_spec hP hx hg.V) ?_; rintro v_ L_ ⟨hv_, hL_⟩; rw [hv_, hL_]; clear hv_ hL_ v_ L_) | refine ⟨_, let_spec hP hx hg.V, ?_⟩ | refine ⟨_, fun L0 hl0 => let_spec hP hx hg.V, ?_⟩ | (refine SCall.mono (skip_spec hP) ?_; rintro v_ L_ ⟨hv_, hL_⟩; rw [hv_, hL_]; clear hv_ hL_ v_ L_) | refine ⟨_, skip_spec hP, ?_⟩ | refine ⟨_, fun L0 hl0 => skip_spec hP, ?_⟩ | (refine SCall.mono (flagged_spec hP hx hg.V) ?_; rintro v_ L_ ⟨hv_, hL_⟩; rw [hv_, hL_]; clear hv_ hL_ v_ L_) | refine ⟨_, flagged_spec hP hx hg.V, ?_⟩ | refine ⟨_, fun L0 hl0 => flagged_spec hP hx hg.V, ?_⟩ | (refine SCall.mono (truth_spec hP _) ?_; rintro v_ L_ ⟨hv_, hL_⟩; rw [hv_, hL_]; clear hv_ hL_ v_ L_) | refine ⟨_, truth_spec hP _, ?_⟩ | refine ⟨_, fun L0 hl0 => truth_spec hP _, ?_⟩ | (refine SCall.mono (down_spec (i := 0) hP rfl hx hg.Vb) ?_; rintro v_ L_ ⟨hv_, hL_⟩; rw [hv_, hL_]; clear hv_ hL_ v_ L_) | refine ⟨_, down_spec (i := 0) hP rfl hx hg.Vb, ?_⟩ | refine ⟨_, fun L0 hl0 => down_spec (i := 0) hP rfl hx hg.Vb, ?_⟩ | (refine SCall.mono (behind_spec hP hx) ?_; rintro v_ L_ ⟨hv_, hL_⟩; rw [hv_, hL_]; clear hv_ hL_ v_ L_) | refine ⟨_, behind_spec hP hx, ?_⟩ | refine ⟨_, fun L0 hl0 => behind_spec hP hx, ?_⟩ | refine And.intro (by omega) ?_ | fail); try (with_reducible refine stI ?_); try simp (maxSteps := 1000000) (dsimp := false) (disch := omega) only [go_sem, ia_someH, hP, hops])
  refine hK2 _ _ ?_
  try clear hK2 K2
  refine SX.seq_k fun K3 hK3 => ?_
  refine SX.seq_k fun K4 hK4 => ?_
  have hd1 : (g.V.getD o.x 0).tdiv 100 = g.V.getD o.x 0 / 100 := Int.tdiv_eq_ediv_of_nonneg hbx.1
  have hd2 : (g.V.getD o.x 0).tdiv 10 = g.V.getD o.x 0 / 10 := Int.tdiv_eq_ediv_of_nonneg hbx.1
  have hd3 : (g.V.getD o.x 0 / 10).tmod 10 = g.V.getD o.x 0 / 10 % 10 := Int.tmod_eq_emod_of_nonneg (by omega)
  have hd4 : (g.V.getD o.x 0).tmod 10 = g.V.getD o.x 0 % 10 := Int.tmod_eq_emod_of_nonneg hbx.1
  refine SX.region_d [some 6, some 7, some 8, some 9, some 10, some 11, some 12, some 13, some 14, some 15, some 16] rfl (fun ops hops => ?_)
  unfold Dsts at hops
  simp (maxSteps := 1000000) (dsimp := false) (disch := omega) only [go_sem, ia_someH, hP, hops, hd1, hd2, hd3, hd4]
  intro bb
  try with_reducible refine stI ?_
  try simp (maxSteps := 1000000) (dsimp := false) (disch := omega) only [go_sem, ia_someH, hP, hops, hd1, hd2, hd3, hd4]
  refine SCall.mono (SCall.of_less (Less.behind4 _ _ _ _ _ _) (lay_spec (bs := threeL g o) hP hg (SlI.own (xs := threeL g o) 4 rfl rfl (Nat.le_refl 3)) (by simp [threeL]) (by simp [threeL]) hr.mm hml)) ?_
  intro v_ L_ hl_
  try with_reducible refine stI ?_
  try simp (maxSteps := 1000000) (dsimp := false) (disch := omega) only [go_sem, ia_someH, hP, hops, hd1, hd2, hd3, hd4]
  unfold layR at hl_
  rcases hlay : layG g (threeL g o) with _ | g'
  · skip
    try with_reducible refine stI ?_
    rw [hlay] at hl_
    obtain ⟨rfl, rfl⟩ := hl_
    try with_reducible refine stI ?_
    try simp (maxSteps := 1000000) (dsimp := false) (disch := omega) only [go_sem, ia_someH, hP, hops, hd1, hd2, hd3, hd4]
    refine hK4 _ _ ?_
    try clear hK4 K4
    refine SX.live [16] (fun T1 hT1 => ?_)
    simp only [forall_mem_cons', forall_mem_nil', go_sem, ia_someH, hP] at hT1
    have h1_16 := hT1; clear hT1
    refine SX.cond_k fun X5 Y5 hX5 hY5 => ?_
    simp (maxSteps := 1000000) (dsimp := false) (disch := omega) only [go_sem, ia_someH, hP, h1_16, condVC]
    refine hX5 ?_
    clear hX5 hY5 X5 Y5
    refine SX.seq_k fun K6 hK6 => ?_
    refine SX.region_d [some 2] rfl (fun ops hops => ?_)
    unfold Dsts at hops
    simp (maxSteps := 1000000) (dsimp := false) (disch := omega) only [go_sem, ia_someH, hP, h1_16, hops]
    repeat' ((first | refine ⟨_, Cell.at 0 rfl rfl, ?_⟩ | refine ⟨0, _, _, _, rfl, (by rw [pcells_length]; omega), .inr (by first | decide | exact Nat.zero_le _), ?_⟩ | fail); try (with_reducible refine stI ?_); try simp (maxSteps := 1000000) (dsimp := false) (disch := omega) only [go_sem, ia_someH, hP, h1_16, hops])
    refine hK6 _ _ ?_
    try clear hK6 K6
    refine SX.ret ?_
    simp only [andThen_normal, andThen_ret, andThen_exit, inBlk_normal, inBlk_ret, inBlk_exit, Nat.reduceEqDiff, if_true, if_false, ↓reduceIte, retQ_ret]
    try simp only [res0, res1, res2, res3, stK_e, go_sem, ia_someH, hP, h1_16]
    refine ⟨_, _, Less.drop4 _ _ _ _ _ _, rfl, ?_⟩
    unfold threeG
    rw [hlay]
    exact ⟨rfl, sv, pv, mv, q1, q2, q3, rfl, hr⟩
  · skip
    try with_reducible refine stI ?_
    rw [hlay] at hl_
    obtain ⟨rfl, q3', rfl, hr3⟩ := hl_
    try with_reducible refine stI ?_
    try simp (maxSteps := 1000000) (dsimp := false) (disch := omega) only [go_sem, ia_someH, hP, hops, hd1, hd2, hd3, hd4]
    refine hK4 _ _ ?_
    try clear hK4 K4
    refine SX.live [16] (fun T2 hT2 => ?_)
    simp only [forall_mem_cons', forall_mem_nil', go_sem, ia_someH, hP] at hT2
    have h2_16 := hT2; clear hT2
    refine SX.cond_k fun X7 Y7 hX7 hY7 => ?_
    simp (maxSteps := 1000000) (dsimp := false) (disch := omega) only [go_sem, ia_someH, hP, h2_16, condVC]
    refine hY7 ?_
    clear hX7 hY7 X7 Y7
    refine SX.skip ?_
    try simp only [andThen_normal, andThen_ret, andThen_exit, inBlk_normal, inBlk_ret, inBlk_exit, Nat.reduceEqDiff, if_true, if_false, ↓reduceIte]
    refine hK3 _ _ ?_
    try clear hK3 K3
    refine SX.seq_k fun K8 hK8 => ?_
    refine SX.region_d [some 2] rfl (fun ops hops => ?_)
    unfold Dsts at hops
    simp (maxSteps := 1000000) (dsimp := false) (disch := omega) only [go_sem, ia_someH, hP, h2_16, hops]
    repeat' ((first | refine ⟨_, Cell.at 0 rfl rfl, ?_⟩ | refine ⟨0, _, _, _, rfl, (by rw [pcells_length]; omega), .inr (by first | decide | exact Nat.zero_le _), ?_⟩ | fail); try (with_reducible refine stI ?_); try simp (maxSteps := 1000000) (dsimp := false) (disch := omega) only [go_sem, ia_someH, hP, h2_16, hops])
    refine hK8 _ _ ?_
    try clear hK8 K8
    refine SX.ret ?_
    simp only [andThen_normal, andThen_ret, andThen_exit, inBlk_normal, inBlk_ret, inBlk_exit, Nat.reduceEqDiff, if_true, if_false, ↓reduceIte, retQ_ret]
    try simp only [res0, res1, res2, res3, stK_e, go_sem, ia_someH, hP, h2_16]
    refine ⟨_, _, Less.drop4 _ _ _ _ _ _, rfl, ?_⟩
    unfold threeG
    rw [hlay]
    have hf := layG_fields hlay
    exact ⟨rfl, sv, pv, mv, q1, q2, _, rfl, ⟨by rw [hf]; exact hr.st, by rw [hf]; exact hr.pg, hr3⟩⟩
set_option maxHeartbeats 1000000 in
set_option maxRecDepth 100000 in
theorem store_spec {Γ : Ctx} (hP : Γ.P = Try.prog) {L : Hp} {gp : Nat} {g : GM} {sv pv mv : Value} {o : Ord} {f : Fnt} {fv : Value} {d : Feed} {q1 q2 q3 : Slot} (hg : OkG g) (hr : Rows g sv pv mv q1 q2 q3) (ho : OkO o) (hx : o.x < 16) (hy : o.y < 16) (hd : OkD d) (hml : g.mm.length = 3232) :
    SCall Γ 75 #[(.pointer (some ⟨gp, 0, none⟩))] (PS gp g sv pv mv o f fv d :: q1 :: q2 :: q3 :: L) (mres gp o f fv d L (storeG g o)) := by
  have hbx := byte_at hg.Vb o.x
  have hby := byte_at hg.Vb o.y
  have hob := ho.b
  have hoa := ho.a
  have hox := ho.x
  have hPCb := hg.PC
  have hIb := hg.I
  have hrb := hd.rnd
  have hkb := hd.keys
  have hdl := hg.dl
  have hsd := hg.sd
  refine SCall.enter (n := 19) (res1 2) (hP ▸ Try.func75) rfl rfl (by simp) (res1_ok rfl) ?_
  refine SX.seq_k fun K1 hK1 => ?_
  refine SX.region_d [some 2] rfl (fun ops hops => ?_)
  unfold Dsts at hops
  simp (maxSteps := 1000000) (dsimp := false) (disch := omega) only [go_sem, ia_someH, hP, hops]
  repeat' ((first | refine ⟨_, Cell.at 0 rfl rfl, ?_⟩ | refine ⟨0, _, _, _, rfl, (by rw [pcells_length]; omega), .inr (by first | decide | exact Nat.zero_le _), ?_⟩ | fail); try (with_reducible refine stI ?_); try simp (maxSteps := 1000000) (dsimp := false) (disch := omega) only [go_sem, ia_someH, hP, hops])
  refine hK1 _ _ ?_
  try clear hK1 K1
  refine SX.seq_k fun K2 hK2 => ?_
  refine SX.seq_k fun K3 hK3 => ?_
  have hc16 : cutA (some ⟨gp, 0, none⟩) 1 16 0 = some ⟨gp, 0, none⟩ := cutA_lt (by omega)
  have hx1 : ((o.x : Int) + 1).toNat = o.x + 1 := by omega
  refine SX.drawn_d [(0, .q), (1, .q), (2, .q), (3, .q), (4, .q), (5, .q), (6, .q), (7, .q), (8, .q), (9, .q), (10, .q), (11, .q), (12, .t), (13, .t)] (fun L => L) (hP ▸ T.mixed) (by kernel_rfl) (by exact Less.refl _) [some 3, some 4, some 5, some 6, some 7, some 8, some 9, some 10, some 11, some 12, some 13, some 14, some 15, some 16] rfl (fun ops hops hopl => ?_)
  unfold Dsts at hops
  simp (maxSteps := 1000000) (dsimp := false) (disch := omega) only [go_sem, ia_someH, hP, hops, hopl, hc16, Nat.sub_zero, hx1]
  refine ⟨_, Cell.at 0 rfl (show (pcells _ _ _ _ _ _ _ _)[24]? = _ from rfl), ?_⟩
  try with_reducible refine stI ?_
  try simp (maxSteps := 1000000) (dsimp := false) (disch := omega) only [go_sem, ia_someH, hP, hops, hopl, hc16, Nat.sub_zero, hx1]
  refine SCall.mono (lay_spec (bs := g.V.take (o.x + 1)) hP hg (sliceV (i := 0) (n := o.x + 1) (c := 16) hg.V rfl (by omega) (by omega)) (by rw [List.length_take, hg.V]; omega) (by rw [List.length_take, hg.V]; omega) hr.mm hml) ?_
  intro v_ L_ hl_
  try with_reducible refine stI ?_
  try simp (maxSteps := 1000000) (dsimp := false) (disch := omega) only [go_sem, ia_someH, hP, hops, hopl, hc16, Nat.sub_zero, hx1]
  unfold layR at hl_
  rcases hlay : layG g (g.V.take (o.x + 1)) with _ | g'
  · skip
    try with_reducible refine stI ?_
    rw [hlay] at hl_
    obtain ⟨rfl, rfl⟩ := hl_
    try with_reducible refine stI ?_
    try simp (maxSteps := 1000000) (dsimp := false) (disch := omega) only [go_sem, ia_someH, hP, hops, hopl, hc16, Nat.sub_zero, hx1]
    refine hK3 _ _ ?_
    try clear hK3 K3
    refine SX.live [0, 16] (fun T1 hT1 => ?_)
    simp only [forall_mem_cons', forall_mem_nil', go_sem, ia_someH, hP] at hT1
    obtain ⟨h1_0, h1_16⟩ := hT1
    refine SX.cond_k fun X4 Y4 hX4 hY4 => ?_
    simp (maxSteps := 1000000) (dsimp := false) (disch := omega) only [go_sem, ia_someH, hP, h1_0, h1_16, condVC]
    refine hX4 ?_
    clear hX4 hY4 X4 Y4
    refine SX.seq_k fun K5 hK5 => ?_
    refine SX.region_d [some 2] rfl (fun ops hops => ?_)
    unfold Dsts at hops
    simp (maxSteps := 1000000) (dsimp := false) (disch := omega) only [go_sem, ia_someH, hP, h1_0, h1_16, hops]
    repeat' ((first | refine ⟨_, Cell.at 0 rfl rfl, ?_⟩ | refine ⟨0, _, _, _, rfl, (by rw [pcells_length]; omega), .inr (by first | decide | exact Nat.zero_le _), ?_⟩ | fail); try (with_reducible refine stI ?_); try simp (maxSteps := 1000000) (dsimp := false) (disch := omega) only [go_sem, ia_someH, hP, h1_0, h1_16, hops])
    refine hK5 _ _ ?_
    try clear hK5 K5
    refine SX.ret ?_
    simp only [andThen_normal, andThen_ret, andThen_exit, inBlk_normal, inBlk_ret, inBlk_exit, Nat.reduceEqDiff, if_true, if_false, ↓reduceIte, retQ_ret]
    try simp only [res0, res1, res2, res3, stK_e, go_sem, ia_someH, hP, h1_0, h1_16]
    refine ⟨_, _, Less.refl _, rfl, ?_⟩
    unfold storeG
    rw [hlay]
    exact ⟨rfl, sv, pv, mv, q1, q2, q3, rfl, hr⟩
  · skip
    try with_reducible refine stI ?_
    rw [hlay] at hl_
    obtain ⟨rfl, q3', rfl, hr3⟩ := hl_
    try with_reducible refine stI ?_
    try simp (maxSteps := 1000000) (dsimp := false) (disch := omega) only [go_sem, ia_someH, hP, hops, hopl, hc16, Nat.sub_zero, hx1]
    refine hK3 _ _ ?_
    try clear hK3 K3
    refine SX.live [0, 16] (fun T2 hT2 => ?_)
    simp only [forall_mem_cons', forall_mem_nil', go_sem, ia_someH, hP] at hT2
    obtain ⟨h2_0, h2_16⟩ := hT2
    refine SX.cond_k fun X6 Y6 hX6 hY6 => ?_
    simp (maxSteps := 1000000) (dsimp := false) (disch := omega) only [go_sem, ia_someH, hP, h2_0, h2_16, condVC]
    refine hY6 ?_
    clear hX6 hY6 X6 Y6
    refine SX.skip ?_
    try simp only [andThen_normal, andThen_ret, andThen_exit, inBlk_normal, inBlk_ret, inBlk_exit, Nat.reduceEqDiff, if_true, if_false, ↓reduceIte]
    refine hK2 _ _ ?_
    try clear hK2 K2
    refine SX.seq_k fun K7 hK7 => ?_
    refine SX.region_d [some 17, some 18, some 2] rfl (fun ops hops => ?_)
    unfold Dsts at hops
    simp (maxSteps := 1000000) (dsimp := false) (disch := omega) only [go_sem, ia_someH, hP, h2_0, h2_16, hops]
    repeat' ((first | refine ⟨_, Cell.at 0 rfl rfl, ?_⟩ | refine ⟨0, _, _, _, rfl, (by rw [pcells_length]; omega), .inr (by first | decide | exact Nat.zero_le _), ?_⟩ | (refine SCall.mono (x_spec (i := 0) hP rfl hx) ?_; rintro v_ L_ ⟨hv_, hL_⟩; rw [hv_, hL_]; clear hv_ hL_ v_ L_) | refine ⟨_, x_spec (i := 0) hP rfl hx, ?_⟩ | refine ⟨_, fun L0 hl0 => x_spec (i := 0) hP rfl hx, ?_⟩ | (refine SCall.mono (y_spec (i := 0) hP rfl hy) ?_; rintro v_ L_ ⟨hv_, hL_⟩; rw [hv_, hL_]; clear hv_ hL_ v_ L_) | refine ⟨_, y_spec (i := 0) hP rfl hy, ?_⟩ | refine ⟨_, fun L0 hl0 => y_spec (i := 0) hP rfl hy, ?_⟩ | (refine SCall.mono (let_spec hP hx hg.V) ?_; rintro v_ L_ ⟨hv_, hL_⟩; rw [hv_, hL_]; clear hv_ hL_ v_ L_) | refine ⟨_, let_spec hP hx hg.V, ?_⟩ | refine ⟨_, fun L0 hl0 => let_spec hP hx hg.V, ?_⟩ | (refine SCall.mono (skip_spec hP) ?_; rintro v_ L_ ⟨hv_, hL_⟩; rw [hv_, hL_]; clear hv_ hL_ v_ L_) | refine ⟨_, skip_spec hP, ?_⟩ | refine ⟨_, fun L0 hl0 => skip_spec hP, ?_⟩ | (refine SCall.mono (flagged_spec hP hx hg.V) ?_; rintro v_ L_ ⟨hv_, hL_⟩; rw [hv_, hL_]; clear hv_ hL_ v_ L_) | refine ⟨_, flagged_spec hP hx hg.V, ?_⟩ | refine ⟨_, fun L0 hl0 => flagged_spec hP hx hg.V, ?_⟩ | (refine SCall.mono (truth_spec hP _) ?_; rintro v_ L_ ⟨hv_, hL_⟩; rw [hv_, hL_]; clear hv_ hL_ v_ L_) | refine ⟨_, truth_spec hP _, ?_⟩ | refine ⟨_, fun L0 hl0 => truth_spec hP _, ?_⟩ | (refine SCall.mono (down_spec (i := 0) hP rfl hx hg.Vb) ?_; rintro v_ L_ ⟨hv_, hL_⟩; rw [hv_, hL_]; clear hv_ hL_ v_ L_) | refine ⟨_, down_spec (i := 0) hP rfl hx hg.Vb, ?_⟩ | refine ⟨_, fun L0 hl0 => down_spec (i := 0) hP rfl hx hg.Vb, ?_⟩ | (refine SCall.mono (behind_spec hP hx) ?_; rintro v_ L_ ⟨hv_, hL_⟩; rw [hv_, hL_]; clear hv_ hL_ v_ L_) | refine ⟨_, behind_spec hP hx, ?_⟩ | refine ⟨_, fun L0 hl0 => behind_spec hP hx, ?_⟩ | refine And.intro (by omega) ?_ | fail); try (with_reducible refine stI ?_); try simp (maxSteps := 1000000) (dsimp := false) (disch := omega) only [go_sem, ia_someH, hP, h2_0, h2_16, hops])
    refine hK7 _ _ ?_
    try clear hK7 K7
    refine SX.ret ?_
    simp only [andThen_normal, andThen_ret, andThen_exit, inBlk_normal, inBlk_ret, inBlk_exit, Nat.reduceEqDiff, if_true, if_false, ↓reduceIte, retQ_ret]
    try simp only [res0, res1, res2, res3, stK_e, go_sem, ia_someH, hP, h2_0, h2_16]
    refine ⟨_, _, Less.refl _, rfl, ?_⟩
    unfold storeG
    rw [hlay]
    have hf := layG_fields hlay
    exact ⟨rfl, sv, pv, mv, q1, q2, _, rfl, ⟨by rw [hf]; exact hr.st, by rw [hf]; exact hr.pg, hr3⟩⟩

end Go.Proofs.Ytgioegdjeodpiaa
set_option linter.unusedVariables false
set_option linter.unusedSimpArgs false
namespace Go.Proofs.Ytgioegdjeodpiaa
open Go.RowKit Go.SX
open Go.SX renaming ia_someH → Φa

section
variable {g : GM} {sv pv mv : Value} {o : Ord} {f : Fnt} {fv : Value} {d : Feed}
theorem set_pg (pg' : List Int) (pv' : Value) : (pcells g sv pv mv o f fv d).set 21 pv' = pcells { g with pg := pg' } sv pv' mv o f fv d := rfl
theorem list16 {l : List Int} (h : l.length = 16) : l = [l.getD 0 0, l.getD 1 0, l.getD 2 0, l.getD 3 0, l.getD 4 0, l.getD 5 0, l.getD 6 0, l.getD 7 0, l.getD 8 0, l.getD 9 0, l.getD 10 0, l.getD 11 0, l.getD 12 0, l.getD 13 0, l.getD 14 0, l.getD 15 0] := by
  match l, h with
  | [_, _, _, _, _, _, _, _, _, _, _, _, _, _, _, _], _ => rfl
theorem pcells_V (hV : g.V.length = 16) : pcells g sv pv mv o f fv d = ints .u8 g.V ++ (.int .u16 g.I :: .int .u16 g.PC :: sv :: .int .u8 g.dl :: .int .u8 g.sd :: pv :: mv :: (o.cells ++ (f.cells fv ++ d.cells))) := by
  conv => rhs; rw [list16 hV]
  rfl
theorem pV_all {l : List Int} (hV : g.V.length = 16) (hl : l.length ≤ 16) : setN (pcells g sv pv mv o f fv d) 0 (ints .u8 l) = pcells { g with V := spliceL g.V 0 l } sv pv mv o f fv d := by
  rw [pcells_V hV, setN_splice (by omega), pcells_V (by show (spliceL g.V 0 l).length = 16; rw [spliceL_length (by omega)]; exact hV)]
end
theorem drawn_length (page : List Int) (x y : Nat) (rows : List Int) : (drawn page x y rows).2.length = page.length := eachK_length ..
set_option maxHeartbeats 1000000 in
set_option maxRecDepth 100000 in
theorem draw_spec {Γ : Ctx} (hP : Γ.P = Try.prog) {L : Hp} {gp : Nat} {g : GM} {sv pv mv : Value} {o : Ord} {f : Fnt} {fv : Value} {d : Feed} {q1 q2 q3 : Slot} (hg : OkG g) (hr : Rows g sv pv mv q1 q2 q3) (ho : OkO o) (hx : o.x < 16) (hy : o.y < 16) (hd : OkD d) (hn : o.n < 16) (hml : g.mm.length = 3232) (hpl : g.pg.length = 256) (hf : SlI .u8 (Cell Γ L) fv f.bs) (hfl : f.bs.length ≤ 65536) (hfr : 0 ≤ f.from_ ∧ f.from_ ≤ 65535) :
    SCall Γ 65 #[(.pointer (some ⟨gp, 0, none⟩))] (PS gp g sv pv mv o f fv d :: q1 :: q2 :: q3 :: L) (mres gp o f fv d L (drawG g o f)) := by
  have hbx := byte_at hg.Vb o.x
  have hby := byte_at hg.Vb o.y
  have hob := ho.b
  have hoa := ho.a
  have hox := ho.x
  have hPCb := hg.PC
  have hIb := hg.I
  have hrb := hd.rnd
  have hkb := hd.keys
  have hdl := hg.dl
  have hsd := hg.sd
  refine SCall.enter (n := 48) (res1 2) (hP ▸ Try.func65) rfl rfl (by simp) (res1_ok rfl) ?_
  refine SX.seq_k fun K1 hK1 => ?_
  refine SX.region_d [some 2] rfl (fun ops hops => ?_)
  unfold Dsts at hops
  simp (maxSteps:=1000000)(dsimp:=false)(disch:=omega) only [go_sem, Φa, hP, hops]
  repeat' ((first | refine ⟨_, Cell.at 0 rfl rfl, ?_⟩ | refine ⟨0, _, _, _, rfl, (by rw [pcells_length]; omega), .inr (by first | decide | exact Nat.zero_le _), ?_⟩ | fail); try (with_reducible refine stI ?_); try simp (maxSteps:=1000000)(dsimp:=false)(disch:=omega) only [go_sem, Φa, hP, hops])
  refine hK1 _ _ ?_
  try clear hK1 K1
  refine SX.seq_k fun K2 hK2 => ?_
  refine SX.region_d [some 9, some 10, some 11, some 12, some 13, some 14, some 15, some 16, some 8, some 17, some 18, some 3, some 4] rfl (fun ops hops => ?_)
  unfold Dsts at hops
  simp (maxSteps:=1000000)(dsimp:=false)(disch:=omega) only [go_sem, Φa, hP, hops]
  refine ⟨_, Cell.at 0 rfl (show (pcells _ _ _ _ _ _ _ _)[26]? = _ from rfl), ?_⟩
  try with_reducible refine stI ?_
  try simp (maxSteps:=1000000)(dsimp:=false)(disch:=omega) only [go_sem, Φa, hP, hops]
  refine SCall.mono (row_spec (n := o.n) hP (by omega) hg (RowI.sl (i := 3) hr.mm rfl) (SlI.cons _ (SlI.cons _ (SlI.cons _ (SlI.cons _ hf)))) hml hfl hfr) ?_
  intro v_ L_ hl_
  try with_reducible refine stI ?_
  try simp (maxSteps:=1000000)(dsimp:=false)(disch:=omega) only [go_sem, Φa, hP, hops]
  unfold rowR at hl_
  rcases hrow : rowG g f (o.n) with _ | rows
  · skip
    try with_reducible refine stI ?_
    rw [hrow] at hl_
    obtain ⟨rfl, rfl⟩ := hl_
    try with_reducible refine stI ?_
    try simp (maxSteps:=1000000)(dsimp:=false)(disch:=omega) only [go_sem, Φa, hP, hops]
    refine hK2 _ _ ?_
    try clear hK2 K2
    refine SX.live [0, 3, 4] (fun T1 hT1 => ?_)
    simp only [forall_mem_cons', forall_mem_nil', go_sem, Φa, hP] at hT1
    obtain ⟨h1_0, h1_3, h1_4⟩ := hT1
    refine SX.seq_k fun K3 hK3 => ?_
    refine SX.seq_k fun K4 hK4 => ?_
    refine SX.region_d [some 19, some 20] rfl (fun ops hops => ?_)
    unfold Dsts at hops
    simp (maxSteps:=1000000)(dsimp:=false)(disch:=omega) only [go_sem, Φa, hP, h1_0, h1_3, h1_4, hops]
    repeat' ((first | refine ⟨_, Cell.at 0 rfl rfl, ?_⟩ | refine ⟨0, _, _, _, rfl, (by rw [pcells_length]; omega), .inr (by first | decide | exact Nat.zero_le _), ?_⟩ | fail); try (with_reducible refine stI ?_); try simp (maxSteps:=1000000)(dsimp:=false)(disch:=omega) only [go_sem, Φa, hP, h1_0, h1_3, h1_4, hops])
    refine hK4 _ _ ?_
    try clear hK4 K4
    refine SX.cond_k fun X5 Y5 hX5 hY5 => ?_
    simp (maxSteps:=1000000)(dsimp:=false)(disch:=omega) only [go_sem, Φa, hP, h1_0, h1_3, h1_4, condVC]
    refine hX5 ?_
    clear hX5 hY5 X5 Y5
    refine SX.seq_k fun K6 hK6 => ?_
    refine SX.region_d [some 2] rfl (fun ops hops => ?_)
    unfold Dsts at hops
    simp (maxSteps:=1000000)(dsimp:=false)(disch:=omega) only [go_sem, Φa, hP, h1_0, h1_3, h1_4, hops]
    repeat' ((first | refine ⟨_, Cell.at 0 rfl rfl, ?_⟩ | refine ⟨0, _, _, _, rfl, (by rw [pcells_length]; omega), .inr (by first | decide | exact Nat.zero_le _), ?_⟩ | fail); try (with_reducible refine stI ?_); try simp (maxSteps:=1000000)(dsimp:=false)(disch:=omega) only [go_sem, Φa, hP, h1_0, h1_3, h1_4, hops])
    refine hK6 _ _ ?_
    try clear hK6 K6
    refine SX.ret ?_
    simp only [andThen_normal, andThen_ret, andThen_exit, inBlk_normal, inBlk_ret, inBlk_exit, Nat.reduceEqDiff, if_true, if_false, ↓reduceIte, retQ_ret]
    try simp only [res0, res1, res2, res3, stK_e, go_sem, Φa, hP, h1_0, h1_3, h1_4]
    refine ⟨_, _, Less.refl _, rfl, ?_⟩
    unfold drawG
    rw [hrow]
    exact ⟨rfl, sv, pv, mv, q1, q2, q3, rfl, hr⟩
  · skip
    try with_reducible refine stI ?_
    rw [hrow] at hl_
    obtain ⟨v1, s1, rfl, rfl, hr1⟩ := hl_
    try with_reducible refine stI ?_
    try simp (maxSteps:=1000000)(dsimp:=false)(disch:=omega) only [go_sem, Φa, hP, hops]
    refine hK2 _ _ ?_
    try clear hK2 K2
    refine SX.live [0, 3, 4] (fun T2 hT2 => ?_)
    simp only [forall_mem_cons', forall_mem_nil', go_sem, Φa, hP] at hT2
    obtain ⟨h2_0, h2_3, h2_4⟩ := hT2
    refine SX.seq_k fun K7 hK7 => ?_
    refine SX.seq_k fun K8 hK8 => ?_
    refine SX.region_d [some 19, some 20] rfl (fun ops hops => ?_)
    unfold Dsts at hops
    simp (maxSteps:=1000000)(dsimp:=false)(disch:=omega) only [go_sem, Φa, hP, h2_0, h2_3, h2_4, hops]
    repeat' ((first | refine ⟨_, Cell.at 0 rfl rfl, ?_⟩ | refine ⟨0, _, _, _, rfl, (by rw [pcells_length]; omega), .inr (by first | decide | exact Nat.zero_le _), ?_⟩ | fail); try (with_reducible refine stI ?_); try simp (maxSteps:=1000000)(dsimp:=false)(disch:=omega) only [go_sem, Φa, hP, h2_0, h2_3, h2_4, hops])
    refine hK8 _ _ ?_
    try clear hK8 K8
    refine SX.cond_k fun X9 Y9 hX9 hY9 => ?_
    simp (maxSteps:=1000000)(dsimp:=false)(disch:=omega) only [go_sem, Φa, hP, h2_0, h2_3, h2_4, condVC]
    refine hY9 ?_
    clear hX9 hY9 X9 Y9
    refine SX.skip ?_
    try simp only [andThen_normal, andThen_ret, andThen_exit, inBlk_normal, inBlk_ret, inBlk_exit, Nat.reduceEqDiff, if_true, if_false, ↓reduceIte]
    refine hK7 _ _ ?_
    try clear hK7 K7
    refine SX.seq_k fun K10 hK10 => ?_
    obtain ⟨X, hX⟩ : ∃ X : Nat, g.V.getD o.x 0 = (X : Int) := ⟨_, (Int.toNat_of_nonneg hbx.1).symm⟩
    obtain ⟨Y, hY⟩ : ∃ Y : Nat, g.V.getD o.y 0 = (Y : Int) := ⟨_, (Int.toNat_of_nonneg hby.1).symm⟩
    have hrl := rowG_length hrow
    refine SX.drawn_d [(0, .q), (1, .q), (2, .q), (3, .q), (4, .q), (5, .q), (7, .q), (9, .q), (6, .e), (8, .e), (10, .e), (11, .q), (12, .q), (13, .q), (14, .q), (15, .q), (16, .q), (17, .q)] (fun L => L) (hP ▸ T.mixed) (by kernel_rfl) (by exact Less.refl _) [some 22, some 23, some 24, some 25, some 26, some 27, some 28, some 29, some 30, some 31, some 32, some 21, some 33, some 34, some 35, some 5, some 6, some 7] rfl (fun ops hops hopl => ?_)
    unfold Dsts at hops
    simp (maxSteps:=1000000)(dsimp:=false)(disch:=omega) only [go_sem, Φa, hP, h2_0, h2_3, h2_4, hops, hopl, hX, hY]
    refine ⟨_, Cell.at 1 rfl (show (pcells _ _ _ _ _ _ _ _)[21]? = _ from rfl), ?_⟩
    try with_reducible refine stI ?_
    try simp (maxSteps:=1000000)(dsimp:=false)(disch:=omega) only [go_sem, Φa, hP, h2_0, h2_3, h2_4, hops, hopl, hX, hY]
    first | (refine SCall.mono (x_spec (i := 1) hP rfl hx) ?_; rintro v_ L_ ⟨hv_, hL_⟩; rw [hv_, hL_]; clear hv_ hL_ v_ L_) | refine ⟨_, x_spec (i := 1) hP rfl hx, ?_⟩ | refine ⟨_, fun L0 hl0 => x_spec (i := 1) hP rfl hx, ?_⟩
    try with_reducible refine stI ?_
    try simp (maxSteps:=1000000)(dsimp:=false)(disch:=omega) only [go_sem, Φa, hP, h2_0, h2_3, h2_4, hops, hopl, hX, hY]
    first | (refine SCall.mono (y_spec (i := 1) hP rfl hy) ?_; rintro v_ L_ ⟨hv_, hL_⟩; rw [hv_, hL_]; clear hv_ hL_ v_ L_) | refine ⟨_, y_spec (i := 1) hP rfl hy, ?_⟩ | refine ⟨_, fun L0 hl0 => y_spec (i := 1) hP rfl hy, ?_⟩
    try with_reducible refine stI ?_
    try simp (maxSteps:=1000000)(dsimp:=false)(disch:=omega) only [go_sem, Φa, hP, h2_0, h2_3, h2_4, hops, hopl, hX, hY]
    refine SCall.mono (Draw_spec (x := X) (y := Y) hP (by omega) (by omega) (RowI.sl (i := 3) hr.pg rfl) (RowI.sl (i := 0) hr1 rfl) (by omega)) ?_
    intro v_ L_ hl_
    try with_reducible refine stI ?_
    try simp (maxSteps:=1000000)(dsimp:=false)(disch:=omega) only [go_sem, Φa, hP, h2_0, h2_3, h2_4, hops, hopl, hX, hY]
    rw [drawR, if_pos (by omega)] at hl_
    obtain ⟨rr, cap, junk, hcap, hjl, rfl, rfl⟩ := hl_
    try with_reducible refine stI ?_
    try simp (maxSteps:=1000000)(dsimp:=false)(disch:=omega) only [go_sem, Φa, hP, h2_0, h2_3, h2_4, hops, hopl, hX, hY]
    refine hK10 _ _ ?_
    try clear hK10 K10
    refine SX.live [0, 5, 6] (fun T3 hT3 => ?_)
    simp only [forall_mem_cons', forall_mem_nil', go_sem, Φa, hP, h2_0, h2_3, h2_4] at hT3
    obtain ⟨h3_0, h3_5, h3_6⟩ := hT3
    clear h2_0 h2_3 h2_4 T2
    refine SX.seq_k fun K11 hK11 => ?_
    refine SX.region_d [some 36, some 37, some 38, some 39, some 40, none] rfl (fun ops hops => ?_)
    unfold Dsts at hops
    simp (maxSteps:=1000000)(dsimp:=false)(disch:=omega) only [go_sem, Φa, hP, h3_0, h3_5, h3_6, hops]
    refine ⟨2, _, _, _, rfl, (by rw [pcells_length]; omega), .inr (by decide), ?_⟩
    try with_reducible refine stI ?_
    try simp (maxSteps:=1000000)(dsimp:=false)(disch:=omega) only [go_sem, Φa, hP, h3_0, h3_5, h3_6, hops]
    rw [set_pg (drawn g.pg X Y rows).2]
    refine hK11 _ _ ?_
    try clear hK11 K11
    refine SX.seq_k fun K12 hK12 => ?_
    refine SX.drawn_d [(0, .q), (1, .q), (3, .q), (4, .q), (5, .q), (2, .e), (6, .q), (7, .t)] (fun L => L) (hP ▸ T.mixed) (by kernel_rfl) (by exact Less.refl _) [some 41, some 42, some 43, some 44, some 45, some 46, some 47, none] rfl (fun ops hops hopl => ?_)
    unfold Dsts at hops
    simp (maxSteps:=1000000)(dsimp:=false)(disch:=omega) only [go_sem, Φa, hP, h3_0, h3_5, h3_6, hops, hopl]
    first | (refine SCall.mono (truth_spec hP _) ?_; rintro v_ L_ ⟨hv_, hL_⟩; rw [hv_, hL_]; clear hv_ hL_ v_ L_) | refine ⟨_, truth_spec hP _, ?_⟩ | refine ⟨_, fun L0 hl0 => truth_spec hP _, ?_⟩
    try with_reducible refine stI ?_
    try simp (maxSteps:=1000000)(dsimp:=false)(disch:=omega) only [go_sem, Φa, hP, h3_0, h3_5, h3_6, hops, hopl]
    refine ⟨2, _, _, _, rfl, (by rw [pcells_length]; omega), .inr (by decide), ?_⟩
    try with_reducible refine stI ?_
    try simp (maxSteps:=1000000)(dsimp:=false)(disch:=omega) only [go_sem, Φa, hP, h3_0, h3_5, h3_6, hops, hopl]
    rw [pV_set (g := { g with pg := (drawn g.pg X Y rows).2 }) hg.V (by decide)]
    refine hK12 _ _ ?_
    try clear hK12 K12
    refine SX.live [] (fun T4 hT4 => ?_)
    clear hT4
    clear h3_0 h3_5 h3_6 T3
    refine SX.seq_k fun K13 hK13 => ?_
    refine SX.region_d [some 2] rfl (fun ops hops => ?_)
    unfold Dsts at hops
    simp (maxSteps:=1000000)(dsimp:=false)(disch:=omega) only [go_sem, Φa, hP, hops]
    repeat' ((first | refine ⟨_, Cell.at 0 rfl rfl, ?_⟩ | refine ⟨0, _, _, _, rfl, (by rw [pcells_length]; omega), .inr (by first | decide | exact Nat.zero_le _), ?_⟩ | fail); try (with_reducible refine stI ?_); try simp (maxSteps:=1000000)(dsimp:=false)(disch:=omega) only [go_sem, Φa, hP, hops])
    refine hK13 _ _ ?_
    try clear hK13 K13
    refine SX.ret ?_
    simp only [andThen_normal, andThen_ret, andThen_exit, inBlk_normal, inBlk_ret, inBlk_exit, Nat.reduceEqDiff, if_true, if_false, ↓reduceIte, retQ_ret]
    try simp only [res0, res1, res2, res3, stK_e, go_sem, Φa, hP]
    refine ⟨_, _, (lessPut _ 3 _).trans (Less.drop _ _), rfl, ?_⟩
    unfold drawG vG
    rw [hrow, hX, hY]
    refine ⟨rfl, sv, _, mv, q1, _, q3, rfl, ⟨hr.st, ?_, hr.mm⟩⟩
    have hd := drawn_length g.pg X Y rows
    have := RowI.mk2 (k := .u8) (e := 5) (l := (drawn g.pg X Y rows).2) (r := rr) (cap := cap) (junk := junk) (by omega) (by omega)
    rw [hd, hpl] at this
    exact this
set_option maxHeartbeats 1000000 in
set_option maxRecDepth 100000 in
theorem fill_spec {Γ : Ctx} (hP : Γ.P = Try.prog) {L : Hp} {gp : Nat} {g : GM} {sv pv mv : Value} {o : Ord} {f : Fnt} {fv : Value} {d : Feed} {q1 q2 q3 : Slot} (hg : OkG g) (hr : Rows g sv pv mv q1 q2 q3) (ho : OkO o) (hx : o.x < 16) (hy : o.y < 16) (hd : OkD d) (hn : o.n < 16) (hml : g.mm.length = 3232) (hpl : g.pg.length = 256) (hf : SlI .u8 (Cell Γ L) fv f.bs) (hfl : f.bs.length ≤ 65536) (hfr : 0 ≤ f.from_ ∧ f.from_ ≤ 65535) :
    SCall Γ 76 #[(.pointer (some ⟨gp, 0, none⟩))] (PS gp g sv pv mv o f fv d :: q1 :: q2 :: q3 :: L) (mres gp o f fv d L (fillG g o f)) := by
  have hbx := byte_at hg.Vb o.x
  have hby := byte_at hg.Vb o.y
  have hob := ho.b
  have hoa := ho.a
  have hox := ho.x
  have hPCb := hg.PC
  have hIb := hg.I
  have hrb := hd.rnd
  have hkb := hd.keys
  have hdl := hg.dl
  have hsd := hg.sd
  refine SCall.enter (n := 28) (res1 2) (hP ▸ Try.func76) rfl rfl (by simp) (res1_ok rfl) ?_
  refine SX.seq_k fun K1 hK1 => ?_
  refine SX.region_d [some 2] rfl (fun ops hops => ?_)
  unfold Dsts at hops
  simp (maxSteps:=1000000)(dsimp:=false)(disch:=omega) only [go_sem, Φa, hP, hops]
  repeat' ((first | refine ⟨_, Cell.at 0 rfl rfl, ?_⟩ | refine ⟨0, _, _, _, rfl, (by rw [pcells_length]; omega), .inr (by first | decide | exact Nat.zero_le _), ?_⟩ | fail); try (with_reducible refine stI ?_); try simp (maxSteps:=1000000)(dsimp:=false)(disch:=omega) only [go_sem, Φa, hP, hops])
  refine hK1 _ _ ?_
  try clear hK1 K1
  refine SX.seq_k fun K2 hK2 => ?_
  refine SX.region_d [some 6, some 7, some 8, some 9, some 10, some 11, some 12, some 13, some 14, some 5, some 15, some 16, some 3, some 4] rfl (fun ops hops => ?_)
  unfold Dsts at hops
  simp (maxSteps:=1000000)(dsimp:=false)(disch:=omega) only [go_sem, Φa, hP, hops]
  refine ⟨_, Cell.at 0 rfl (show (pcells _ _ _ _ _ _ _ _)[24]? = _ from rfl), ?_⟩
  try with_reducible refine stI ?_
  try simp (maxSteps:=1000000)(dsimp:=false)(disch:=omega) only [go_sem, Φa, hP, hops]
  refine SCall.mono (row_spec (n := o.x + 1) hP (by omega) hg (RowI.sl (i := 3) hr.mm rfl) (SlI.cons _ (SlI.cons _ (SlI.cons _ (SlI.cons _ hf)))) hml hfl hfr) ?_
  intro v_ L_ hl_
  try with_reducible refine stI ?_
  try simp (maxSteps:=1000000)(dsimp:=false)(disch:=omega) only [go_sem, Φa, hP, hops]
  unfold rowR at hl_
  rcases hrow : rowG g f (o.x + 1) with _ | rows
  · skip
    try with_reducible refine stI ?_
    rw [hrow] at hl_
    obtain ⟨rfl, rfl⟩ := hl_
    try with_reducible refine stI ?_
    try simp (maxSteps:=1000000)(dsimp:=false)(disch:=omega) only [go_sem, Φa, hP, hops]
    refine hK2 _ _ ?_
    try clear hK2 K2
    refine SX.live [0, 3, 4] (fun T1 hT1 => ?_)
    simp only [forall_mem_cons', forall_mem_nil', go_sem, Φa, hP] at hT1
    obtain ⟨h1_0, h1_3, h1_4⟩ := hT1
    refine SX.seq_k fun K3 hK3 => ?_
    refine SX.seq_k fun K4 hK4 => ?_
    refine SX.region_d [some 17, some 18] rfl (fun ops hops => ?_)
    unfold Dsts at hops
    simp (maxSteps:=1000000)(dsimp:=false)(disch:=omega) only [go_sem, Φa, hP, h1_0, h1_3, h1_4, hops]
    repeat' ((first | refine ⟨_, Cell.at 0 rfl rfl, ?_⟩ | refine ⟨0, _, _, _, rfl, (by rw [pcells_length]; omega), .inr (by first | decide | exact Nat.zero_le _), ?_⟩ | fail); try (with_reducible refine stI ?_); try simp (maxSteps:=1000000)(dsimp:=false)(disch:=omega) only [go_sem, Φa, hP, h1_0, h1_3, h1_4, hops])
    refine hK4 _ _ ?_
    try clear hK4 K4
    refine SX.cond_k fun X5 Y5 hX5 hY5 => ?_
    simp (maxSteps:=1000000)(dsimp:=false)(disch:=omega) only [go_sem, Φa, hP, h1_0, h1_3, h1_4, condVC]
    refine hX5 ?_
    clear hX5 hY5 X5 Y5
    refine SX.seq_k fun K6 hK6 => ?_
    refine SX.region_d [some 2] rfl (fun ops hops => ?_)
    unfold Dsts at hops
    simp (maxSteps:=1000000)(dsimp:=false)(disch:=omega) only [go_sem, Φa, hP, h1_0, h1_3, h1_4, hops]
    repeat' ((first | refine ⟨_, Cell.at 0 rfl rfl, ?_⟩ | refine ⟨0, _, _, _, rfl, (by rw [pcells_length]; omega), .inr (by first | decide | exact Nat.zero_le _), ?_⟩ | fail); try (with_reducible refine stI ?_); try simp (maxSteps:=1000000)(dsimp:=false)(disch:=omega) only [go_sem, Φa, hP, h1_0, h1_3, h1_4, hops])
    refine hK6 _ _ ?_
    try clear hK6 K6
    refine SX.ret ?_
    simp only [andThen_normal, andThen_ret, andThen_exit, inBlk_normal, inBlk_ret, inBlk_exit, Nat.reduceEqDiff, if_true, if_false, ↓reduceIte, retQ_ret]
    try simp only [res0, res1, res2, res3, stK_e, go_sem, Φa, hP, h1_0, h1_3, h1_4]
    refine ⟨_, _, Less.refl _, rfl, ?_⟩
    unfold fillG
    rw [hrow]
    exact ⟨rfl, sv, pv, mv, q1, q2, q3, rfl, hr⟩
  · skip
    try with_reducible refine stI ?_
    rw [hrow] at hl_
    obtain ⟨v1, s1, rfl, rfl, hr1⟩ := hl_
    try with_reducible refine stI ?_
    try simp (maxSteps:=1000000)(dsimp:=false)(disch:=omega) only [go_sem, Φa, hP, hops]
    refine hK2 _ _ ?_
    try clear hK2 K2
    refine SX.live [0, 3, 4] (fun T2 hT2 => ?_)
    simp only [forall_mem_cons', forall_mem_nil', go_sem, Φa, hP] at hT2
    obtain ⟨h2_0, h2_3, h2_4⟩ := hT2
    refine SX.seq_k fun K7 hK7 => ?_
    refine SX.seq_k fun K8 hK8 => ?_
    refine SX.region_d [some 17, some 18] rfl (fun ops hops => ?_)
    unfold Dsts at hops
    simp (maxSteps:=1000000)(dsimp:=false)(disch:=omega) only [go_sem, Φa, hP, h2_0, h2_3, h2_4, hops]
    repeat' ((first | refine ⟨_, Cell.at 0 rfl rfl, ?_⟩ | refine ⟨0, _, _, _, rfl, (by rw [pcells_length]; omega), .inr (by first | decide | exact Nat.zero_le _), ?_⟩ | fail); try (with_reducible refine stI ?_); try simp (maxSteps:=1000000)(dsimp:=false)(disch:=omega) only [go_sem, Φa, hP, h2_0, h2_3, h2_4, hops])
    refine hK8 _ _ ?_
    try clear hK8 K8
    refine SX.cond_k fun X9 Y9 hX9 hY9 => ?_
    simp (maxSteps:=1000000)(dsimp:=false)(disch:=omega) only [go_sem, Φa, hP, h2_0, h2_3, h2_4, condVC]
    refine hY9 ?_
    clear hX9 hY9 X9 Y9
    refine SX.skip ?_
    try simp only [andThen_normal, andThen_ret, andThen_exit, inBlk_normal, inBlk_ret, inBlk_exit, Nat.reduceEqDiff, if_true, if_false, ↓reduceIte]
    refine hK7 _ _ ?_
    try clear hK7 K7
    refine SX.seq_k fun K10 hK10 => ?_
    have hrl := rowG_length hrow
    have hc16 : cutA (some ⟨gp, 0, none⟩) 1 16 0 = some ⟨gp, 0, none⟩ := cutA_lt (by omega)
    obtain ⟨rr, cap, junk, rfl, rfl, hcap, hjl⟩ := RowI.form2 hr1 (by omega)
    have hmin : min rows.length 16 = rows.length := by omega
    refine SX.region_d [some 19, some 20, some 21, some 22, some 23, some 24, some 25] rfl (fun ops hops => ?_)
    unfold Dsts at hops
    simp (maxSteps:=1000000)(dsimp:=false)(disch:=omega) only [go_sem, Φa, hP, h2_0, h2_3, h2_4, hops, hc16, Nat.sub_zero]
    refine YCopy.cells (i := 1) (src := SX.ints .u8 rows) (sz := 1) (hP ▸ T.elS_23) (by rw [ints_length, Nat.mul_one]) (fun j u hj => ⟨_, rfl, by
        rw [Addr.add_lit, Nat.zero_add]
        exact Cell.at 0 rfl (by rw [List.getElem?_append_left (List.getElem?_eq_some_iff.1 hj).1]; exact hj)⟩) (ints_oneB _ _) rfl (by rw [hmin, pcells_length]; omega) (.inr (Nat.zero_le _)) ?_
    rw [hmin, Nat.mul_one, List.take_of_length_le (by rw [ints_length]; exact Nat.le_refl _), pV_all hg.V (by omega)]
    try with_reducible refine stI ?_
    try simp (maxSteps:=1000000)(dsimp:=false)(disch:=omega) only [go_sem, Φa, hP, h2_0, h2_3, h2_4, hops, hc16, Nat.sub_zero]
    refine hK10 _ _ ?_
    try clear hK10 K10
    refine SX.live [0] (fun T3 hT3 => ?_)
    simp only [forall_mem_cons', forall_mem_nil', go_sem, Φa, hP, h2_0, h2_3, h2_4] at hT3
    have h3_0 := hT3; clear hT3
    clear h2_0 h2_3 h2_4 T2
    refine SX.seq_k fun K11 hK11 => ?_
    refine SX.region_d [some 26, some 27, some 2] rfl (fun ops hops => ?_)
    unfold Dsts at hops
    simp (maxSteps:=1000000)(dsimp:=false)(disch:=omega) only [go_sem, Φa, hP, h3_0, hops]
    refine SCall.mono (SCall.of_less (Less.drop _ _) (behind_spec (g := { g with V := spliceL g.V 0 rows }) hP hx)) ?_
    rintro v_ L_ ⟨hv_, hL_⟩
    rw [hv_, hL_]
    clear hv_ hL_ v_ L_
    try with_reducible refine stI ?_
    try simp (maxSteps:=1000000)(dsimp:=false)(disch:=omega) only [go_sem, Φa, hP, h3_0, hops]
    refine hK11 _ _ ?_
    try clear hK11 K11
    refine SX.ret ?_
    simp only [andThen_normal, andThen_ret, andThen_exit, inBlk_normal, inBlk_ret, inBlk_exit, Nat.reduceEqDiff, if_true, if_false, ↓reduceIte, retQ_ret]
    try simp only [res0, res1, res2, res3, stK_e, go_sem, Φa, hP, h3_0]
    refine ⟨_, _, Less.refl _, rfl, ?_⟩
    unfold fillG
    rw [hrow]
    exact ⟨rfl, sv, pv, mv, q1, q2, q3, rfl, ⟨hr.st, hr.pg, hr.mm⟩⟩

end Go.Proofs.Ytgioegdjeodpiaa
set_option linter.unusedVariables false
set_option linter.unusedSimpArgs false
namespace Go.Proofs.Ytgioegdjeodpiaa
open Go.RowKit Go.SX

def doG (g : GM) (o : Ord) (f : Fnt) (d : Feed) : Int × GM := match o.op with
  | 2 => (1, { g with pg := List.replicate 256 0 })
  | 3 => backG g
  | 4 => (1, { g with PC := (o.a : Int) })
  | 5 => callG g o
  | 6 => skipG g (decide (vG g o.x = (o.b : Int)))
  | 7 => skipG g (!decide (vG g o.x = (o.b : Int)))
  | 8 => skipG g (decide (vG g o.x = vG g o.y))
  | 9 => letG g o (o.b : Int)
  | 10 => letG g o (IntKind.u8.wrap (vG g o.x + (o.b : Int)))
  | 11 => letG g o (vG g o.y)
  | 12 => flagG g o (bits .or .u8 (vG g o.x) (vG g o.y)) 0
  | 13 => flagG g o (bits .and .u8 (vG g o.x) (vG g o.y)) 0
  | 14 => plusG g o
  | 15 => minusG g o
  | 16 => skipG g (!decide (vG g o.x = vG g o.y))
  | 17 => (1, { g with I := (o.a : Int) })
  | 18 => (1, { g with PC := IntKind.u16.wrap ((o.a : Int) + vG g 0) })
  | 19 => letG g o (bits .and .u8 d.rnd (o.b : Int))
  | 20 => drawG g o f
  | 21 => skipG g (downG g o d)
  | 22 => skipG g (!downG g o d)
  | 23 => letG g o g.dl
  | 24 => keyG g o d
  | 25 => (1, { g with dl := vG g o.x })
  | 26 => (1, { g with sd := vG g o.x })
  | 27 => (1, { g with I := IntKind.u16.wrap (g.I + vG g o.x) })
  | 28 => (1, { g with I := f.at_.getD (vG g o.x % 16).toNat 0 })
  | 29 => threeG g o
  | 30 => storeG g o
  | 31 => fillG g o f
  | _ => (0, g)
theorem do_spec {Γ : Ctx} (hP : Γ.P = Try.prog) {L : Hp} {gp : Nat} {g : GM} {sv pv mv : Value} {o : Ord} {f : Fnt} {fv : Value} {d : Feed} {q1 q2 q3 : Slot} (hg : OkG g) (hr : Rows g sv pv mv q1 q2 q3) (ho : OkO o) (hx : o.x < 16) (hy : o.y < 16) (hd : OkD d) (hst : g.st.length ≤ 12) (hn : o.n < 16) (hml : g.mm.length = 3232) (hpl : g.pg.length = 256) (hf : SlI .u8 (Cell Γ L) fv f.bs) (hfl : f.bs.length ≤ 65536) (hfr : 0 ≤ f.from_ ∧ f.from_ ≤ 65535) (h2 : 2 ≤ o.op) (h31 : o.op ≤ 31) : SCall Γ (45 + o.op) #[(.pointer (some ⟨gp, 0, none⟩))] (PS gp g sv pv mv o f fv d :: q1 :: q2 :: q3 :: L) (mres gp o f fv d L (doG g o f d)) := by
  have h : o.op = 2 ∨ o.op = 3 ∨ o.op = 4 ∨ o.op = 5 ∨ o.op = 6 ∨ o.op = 7 ∨ o.op = 8 ∨ o.op = 9 ∨ o.op = 10 ∨ o.op = 11 ∨ o.op = 12 ∨ o.op = 13 ∨ o.op = 14 ∨ o.op = 15 ∨ o.op = 16 ∨ o.op = 17 ∨ o.op = 18 ∨ o.op = 19 ∨ o.op = 20 ∨ o.op = 21 ∨ o.op = 22 ∨ o.op = 23 ∨ o.op = 24 ∨ o.op = 25 ∨ o.op = 26 ∨ o.op = 27 ∨ o.op = 28 ∨ o.op = 29 ∨ o.op = 30 ∨ o.op = 31 := by omega
  unfold doG
  rcases h with h | h | h | h | h | h | h | h | h | h | h | h | h | h | h | h | h | h | h | h | h | h | h | h | h | h | h | h | h | h <;> rw [h]
  · exact clear_spec hP hg hr ho hx hy hd 
  · exact back_spec hP hg hr ho hx hy hd hst
  · exact jump_spec hP hg hr ho hx hy hd 
  · exact call_spec hP hg hr ho hx hy hd hst
  · exact skipIs_spec hP hg hr ho hx hy hd 
  · exact skipNot_spec hP hg hr ho hx hy hd 
  · exact skipSame_spec hP hg hr ho hx hy hd 
  · exact set_spec hP hg hr ho hx hy hd 
  · exact add_spec hP hg hr ho hx hy hd 
  · exact move_spec hP hg hr ho hx hy hd 
  · exact or_spec hP hg hr ho hx hy hd 
  · exact and_spec hP hg hr ho hx hy hd 
  · exact plus_spec hP hg hr ho hx hy hd 
  · exact minus_spec hP hg hr ho hx hy hd 
  · exact skipOther_spec hP hg hr ho hx hy hd 
  · exact point_spec hP hg hr ho hx hy hd 
  · exact jumpBy_spec hP hg hr ho hx hy hd 
  · exact random_spec hP hg hr ho hx hy hd 
  · exact draw_spec hP hg hr ho hx hy hd hn hml hpl hf hfl hfr
  · exact skipDown_spec hP hg hr ho hx hy hd 
  · exact skipUp_spec hP hg hr ho hx hy hd 
  · exact timer_spec hP hg hr ho hx hy hd 
  · exact key_spec hP hg hr ho hx hy hd 
  · exact delay_spec hP hg hr ho hx hy hd 
  · exact sound_spec hP hg hr ho hx hy hd 
  · exact on_spec hP hg hr ho hx hy hd 
  · exact digit_spec hP hg hr ho hx hy hd 
  · exact three_spec hP hg hr ho hx hy hd hml
  · exact store_spec hP hg hr ho hx hy hd hml
  · exact fill_spec hP hg hr ho hx hy hd hn hml hpl hf hfl hfr
def deedT : List MapEntry := [{ key := .int .u8 2, val := .func (.func 47) #[] #[], born := 0 }, { key := .int .u8 3, val := .func (.func 48) #[] #[], born := 1 }, { key := .int .u8 4, val := .func (.func 49) #[] #[], born := 2 }, { key := .int .u8 5, val := .func (.func 50) #[] #[], born := 3 }, { key := .int .u8 6, val := .func (.func 51) #[] #[], born := 4 }, { key := .int .u8 7, val := .func (.func 52) #[] #[], born := 5 }, { key := .int .u8 8, val := .func (.func 53) #[] #[], born := 6 }, { key := .int .u8 9, val := .func (.func 54) #[] #[], born := 7 }, { key := .int .u8 10, val := .func (.func 55) #[] #[], born := 8 }, { key := .int .u8 11, val := .func (.func 56) #[] #[], born := 9 }, { key := .int .u8 12, val := .func (.func 57) #[] #[], born := 10 }, { key := .int .u8 13, val := .func (.func 58) #[] #[], born := 11 }, { key := .int .u8 14, val := .func (.func 59) #[] #[], born := 12 }, { key := .int .u8 15, val := .func (.func 60) #[] #[], born := 13 }, { key := .int .u8 16, val := .func (.func 61) #[] #[], born := 14 }, { key := .int .u8 17, val := .func (.func 62) #[] #[], born := 15 }, { key := .int .u8 18, val := .func (.func 63) #[] #[], born := 16 }, { key := .int .u8 19, val := .func (.func 64) #[] #[], born := 17 }, { key := .int .u8 20, val := .func (.func 65) #[] #[], born := 18 }, { key := .int .u8 21, val := .func (.func 66) #[] #[], born := 19 }, { key := .int .u8 22, val := .func (.func 67) #[] #[], born := 20 }, { key := .int .u8 23, val := .func (.func 68) #[] #[], born := 21 }, { key := .int .u8 24, val := .func (.func 69) #[] #[], born := 22 }, { key := .int .u8 25, val := .func (.func 70) #[] #[], born := 23 }, { key := .int .u8 26, val := .func (.func 71) #[] #[], born := 24 }, { key := .int .u8 27, val := .func (.func 72) #[] #[], born := 25 }, { key := .int .u8 28, val := .func (.func 73) #[] #[], born := 26 }, { key := .int .u8 29, val := .func (.func 74) #[] #[], born := 27 }, { key := .int .u8 30, val := .func (.func 75) #[] #[], born := 28 }, { key := .int .u8 31, val := .func (.func 76) #[] #[], born := 29 }]
set_option maxHeartbeats 1000000 in
set_option maxRecDepth 100000 in
theorem deeds_spec {Γ : Ctx} (hP : Γ.P = Try.prog) {L : Hp}  :
    SCall Γ 39 #[] L (fun v L' => ∃ b, v = .map (some b) ∧ L' = some (b, .map deedT.toArray 30) :: L) := by
  refine SCall.enter (n := 3) (res1 0) (hP ▸ Try.func39) rfl rfl (by simp) (res1_ok rfl) ?_
  refine SX.seq_k fun K1 hK1 => ?_
  refine SX.region_d [some 0] rfl (fun ops hops => ?_)
  unfold Dsts at hops
  simp (maxSteps := 1000000) (dsimp := false) (disch := omega) only [go_sem, ia_someH, hP, hops]
  refine hK1 _ _ ?_
  try clear hK1 K1
  refine SX.seq_k fun K2 hK2 => ?_
  refine SX.region_d [some 1, none, none, none, none, none, none, none, none, none, none, none, none, none, none, none, none, none, none, none, none, none, none, none, none, none, none, none, none, none, none, some 2, some 0] rfl (fun ops hops => ?_)
  unfold Dsts at hops
  simp (maxSteps := 1000000) (dsimp := false) (disch := omega) only [go_sem, ia_someH, hP, hops, mapPut, List.nil_append, List.cons_append]
  intro bm
  try with_reducible refine stI ?_
  try simp (maxSteps := 1000000) (dsimp := false) (disch := omega) only [go_sem, ia_someH, hP, hops, mapPut, List.nil_append, List.cons_append]
  refine ⟨_, _, rfl, 0, _, _, rfl, _, rfl, ?_⟩
  try with_reducible refine stI ?_
  try simp (maxSteps := 1000000) (dsimp := false) (disch := omega) only [go_sem, ia_someH, hP, hops, mapPut, List.nil_append, List.cons_append]
  refine ⟨_, _, rfl, 0, _, _, rfl, _, rfl, ?_⟩
  try with_reducible refine stI ?_
  try simp (maxSteps := 1000000) (dsimp := false) (disch := omega) only [go_sem, ia_someH, hP, hops, mapPut, List.nil_append, List.cons_append]
  refine ⟨_, _, rfl, 0, _, _, rfl, _, rfl, ?_⟩
  try with_reducible refine stI ?_
  try simp (maxSteps := 1000000) (dsimp := false) (disch := omega) only [go_sem, ia_someH, hP, hops, mapPut, List.nil_append, List.cons_append]
  refine ⟨_, _, rfl, 0, _, _, rfl, _, rfl, ?_⟩
  try with_reducible refine stI ?_
  try simp (maxSteps := 1000000) (dsimp := false) (disch := omega) only [go_sem, ia_someH, hP, hops, mapPut, List.nil_append, List.cons_append]
  refine ⟨_, _, rfl, 0, _, _, rfl, _, rfl, ?_⟩
  try with_reducible refine stI ?_
  try simp (maxSteps := 1000000) (dsimp := false) (disch := omega) only [go_sem, ia_someH, hP, hops, mapPut, List.nil_append, List.cons_append]
  refine ⟨_, _, rfl, 0, _, _, rfl, _, rfl, ?_⟩
  try with_reducible refine stI ?_
  try simp (maxSteps := 1000000) (dsimp := false) (disch := omega) only [go_sem, ia_someH, hP, hops, mapPut, List.nil_append, List.cons_append]
  refine ⟨_, _, rfl, 0, _, _, rfl, _, rfl, ?_⟩
  try with_reducible refine stI ?_
  try simp (maxSteps := 1000000) (dsimp := false) (disch := omega) only [go_sem, ia_someH, hP, hops, mapPut, List.nil_append, List.cons_append]
  refine ⟨_, _, rfl, 0, _, _, rfl, _, rfl, ?_⟩
  try with_reducible refine stI ?_
  try simp (maxSteps := 1000000) (dsimp := false) (disch := omega) only [go_sem, ia_someH, hP, hops, mapPut, List.nil_append, List.cons_append]
  refine ⟨_, _, rfl, 0, _, _, rfl, _, rfl, ?_⟩
  try with_reducible refine stI ?_
  try simp (maxSteps := 1000000) (dsimp := false) (disch := omega) only [go_sem, ia_someH, hP, hops, mapPut, List.nil_append, List.cons_append]
  refine ⟨_, _, rfl, 0, _, _, rfl, _, rfl, ?_⟩
  try with_reducible refine stI ?_
  try simp (maxSteps := 1000000) (dsimp := false) (disch := omega) only [go_sem, ia_someH, hP, hops, mapPut, List.nil_append, List.cons_append]
  refine ⟨_, _, rfl, 0, _, _, rfl, _, rfl, ?_⟩
  try with_reducible refine stI ?_
  try simp (maxSteps := 1000000) (dsimp := false) (disch := omega) only [go_sem, ia_someH, hP, hops, mapPut, List.nil_append, List.cons_append]
  refine ⟨_, _, rfl, 0, _, _, rfl, _, rfl, ?_⟩
  try with_reducible refine stI ?_
  try simp (maxSteps := 1000000) (dsimp := false) (disch := omega) only [go_sem, ia_someH, hP, hops, mapPut, List.nil_append, List.cons_append]
  refine ⟨_, _, rfl, 0, _, _, rfl, _, rfl, ?_⟩
  try with_reducible refine stI ?_
  try simp (maxSteps := 1000000) (dsimp := false) (disch := omega) only [go_sem, ia_someH, hP, hops, mapPut, List.nil_append, List.cons_append]
  refine ⟨_, _, rfl, 0, _, _, rfl, _, rfl, ?_⟩
  try with_reducible refine stI ?_
  try simp (maxSteps := 1000000) (dsimp := false) (disch := omega) only [go_sem, ia_someH, hP, hops, mapPut, List.nil_append, List.cons_append]
  refine ⟨_, _, rfl, 0, _, _, rfl, _, rfl, ?_⟩
  try with_reducible refine stI ?_
  try simp (maxSteps := 1000000) (dsimp := false) (disch := omega) only [go_sem, ia_someH, hP, hops, mapPut, List.nil_append, List.cons_append]
  refine ⟨_, _, rfl, 0, _, _, rfl, _, rfl, ?_⟩
  try with_reducible refine stI ?_
  try simp (maxSteps := 1000000) (dsimp := false) (disch := omega) only [go_sem, ia_someH, hP, hops, mapPut, List.nil_append, List.cons_append]
  refine ⟨_, _, rfl, 0, _, _, rfl, _, rfl, ?_⟩
  try with_reducible refine stI ?_
  try simp (maxSteps := 1000000) (dsimp := false) (disch := omega) only [go_sem, ia_someH, hP, hops, mapPut, List.nil_append, List.cons_append]
  refine ⟨_, _, rfl, 0, _, _, rfl, _, rfl, ?_⟩
  try with_reducible refine stI ?_
  try simp (maxSteps := 1000000) (dsimp := false) (disch := omega) only [go_sem, ia_someH, hP, hops, mapPut, List.nil_append, List.cons_append]
  refine ⟨_, _, rfl, 0, _, _, rfl, _, rfl, ?_⟩
  try with_reducible refine stI ?_
  try simp (maxSteps := 1000000) (dsimp := false) (disch := omega) only [go_sem, ia_someH, hP, hops, mapPut, List.nil_append, List.cons_append]
  refine ⟨_, _, rfl, 0, _, _, rfl, _, rfl, ?_⟩
  try with_reducible refine stI ?_
  try simp (maxSteps := 1000000) (dsimp := false) (disch := omega) only [go_sem, ia_someH, hP, hops, mapPut, List.nil_append, List.cons_append]
  refine ⟨_, _, rfl, 0, _, _, rfl, _, rfl, ?_⟩
  try with_reducible refine stI ?_
  try simp (maxSteps := 1000000) (dsimp := false) (disch := omega) only [go_sem, ia_someH, hP, hops, mapPut, List.nil_append, List.cons_append]
  refine ⟨_, _, rfl, 0, _, _, rfl, _, rfl, ?_⟩
  try with_reducible refine stI ?_
  try simp (maxSteps := 1000000) (dsimp := false) (disch := omega) only [go_sem, ia_someH, hP, hops, mapPut, List.nil_append, List.cons_append]
  refine ⟨_, _, rfl, 0, _, _, rfl, _, rfl, ?_⟩
  try with_reducible refine stI ?_
  try simp (maxSteps := 1000000) (dsimp := false) (disch := omega) only [go_sem, ia_someH, hP, hops, mapPut, List.nil_append, List.cons_append]
  refine ⟨_, _, rfl, 0, _, _, rfl, _, rfl, ?_⟩
  try with_reducible refine stI ?_
  try simp (maxSteps := 1000000) (dsimp := false) (disch := omega) only [go_sem, ia_someH, hP, hops, mapPut, List.nil_append, List.cons_append]
  refine ⟨_, _, rfl, 0, _, _, rfl, _, rfl, ?_⟩
  try with_reducible refine stI ?_
  try simp (maxSteps := 1000000) (dsimp := false) (disch := omega) only [go_sem, ia_someH, hP, hops, mapPut, List.nil_append, List.cons_append]
  refine ⟨_, _, rfl, 0, _, _, rfl, _, rfl, ?_⟩
  try with_reducible refine stI ?_
  try simp (maxSteps := 1000000) (dsimp := false) (disch := omega) only [go_sem, ia_someH, hP, hops, mapPut, List.nil_append, List.cons_append]
  refine ⟨_, _, rfl, 0, _, _, rfl, _, rfl, ?_⟩
  try with_reducible refine stI ?_
  try simp (maxSteps := 1000000) (dsimp := false) (disch := omega) only [go_sem, ia_someH, hP, hops, mapPut, List.nil_append, List.cons_append]
  refine ⟨_, _, rfl, 0, _, _, rfl, _, rfl, ?_⟩
  try with_reducible refine stI ?_
  try simp (maxSteps := 1000000) (dsimp := false) (disch := omega) only [go_sem, ia_someH, hP, hops, mapPut, List.nil_append, List.cons_append]
  refine ⟨_, _, rfl, 0, _, _, rfl, _, rfl, ?_⟩
  try with_reducible refine stI ?_
  try simp (maxSteps := 1000000) (dsimp := false) (disch := omega) only [go_sem, ia_someH, hP, hops, mapPut, List.nil_append, List.cons_append]
  refine ⟨_, _, rfl, 0, _, _, rfl, _, rfl, ?_⟩
  try with_reducible refine stI ?_
  try simp (maxSteps := 1000000) (dsimp := false) (disch := omega) only [go_sem, ia_someH, hP, hops, mapPut, List.nil_append, List.cons_append]
  refine hK2 _ _ ?_
  try clear hK2 K2
  refine SX.ret ?_
  simp only [andThen_normal, andThen_ret, andThen_exit, inBlk_normal, inBlk_ret, inBlk_exit, Nat.reduceEqDiff, if_true, if_false, ↓reduceIte, retQ_ret]
  try simp only [res0, res1, res2, res3, stK_e, go_sem, ia_someH, hP]
  exact ⟨_, _, Less.refl _, rfl, bm, rfl, rfl⟩

end Go.Proofs.Ytgioegdjeodpiaa
set_option linter.unusedVariables false
set_option linter.unusedSimpArgs false
namespace Go.Proofs.Ytgioegdjeodpiaa
open Go.RowKit Go.SX

theorem lessThree (a b c p q : Slot) (L : Hp) : Less (c :: b :: a :: p :: q :: L) (a :: b :: c :: L) :=
  (Less.sublist (.cons_cons _ (.cons_cons _ (.cons_cons _ (.cons _ (.cons _ (List.Sublist.refl _))))))).trans (Less.perm ((List.reverse_perm [a, b, c]).append_right L))
def cloneG (g : GM) (L : Hp) (v : Value) (L' : Hp) : Prop := ∃ sv pv mv s1 s2 s3, v = .agg (g.cells sv pv mv).toArray ∧ L' = s1 :: s2 :: s3 :: L ∧ Rows g sv pv mv s1 s2 s3
def checkE (g : GM) : Int := if g.pg.length = 256 ∧ g.mm.length = 3232 ∧ g.st.length ≤ 12 then 0 else 180
theorem slShape {k : IntKind} {C : Addr → Value → Prop} {v : Value} {l : List Int} (h : SlI k C v l) : ∃ A c, v = .slice A l.length c ∧ l.length ≤ c := let ⟨A, c, h1, h2, _⟩ := h; ⟨A, c, h1, h2⟩
set_option maxHeartbeats 1000000 in
set_option maxRecDepth 100000 in
theorem clone_spec {Γ : Ctx} (hP : Γ.P = Try.prog) {L : Hp} {g : GM} {sv pv mv : Value} (hs : SlI .u16 (Cell Γ L) sv g.st) (hp : SlI .u8 (Cell Γ L) pv g.pg) (hm : SlI .u8 (Cell Γ L) mv g.mm) (hsl : g.st.length ≤ 1000000) (hpl : g.pg.length ≤ 1000000) (hml : g.mm.length ≤ 1000000) :
    SCall Γ 38 #[(.agg (g.cells sv pv mv).toArray)] L (cloneG g L) := by
  refine SCall.enter (n := 16) (resX Γ [.cell 2 29]) (hP ▸ Try.func38) rfl rfl (by simp) (resX_ok rfl) ?_
  refine SX.seq_k fun K1 hK1 => ?_
  refine SX.region_d [some 1, some 2] rfl (fun ops hops => ?_)
  unfold Dsts at hops
  simp (maxSteps := 1000000) (dsimp := false) (disch := omega) only [go_sem, ia_someH, hP, hops]
  intro b0
  try with_reducible refine stI ?_
  try simp (maxSteps := 1000000) (dsimp := false) (disch := omega) only [go_sem, ia_someH, hP, hops]
  intro b1
  try with_reducible refine stI ?_
  try simp (maxSteps := 1000000) (dsimp := false) (disch := omega) only [go_sem, ia_someH, hP, hops]
  refine hK1 _ _ ?_
  try clear hK1 K1
  refine SX.seq_k fun K2 hK2 => ?_
  refine SX.drawn_d [(0, .q), (1, .q), (3, .q), (4, .q), (6, .q), (7, .q), (2, .e), (9, .q), (5, .e), (8, .e), (10, .t), (11, .t), (12, .t), (13, .t), (14, .t)] (fun L => L) (hP ▸ T.mixed) (by kernel_rfl) (by exact Less.refl _) [some 3, some 4, some 5, some 6, some 7, some 8, some 9, some 10, some 11, some 12, none, some 13, none, some 14, none] rfl (fun ops hops hopl => ?_)
  unfold Dsts at hops
  simp (maxSteps := 1000000) (dsimp := false) (disch := omega) only [go_sem, ia_someH, hP, hops, hopl]
  refine ⟨_, Cell.at 1 rfl (show (g.cells _ _ _)[18]? = _ from rfl), ?_⟩
  try with_reducible refine stI ?_
  try simp (maxSteps := 1000000) (dsimp := false) (disch := omega) only [go_sem, ia_someH, hP, hops, hopl]
  refine ⟨_, Cell.at 1 rfl (show (g.cells _ _ _)[21]? = _ from rfl), ?_⟩
  try with_reducible refine stI ?_
  try simp (maxSteps := 1000000) (dsimp := false) (disch := omega) only [go_sem, ia_someH, hP, hops, hopl]
  refine ⟨_, Cell.at 1 rfl (show (g.cells _ _ _)[22]? = _ from rfl), ?_⟩
  try with_reducible refine stI ?_
  try simp (maxSteps := 1000000) (dsimp := false) (disch := omega) only [go_sem, ia_someH, hP, hops, hopl]
  refine SCall.mono (cloneW_spec hP (SlI.cons _ (SlI.cons _ hs)) hsl) ?_
  rintro v_ L_ ⟨s1, rfl, hr1⟩
  obtain ⟨A1, c1, rfl, hc1⟩ := rowShape hr1
  try with_reducible refine stI ?_
  try simp (maxSteps := 1000000) (dsimp := false) (disch := omega) only [go_sem, ia_someH, hP, hops, hopl]
  refine SCall.mono (cloneB_spec hP (SlI.cons _ (SlI.cons _ (SlI.cons _ hp))) hpl) ?_
  rintro v_ L_ ⟨s2, rfl, hr2⟩
  obtain ⟨A2, c2, rfl, hc2⟩ := rowShape hr2
  try with_reducible refine stI ?_
  try simp (maxSteps := 1000000) (dsimp := false) (disch := omega) only [go_sem, ia_someH, hP, hops, hopl]
  refine SCall.mono (cloneB_spec hP (SlI.cons _ (SlI.cons _ (SlI.cons _ (SlI.cons _ hm)))) hml) ?_
  rintro v_ L_ ⟨s3, rfl, hr3⟩
  obtain ⟨A3, c3, rfl, hc3⟩ := rowShape hr3
  try with_reducible refine stI ?_
  try simp (maxSteps := 1000000) (dsimp := false) (disch := omega) only [go_sem, ia_someH, hP, hops, hopl]
  refine ⟨4, _, _, _, rfl, (by simp [GM.cells]), .inr (by decide), ?_⟩
  try with_reducible refine stI ?_
  try simp (maxSteps := 1000000) (dsimp := false) (disch := omega) only [go_sem, ia_someH, hP, hops, hopl]
  refine ⟨4, _, _, _, rfl, (by simp [GM.cells]), .inr (by decide), ?_⟩
  try with_reducible refine stI ?_
  try simp (maxSteps := 1000000) (dsimp := false) (disch := omega) only [go_sem, ia_someH, hP, hops, hopl]
  refine ⟨4, _, _, _, rfl, (by simp [GM.cells]), .inr (by decide), ?_⟩
  try with_reducible refine stI ?_
  try simp (maxSteps := 1000000) (dsimp := false) (disch := omega) only [go_sem, ia_someH, hP, hops, hopl]
  refine hK2 _ _ ?_
  try clear hK2 K2
  refine SX.live [1, 2] (fun T1 hT1 => ?_)
  simp only [forall_mem_cons', forall_mem_nil', go_sem, ia_someH, hP] at hT1
  obtain ⟨h1_1, h1_2⟩ := hT1
  refine SX.seq_k fun K3 hK3 => ?_
  refine SX.region_d [some 15, none] rfl (fun ops hops => ?_)
  unfold Dsts at hops
  simp (maxSteps := 1000000) (dsimp := false) (disch := omega) only [go_sem, ia_someH, hP, h1_1, h1_2, hops]
  refine ⟨_, Cell.at 4 rfl rfl, ?_⟩
  try with_reducible refine stI ?_
  try simp (maxSteps := 1000000) (dsimp := false) (disch := omega) only [go_sem, ia_someH, hP, h1_1, h1_2, hops]
  refine ⟨_, Cell.at 4 rfl rfl, ?_⟩
  try with_reducible refine stI ?_
  try simp (maxSteps := 1000000) (dsimp := false) (disch := omega) only [go_sem, ia_someH, hP, h1_1, h1_2, hops]
  refine ⟨_, Cell.at 4 rfl rfl, ?_⟩
  try with_reducible refine stI ?_
  try simp (maxSteps := 1000000) (dsimp := false) (disch := omega) only [go_sem, ia_someH, hP, h1_1, h1_2, hops]
  refine ⟨_, Cell.at 4 rfl rfl, ?_⟩
  try with_reducible refine stI ?_
  try simp (maxSteps := 1000000) (dsimp := false) (disch := omega) only [go_sem, ia_someH, hP, h1_1, h1_2, hops]
  refine ⟨_, Cell.at 4 rfl rfl, ?_⟩
  try with_reducible refine stI ?_
  try simp (maxSteps := 1000000) (dsimp := false) (disch := omega) only [go_sem, ia_someH, hP, h1_1, h1_2, hops]
  refine ⟨_, Cell.at 4 rfl rfl, ?_⟩
  try with_reducible refine stI ?_
  try simp (maxSteps := 1000000) (dsimp := false) (disch := omega) only [go_sem, ia_someH, hP, h1_1, h1_2, hops]
  refine ⟨_, Cell.at 4 rfl rfl, ?_⟩
  try with_reducible refine stI ?_
  try simp (maxSteps := 1000000) (dsimp := false) (disch := omega) only [go_sem, ia_someH, hP, h1_1, h1_2, hops]
  refine ⟨_, Cell.at 4 rfl rfl, ?_⟩
  try with_reducible refine stI ?_
  try simp (maxSteps := 1000000) (dsimp := false) (disch := omega) only [go_sem, ia_someH, hP, h1_1, h1_2, hops]
  refine ⟨_, Cell.at 4 rfl rfl, ?_⟩
  try with_reducible refine stI ?_
  try simp (maxSteps := 1000000) (dsimp := false) (disch := omega) only [go_sem, ia_someH, hP, h1_1, h1_2, hops]
  refine ⟨_, Cell.at 4 rfl rfl, ?_⟩
  try with_reducible refine stI ?_
  try simp (maxSteps := 1000000) (dsimp := false) (disch := omega) only [go_sem, ia_someH, hP, h1_1, h1_2, hops]
  refine ⟨_, Cell.at 4 rfl rfl, ?_⟩
  try with_reducible refine stI ?_
  try simp (maxSteps := 1000000) (dsimp := false) (disch := omega) only [go_sem, ia_someH, hP, h1_1, h1_2, hops]
  refine ⟨_, Cell.at 4 rfl rfl, ?_⟩
  try with_reducible refine stI ?_
  try simp (maxSteps := 1000000) (dsimp := false) (disch := omega) only [go_sem, ia_someH, hP, h1_1, h1_2, hops]
  refine ⟨_, Cell.at 4 rfl rfl, ?_⟩
  try with_reducible refine stI ?_
  try simp (maxSteps := 1000000) (dsimp := false) (disch := omega) only [go_sem, ia_someH, hP, h1_1, h1_2, hops]
  refine ⟨_, Cell.at 4 rfl rfl, ?_⟩
  try with_reducible refine stI ?_
  try simp (maxSteps := 1000000) (dsimp := false) (disch := omega) only [go_sem, ia_someH, hP, h1_1, h1_2, hops]
  refine ⟨_, Cell.at 4 rfl rfl, ?_⟩
  try with_reducible refine stI ?_
  try simp (maxSteps := 1000000) (dsimp := false) (disch := omega) only [go_sem, ia_someH, hP, h1_1, h1_2, hops]
  refine ⟨_, Cell.at 4 rfl rfl, ?_⟩
  try with_reducible refine stI ?_
  try simp (maxSteps := 1000000) (dsimp := false) (disch := omega) only [go_sem, ia_someH, hP, h1_1, h1_2, hops]
  refine ⟨_, Cell.at 4 rfl rfl, ?_⟩
  try with_reducible refine stI ?_
  try simp (maxSteps := 1000000) (dsimp := false) (disch := omega) only [go_sem, ia_someH, hP, h1_1, h1_2, hops]
  refine ⟨_, Cell.at 4 rfl rfl, ?_⟩
  try with_reducible refine stI ?_
  try simp (maxSteps := 1000000) (dsimp := false) (disch := omega) only [go_sem, ia_someH, hP, h1_1, h1_2, hops]
  refine ⟨_, Cell.at 4 rfl rfl, ?_⟩
  try with_reducible refine stI ?_
  try simp (maxSteps := 1000000) (dsimp := false) (disch := omega) only [go_sem, ia_someH, hP, h1_1, h1_2, hops]
  refine ⟨_, Cell.at 4 rfl rfl, ?_⟩
  try with_reducible refine stI ?_
  try simp (maxSteps := 1000000) (dsimp := false) (disch := omega) only [go_sem, ia_someH, hP, h1_1, h1_2, hops]
  refine ⟨_, Cell.at 4 rfl rfl, ?_⟩
  try with_reducible refine stI ?_
  try simp (maxSteps := 1000000) (dsimp := false) (disch := omega) only [go_sem, ia_someH, hP, h1_1, h1_2, hops]
  refine ⟨_, Cell.at 4 rfl rfl, ?_⟩
  try with_reducible refine stI ?_
  try simp (maxSteps := 1000000) (dsimp := false) (disch := omega) only [go_sem, ia_someH, hP, h1_1, h1_2, hops]
  refine ⟨_, Cell.at 4 rfl rfl, ?_⟩
  try with_reducible refine stI ?_
  try simp (maxSteps := 1000000) (dsimp := false) (disch := omega) only [go_sem, ia_someH, hP, h1_1, h1_2, hops]
  refine ⟨3, _, _, _, rfl, (by simp [GM.cells]), .inr (by decide), ?_⟩
  try with_reducible refine stI ?_
  try simp (maxSteps := 1000000) (dsimp := false) (disch := omega) only [go_sem, ia_someH, hP, h1_1, h1_2, hops]
  refine hK3 _ _ ?_
  try clear hK3 K3
  refine SX.ret ?_
  simp only [andThen_normal, andThen_ret, andThen_exit, inBlk_normal, inBlk_ret, inBlk_exit, Nat.reduceEqDiff, if_true, if_false, ↓reduceIte, retQ_ret]
  try simp only [res0, res1, res2, res3, stK_e, resX, resK, oneOr, ld_ptr, loadVC, loadN, List.nil_append, List.cons_append, Nat.reduceAdd, Nat.add_zero, Nat.zero_add, Addr.add_lit, Addr.add_zero', add_addS, T.elA_29, T.lay_29, T.szA_29, T.zr_29, Try.underlying29, go_sem, ia_someH, hP, h1_1, h1_2]
  refine ⟨_, _, lessThree _ _ _ _ _ _, ⟨_, Cell.at 3 rfl rfl, _, Cell.at 3 rfl rfl, _, Cell.at 3 rfl rfl, _, Cell.at 3 rfl rfl, _, Cell.at 3 rfl rfl, _, Cell.at 3 rfl rfl, _, Cell.at 3 rfl rfl, _, Cell.at 3 rfl rfl, _, Cell.at 3 rfl rfl, _, Cell.at 3 rfl rfl, _, Cell.at 3 rfl rfl, _, Cell.at 3 rfl rfl, _, Cell.at 3 rfl rfl, _, Cell.at 3 rfl rfl, _, Cell.at 3 rfl rfl, _, Cell.at 3 rfl rfl, _, Cell.at 3 rfl rfl, _, Cell.at 3 rfl rfl, _, Cell.at 3 rfl rfl, _, Cell.at 3 rfl rfl, _, Cell.at 3 rfl rfl, _, Cell.at 3 rfl rfl, _, Cell.at 3 rfl rfl, rfl⟩, ?_⟩
  exact ⟨_, _, _, s1, s2, s3, rfl, rfl, ⟨hr1, hr2, hr3⟩⟩
set_option maxHeartbeats 1000000 in
set_option maxRecDepth 100000 in
theorem Check_spec {Γ : Ctx} (hP : Γ.P = Try.prog) {L : Hp} {g : GM} {sv pv mv : Value} (hs : SlI .u16 (Cell Γ L) sv g.st) (hp : SlI .u8 (Cell Γ L) pv g.pg) (hm : SlI .u8 (Cell Γ L) mv g.mm) (hsl : g.st.length ≤ 2147483647) (hpl : g.pg.length ≤ 2147483647) (hml : g.mm.length ≤ 2147483647) :
    SCall Γ 20 #[(.agg (g.cells sv pv mv).toArray)] L (fun v L' => v = .int .i64 (checkE g) ∧ L' = L) := by
  obtain ⟨As, cs, rfl, hcs⟩ := slShape hs
  obtain ⟨Ap, cp, rfl, hcp⟩ := slShape hp
  obtain ⟨Am, cm, rfl, hcm⟩ := slShape hm
  refine SCall.enter (n := 19) (res1 2) (hP ▸ Try.func20) rfl rfl (by simp) (res1_ok rfl) ?_
  refine SX.seq_k fun K1 hK1 => ?_
  refine SX.region_d [some 1, some 2] rfl (fun ops hops => ?_)
  unfold Dsts at hops
  simp (maxSteps := 1000000) (dsimp := false) (disch := omega) only [go_sem, ia_someH, hP, hops]
  intro b0
  try with_reducible refine stI ?_
  try simp (maxSteps := 1000000) (dsimp := false) (disch := omega) only [go_sem, ia_someH, hP, hops]
  refine hK1 _ _ ?_
  try clear hK1 K1
  refine SX.seq_k fun K2 hK2 => ?_
  refine SX.seq_k fun K3 hK3 => ?_
  refine SX.region_xd [some 3, some 4, some 5, some 6, some 7, some 8, some 9, some 10, some 11, some 12, some 13, some 14, some 15, some 16, some 17, some 18] rfl (fun ops hops => ?_)
  unfold Dsts at hops
  refine RX.live [1] (fun T1 hT1 => ?_)
  simp only [forall_mem_cons', forall_mem_nil', go_sem, ia_someH, hP] at hT1
  have h1_1 := hT1; clear hT1
  refine RX.join 10 (fun (ss : Unit) T L' => T 12 = .bool ((!decide ((g.pg.length : Int) = 256)) || !decide ((g.mm.length : Int) = 3232)) ∧ T 1 = T1 1 ∧ L' = some (b0, .cells (g.cells (.slice As g.st.length cs) (.slice Ap g.pg.length cp) (.slice Am g.mm.length cm)).toArray 29 (0, 0)) :: L ∧ (True)) (fun K4 hK4 => ?_) ?_
  · simp only [h1_1] at hK4
    simp (maxSteps := 1000000) (dsimp := false) (disch := omega) only [go_sem, ia_someH, hP, h1_1, hops]
    repeat' (first | refine iteB (fun hg => ?_) (fun hg => ?_) | refine iteI (fun hg => ?_) (fun hg => ?_) | ((first | refine ⟨_, Cell.at 0 rfl (show (g.cells _ _ _)[21]? = _ from rfl), ?_⟩ | refine ⟨_, Cell.at 0 rfl (show (g.cells _ _ _)[22]? = _ from rfl), ?_⟩ | refine ⟨_, Cell.at 0 rfl (show (g.cells _ _ _)[18]? = _ from rfl), ?_⟩ | refine And.intro (by omega) ?_ | refine ⟨_, Cell.at 0 rfl rfl, ?_⟩ | fail); try (with_reducible refine stI ?_); try simp (maxSteps := 1000000) (dsimp := false) (disch := omega) only [go_sem, ia_someH, hP, h1_1, hops]) | fail)
    all_goals
      refine hK4 () _ (some (b0, .cells (g.cells (.slice As g.st.length cs) (.slice Ap g.pg.length cp) (.slice Am g.mm.length cm)).toArray 29 (0, 0)) :: L) _ (by first | exact Less.refl _ | exact Less.drop _ _ | exact Less.drops (Less.drop _ _) | exact Less.drops (Less.drops (Less.drop _ _)) | exact Less.drops (Less.drops (Less.drops (Less.drop _ _))) | exact Less.drops (Less.drops (Less.drops (Less.drops (Less.drop _ _))))) ?_
      try dsimp only
      refine ⟨?_, ?_, ?_, ?_⟩
      · simp (maxSteps := 1000000) (dsimp := false) (disch := omega) only [go_sem, ia_someH, hP, h1_1]
        first | done | (refine congrArg Value.bool ?_; simp_all; done) | (refine congrArg Value.bool ?_; simp_all; omega)
      · simp (maxSteps := 1000000) (dsimp := false) (disch := omega) only [go_sem, ia_someH, hP, h1_1]
      · rfl
      · trivial
  · intro ss T2 L2 hI
    simp only [h1_1] at hI 
    obtain ⟨h2_12, h2_1, hL2, hinv⟩ := hI
    replace hL2 := hL2.symm
    subst hL2
    clear h1_1 T1
    refine RX.live [1, 12] (fun T3 hT3 => ?_)
    simp only [forall_mem_cons', forall_mem_nil', go_sem, ia_someH, hP, h2_12, h2_1] at hT3
    obtain ⟨h3_1, h3_12⟩ := hT3
    clear h2_12 h2_1 T2
    refine RX.join 6 (fun (ss : Unit) T L' => T 18 = .bool ((!decide ((g.pg.length : Int) = 256)) || (!decide ((g.mm.length : Int) = 3232)) || decide (12 < (g.st.length : Int))) ∧ L' = some (b0, .cells (g.cells (.slice As g.st.length cs) (.slice Ap g.pg.length cp) (.slice Am g.mm.length cm)).toArray 29 (0, 0)) :: L ∧ (True)) (fun K5 hK5 => ?_) ?_
    · simp (maxSteps := 1000000) (dsimp := false) (disch := omega) only [go_sem, ia_someH, hP, h3_1, h3_12, hops]
      repeat' (first | refine iteB (fun hg => ?_) (fun hg => ?_) | refine iteI (fun hg => ?_) (fun hg => ?_) | ((first | refine ⟨_, Cell.at 0 rfl (show (g.cells _ _ _)[21]? = _ from rfl), ?_⟩ | refine ⟨_, Cell.at 0 rfl (show (g.cells _ _ _)[22]? = _ from rfl), ?_⟩ | refine ⟨_, Cell.at 0 rfl (show (g.cells _ _ _)[18]? = _ from rfl), ?_⟩ | refine And.intro (by omega) ?_ | refine ⟨_, Cell.at 0 rfl rfl, ?_⟩ | fail); try (with_reducible refine stI ?_); try simp (maxSteps := 1000000) (dsimp := false) (disch := omega) only [go_sem, ia_someH, hP, h3_1, h3_12, hops]) | fail)
      all_goals
        refine hK5 () _ (some (b0, .cells (g.cells (.slice As g.st.length cs) (.slice Ap g.pg.length cp) (.slice Am g.mm.length cm)).toArray 29 (0, 0)) :: L) _ (by first | exact Less.refl _ | exact Less.drop _ _ | exact Less.drops (Less.drop _ _) | exact Less.drops (Less.drops (Less.drop _ _)) | exact Less.drops (Less.drops (Less.drops (Less.drop _ _))) | exact Less.drops (Less.drops (Less.drops (Less.drops (Less.drop _ _))))) ?_
        try dsimp only
        refine ⟨?_, ?_, ?_⟩
        · simp (maxSteps := 1000000) (dsimp := false) (disch := omega) only [go_sem, ia_someH, hP, h3_1, h3_12]
          first | done | (refine congrArg Value.bool ?_; simp_all; done) | (refine congrArg Value.bool ?_; simp_all; omega)
        · rfl
        · trivial
    · intro ss T4 L4 hI
      obtain ⟨h4_18, hL4, hinv⟩ := hI
      replace hL4 := hL4.symm
      subst hL4
      clear h3_1 h3_12 T3
      refine RX.done ?_
      simp (maxSteps := 1000000) (dsimp := false) (disch := omega) only [go_sem, ia_someH, hP, h4_18, hops]
      refine hK3 _ _ ?_
      try clear hK3 K3
      refine SX.cond_k fun X6 Y6 hX6 hY6 => ?_
      simp (maxSteps := 1000000) (dsimp := false) (disch := omega) only [go_sem, ia_someH, hP, h4_18, condVC]
      refine ⟨fun hc18 => hX6 ?_, fun hc18 => hY6 ?_⟩
      · clear hX6 hY6 X6 Y6
        refine SX.seq_k fun K7 hK7 => ?_
        refine SX.region_d [some 2] rfl (fun ops hops => ?_)
        unfold Dsts at hops
        simp (maxSteps := 1000000) (dsimp := false) (disch := omega) only [go_sem, ia_someH, hP, h4_18, hops]
        refine hK7 _ _ ?_
        try clear hK7 K7
        refine SX.ret ?_
        simp only [andThen_normal, andThen_ret, andThen_exit, inBlk_normal, inBlk_ret, inBlk_exit, Nat.reduceEqDiff, if_true, if_false, ↓reduceIte, retQ_ret]
        try simp only [res0, res1, res2, res3, stK_e, go_sem, ia_someH, hP, h4_18]
        refine ⟨_, _, Less.drop _ _, rfl, ?_⟩
        unfold checkE
        rw [if_neg (fun h => by obtain ⟨h1, h2, h3⟩ := h; simp [h1, h2] at hc18; omega)]
        exact ⟨rfl, rfl⟩
      · clear hX6 hY6 X6 Y6
        refine SX.skip ?_
        try simp only [andThen_normal, andThen_ret, andThen_exit, inBlk_normal, inBlk_ret, inBlk_exit, Nat.reduceEqDiff, if_true, if_false, ↓reduceIte]
        refine hK2 _ _ ?_
        try clear hK2 K2
        refine SX.seq_k fun K8 hK8 => ?_
        refine SX.region_d [some 2] rfl (fun ops hops => ?_)
        unfold Dsts at hops
        simp (maxSteps := 1000000) (dsimp := false) (disch := omega) only [go_sem, ia_someH, hP, h4_18, hops]
        refine hK8 _ _ ?_
        try clear hK8 K8
        refine SX.ret ?_
        simp only [andThen_normal, andThen_ret, andThen_exit, inBlk_normal, inBlk_ret, inBlk_exit, Nat.reduceEqDiff, if_true, if_false, ↓reduceIte, retQ_ret]
        try simp only [res0, res1, res2, res3, stK_e, go_sem, ia_someH, hP, h4_18]
        refine ⟨_, _, Less.drop _ _, rfl, ?_⟩
        unfold checkE
        rw [if_pos (by simp at hc18; omega)]
        exact ⟨rfl, rfl⟩

end Go.Proofs.Ytgioegdjeodpiaa
set_option linter.unusedVariables false
set_option linter.unusedSimpArgs false
namespace Go.Proofs.Ytgioegdjeodpiaa
open Go.RowKit Go.SX
open Go.SX renaming ia_someH → Φa

def wordG (g : GM) : Nat := (g.mm.getD (g.PC - 512).toNat 0 * 256 + g.mm.getD (g.PC - 512 + 1).toNat 0).toNat
def nextG (g : GM) : Ord × Int :=
  if checkE g ≠ 0 then (zeroO, 0)
  else if ¬ (512 ≤ g.PC ∧ g.PC + 1 < 3744) then (zeroO, 7)
  else match decode (wordG g) with
    | none => (zeroO, 4)
    | some o => if o.op = 1 then (o, 3) else (o, 1)
def nextV (r : Ord × Int) : Value := .tuple #[.agg r.1.cells.toArray, .int .u8 r.2]
theorem word_val {a b : Int} (ha : 0 ≤ a ∧ a ≤ 255) (hb : 0 ≤ b ∧ b ≤ 255) : bits .or .u16 (a * 256) b = (((a * 256 + b).toNat : Nat) : Int) := by
  rw [bits_join .u16 16 (by decide) (fun n h1 h2 => wu16 (by omega)) 8 (a * 256) b (by omega) (by omega) (by omega) (by omega) (by omega) (by omega)]
  omega
theorem word_sh {a : Int} (ha : 0 ≤ a ∧ a ≤ 255) : IntKind.u16.wrap (a * 2 ^ (min 8 16)) = a * 256 := by
  show IntKind.u16.wrap (a * 256) = _
  exact wu16 (by omega)
set_option maxHeartbeats 1000000 in
set_option maxRecDepth 100000 in
theorem Next_spec {Γ : Ctx} (hP : Γ.P = Try.prog) {L : Hp} {g : GM} {sv pv mv : Value} (hg : OkG g) (hs : SlI .u16 (Cell Γ L) sv g.st) (hp : SlI .u8 (Cell Γ L) pv g.pg) (hm : SlI .u8 (Cell Γ L) mv g.mm) (hsl : g.st.length ≤ 2147483647) (hpl : g.pg.length ≤ 2147483647) (hml : g.mm.length ≤ 2147483647) :
    SCall Γ 21 #[(.agg (g.cells sv pv mv).toArray)] L (fun v L' => v = nextV (nextG g) ∧ L' = L) := by
  obtain ⟨As, cs, rfl, hcs⟩ := slShape hs
  obtain ⟨Ap, cp, rfl, hcp⟩ := slShape hp
  obtain ⟨Am, cm, rfl, hcm⟩ := slShape hm
  have hPCb := hg.PC
  refine SCall.enter (n := 55) (resX Γ [.cell 2 45, .tmp 3]) (hP ▸ Try.func21) rfl rfl (by simp) (resX_ok rfl) ?_
  refine SX.seq_k fun K1 hK1 => ?_
  refine SX.region_d [some 1, some 2, some 3] rfl (fun ops hops => ?_)
  unfold Dsts at hops
  simp (maxSteps:=1000000)(dsimp:=false)(disch:=omega) only [go_sem, Φa, hP, hops]
  intro b0
  try with_reducible refine stI ?_
  try simp (maxSteps:=1000000)(dsimp:=false)(disch:=omega) only [go_sem, Φa, hP, hops]
  intro b1
  try with_reducible refine stI ?_
  try simp (maxSteps:=1000000)(dsimp:=false)(disch:=omega) only [go_sem, Φa, hP, hops]
  refine hK1 _ _ ?_
  try clear hK1 K1
  refine SX.seq_k fun K2 hK2 => ?_
  refine SX.seq_k fun K3 hK3 => ?_
  refine SX.region_d [some 7, some 8, some 9] rfl (fun ops hops => ?_)
  unfold Dsts at hops
  simp (maxSteps:=1000000)(dsimp:=false)(disch:=omega) only [go_sem, Φa, hP, hops]
  refine ⟨_, Cell.at 1 rfl rfl, ?_⟩
  try with_reducible refine stI ?_
  try simp (maxSteps:=1000000)(dsimp:=false)(disch:=omega) only [go_sem, Φa, hP, hops]
  refine ⟨_, Cell.at 1 rfl rfl, ?_⟩
  try with_reducible refine stI ?_
  try simp (maxSteps:=1000000)(dsimp:=false)(disch:=omega) only [go_sem, Φa, hP, hops]
  refine ⟨_, Cell.at 1 rfl rfl, ?_⟩
  try with_reducible refine stI ?_
  try simp (maxSteps:=1000000)(dsimp:=false)(disch:=omega) only [go_sem, Φa, hP, hops]
  refine ⟨_, Cell.at 1 rfl rfl, ?_⟩
  try with_reducible refine stI ?_
  try simp (maxSteps:=1000000)(dsimp:=false)(disch:=omega) only [go_sem, Φa, hP, hops]
  refine ⟨_, Cell.at 1 rfl rfl, ?_⟩
  try with_reducible refine stI ?_
  try simp (maxSteps:=1000000)(dsimp:=false)(disch:=omega) only [go_sem, Φa, hP, hops]
  refine ⟨_, Cell.at 1 rfl rfl, ?_⟩
  try with_reducible refine stI ?_
  try simp (maxSteps:=1000000)(dsimp:=false)(disch:=omega) only [go_sem, Φa, hP, hops]
  refine ⟨_, Cell.at 1 rfl rfl, ?_⟩
  try with_reducible refine stI ?_
  try simp (maxSteps:=1000000)(dsimp:=false)(disch:=omega) only [go_sem, Φa, hP, hops]
  refine ⟨_, Cell.at 1 rfl rfl, ?_⟩
  try with_reducible refine stI ?_
  try simp (maxSteps:=1000000)(dsimp:=false)(disch:=omega) only [go_sem, Φa, hP, hops]
  refine ⟨_, Cell.at 1 rfl rfl, ?_⟩
  try with_reducible refine stI ?_
  try simp (maxSteps:=1000000)(dsimp:=false)(disch:=omega) only [go_sem, Φa, hP, hops]
  refine ⟨_, Cell.at 1 rfl rfl, ?_⟩
  try with_reducible refine stI ?_
  try simp (maxSteps:=1000000)(dsimp:=false)(disch:=omega) only [go_sem, Φa, hP, hops]
  refine ⟨_, Cell.at 1 rfl rfl, ?_⟩
  try with_reducible refine stI ?_
  try simp (maxSteps:=1000000)(dsimp:=false)(disch:=omega) only [go_sem, Φa, hP, hops]
  refine ⟨_, Cell.at 1 rfl rfl, ?_⟩
  try with_reducible refine stI ?_
  try simp (maxSteps:=1000000)(dsimp:=false)(disch:=omega) only [go_sem, Φa, hP, hops]
  refine ⟨_, Cell.at 1 rfl rfl, ?_⟩
  try with_reducible refine stI ?_
  try simp (maxSteps:=1000000)(dsimp:=false)(disch:=omega) only [go_sem, Φa, hP, hops]
  refine ⟨_, Cell.at 1 rfl rfl, ?_⟩
  try with_reducible refine stI ?_
  try simp (maxSteps:=1000000)(dsimp:=false)(disch:=omega) only [go_sem, Φa, hP, hops]
  refine ⟨_, Cell.at 1 rfl rfl, ?_⟩
  try with_reducible refine stI ?_
  try simp (maxSteps:=1000000)(dsimp:=false)(disch:=omega) only [go_sem, Φa, hP, hops]
  refine ⟨_, Cell.at 1 rfl rfl, ?_⟩
  try with_reducible refine stI ?_
  try simp (maxSteps:=1000000)(dsimp:=false)(disch:=omega) only [go_sem, Φa, hP, hops]
  refine ⟨_, Cell.at 1 rfl rfl, ?_⟩
  try with_reducible refine stI ?_
  try simp (maxSteps:=1000000)(dsimp:=false)(disch:=omega) only [go_sem, Φa, hP, hops]
  refine ⟨_, Cell.at 1 rfl rfl, ?_⟩
  try with_reducible refine stI ?_
  try simp (maxSteps:=1000000)(dsimp:=false)(disch:=omega) only [go_sem, Φa, hP, hops]
  refine ⟨_, Cell.at 1 rfl rfl, ?_⟩
  try with_reducible refine stI ?_
  try simp (maxSteps:=1000000)(dsimp:=false)(disch:=omega) only [go_sem, Φa, hP, hops]
  refine ⟨_, Cell.at 1 rfl rfl, ?_⟩
  try with_reducible refine stI ?_
  try simp (maxSteps:=1000000)(dsimp:=false)(disch:=omega) only [go_sem, Φa, hP, hops]
  refine ⟨_, Cell.at 1 rfl rfl, ?_⟩
  try with_reducible refine stI ?_
  try simp (maxSteps:=1000000)(dsimp:=false)(disch:=omega) only [go_sem, Φa, hP, hops]
  refine ⟨_, Cell.at 1 rfl rfl, ?_⟩
  try with_reducible refine stI ?_
  try simp (maxSteps:=1000000)(dsimp:=false)(disch:=omega) only [go_sem, Φa, hP, hops]
  refine ⟨_, Cell.at 1 rfl rfl, ?_⟩
  try with_reducible refine stI ?_
  try simp (maxSteps:=1000000)(dsimp:=false)(disch:=omega) only [go_sem, Φa, hP, hops]
  first | (refine SCall.mono (Check_spec (g := g) (sv := .slice As g.st.length cs) (pv := .slice Ap g.pg.length cp) (mv := .slice Am g.mm.length cm) hP (SlI.cons _ (SlI.cons _ hs)) (SlI.cons _ (SlI.cons _ hp)) (SlI.cons _ (SlI.cons _ hm)) hsl hpl hml) ?_; rintro v_ L_ ⟨hv_, hL_⟩; rw [hv_, hL_]; clear hv_ hL_ v_ L_) | refine ⟨_, Check_spec (g := g) (sv := .slice As g.st.length cs) (pv := .slice Ap g.pg.length cp) (mv := .slice Am g.mm.length cm) hP (SlI.cons _ (SlI.cons _ hs)) (SlI.cons _ (SlI.cons _ hp)) (SlI.cons _ (SlI.cons _ hm)) hsl hpl hml, ?_⟩ | refine ⟨_, fun L0 hl0 => Check_spec (g := g) (sv := .slice As g.st.length cs) (pv := .slice Ap g.pg.length cp) (mv := .slice Am g.mm.length cm) hP (SlI.cons _ (SlI.cons _ hs)) (SlI.cons _ (SlI.cons _ hp)) (SlI.cons _ (SlI.cons _ hm)) hsl hpl hml, ?_⟩
  try with_reducible refine stI ?_
  try simp (maxSteps:=1000000)(dsimp:=false)(disch:=omega) only [go_sem, Φa, hP, hops]
  refine hK3 _ _ ?_
  try clear hK3 K3
  refine SX.cond_k fun X4 Y4 hX4 hY4 => ?_
  simp (maxSteps:=1000000)(dsimp:=false)(disch:=omega) only [go_sem, Φa, hP, condVC]
  refine ⟨fun hc9 => hX4 ?_, fun hc9 => hY4 ?_⟩
  · clear hX4 hY4 X4 Y4
    refine SX.seq_k fun K5 hK5 => ?_
    refine SX.region_d [some 10, none, some 3] rfl (fun ops hops => ?_)
    unfold Dsts at hops
    simp (maxSteps:=1000000)(dsimp:=false)(disch:=omega) only [go_sem, Φa, hP, hops]
    refine ⟨0, _, _, _, rfl, by decide, .inr (by decide), ?_⟩
    try with_reducible refine stI ?_
    try simp (maxSteps:=1000000)(dsimp:=false)(disch:=omega) only [go_sem, Φa, hP, hops]
    refine hK5 _ _ ?_
    try clear hK5 K5
    refine SX.ret ?_
    simp only [andThen_normal, andThen_ret, andThen_exit, inBlk_normal, inBlk_ret, inBlk_exit, Nat.reduceEqDiff, if_true, if_false, ↓reduceIte, retQ_ret]
    try simp only [res0,res1,res2,res3,stK_e,resX,resK,oneOr,ld_ptr,loadVC,loadN,List.nil_append,List.cons_append,Nat.reduceAdd,Nat.add_zero,Nat.zero_add,Addr.add_lit,Addr.add_zero',add_addS,T.elA_45,T.lay_45,T.szA_45,T.zr_45,Try.underlying45,go_sem,Φa,hP]
    refine ⟨_, L, Less.drops (Less.drop _ _), ⟨_, Cell.at 0 rfl rfl, _, Cell.at 0 rfl rfl, _, Cell.at 0 rfl rfl, _, Cell.at 0 rfl rfl, _, Cell.at 0 rfl rfl, _, Cell.at 0 rfl rfl, rfl⟩, ?_⟩
    unfold nextG nextV
    rw [if_pos (by simpa using hc9)]
    exact ⟨rfl, rfl⟩
  · clear hX4 hY4 X4 Y4
    refine SX.skip ?_
    try simp only [andThen_normal, andThen_ret, andThen_exit, inBlk_normal, inBlk_ret, inBlk_exit, Nat.reduceEqDiff, if_true, if_false, ↓reduceIte]
    refine hK2 _ _ ?_
    try clear hK2 K2
    refine SX.seq_k fun K6 hK6 => ?_
    refine SX.region_d [some 11, some 12, some 13, some 4] rfl (fun ops hops => ?_)
    unfold Dsts at hops
    simp (maxSteps:=1000000)(dsimp:=false)(disch:=omega) only [go_sem, Φa, hP, hops]
    refine ⟨_, Cell.at 1 rfl (show (g.cells _ _ _)[17]? = _ from rfl), ?_⟩
    try with_reducible refine stI ?_
    try simp (maxSteps:=1000000)(dsimp:=false)(disch:=omega) only [go_sem, Φa, hP, hops]
    refine hK6 _ _ ?_
    try clear hK6 K6
    refine SX.live [1, 2, 4] (fun T1 hT1 => ?_)
    simp only [forall_mem_cons', forall_mem_nil', go_sem, Φa, hP] at hT1
    obtain ⟨h1_1, h1_2, h1_4⟩ := hT1
    refine SX.seq_k fun K7 hK7 => ?_
    refine SX.seq_k fun K8 hK8 => ?_
    refine SX.region_xd [some 14, some 15, some 16, some 17, some 18, some 19, some 20, some 21, some 22] rfl (fun ops hops => ?_)
    unfold Dsts at hops
    refine RX.live [1, 2, 4] (fun T2 hT2 => ?_)
    simp only [forall_mem_cons', forall_mem_nil', go_sem, Φa, hP, h1_1, h1_2, h1_4] at hT2
    obtain ⟨h2_1, h2_2, h2_4⟩ := hT2
    clear h1_1 h1_2 h1_4 T1
    refine RX.join 9 (fun (ss : Unit) T L' => T 22 = .bool ((!decide (512 ≤ g.PC ∧ g.PC < 3744)) || !decide (512 ≤ g.PC + 1 ∧ g.PC + 1 < 3744)) ∧ T 1 = T2 1 ∧ T 2 = T2 2 ∧ T 4 = T2 4 ∧ L' = some (b1, .cells #[.int .u8 0, .int .u8 0, .int .u8 0, .int .u8 0, .int .u8 0, .int .u16 0] 45 (0, 0)) :: some (b0, .cells (g.cells (.slice As g.st.length cs) (.slice Ap g.pg.length cp) (.slice Am g.mm.length cm)).toArray 29 (0, 0)) :: L ∧ (True)) (fun K9 hK9 => ?_) ?_
    · simp only [h2_1, h2_2, h2_4] at hK9
      simp (maxSteps:=1000000)(dsimp:=false)(disch:=omega) only [go_sem, Φa, hP, h2_1, h2_2, h2_4, hops]
      repeat' (first | refine iteB (fun hg => ?_) (fun hg => ?_) | refine iteI (fun hg => ?_) (fun hg => ?_) | ((first | first | (refine SCall.mono (inside_spec hP) ?_; rintro v_ L_ ⟨hv_, hL_⟩; rw [hv_, hL_]; clear hv_ hL_ v_ L_) | refine ⟨_, inside_spec hP, ?_⟩ | refine ⟨_, fun L0 hl0 => inside_spec hP, ?_⟩ | refine And.intro (by omega) ?_ | refine ⟨_, Cell.at 0 rfl rfl, ?_⟩ | refine ⟨_, Cell.at 1 rfl rfl, ?_⟩ | fail); try (with_reducible refine stI ?_); try simp (maxSteps:=1000000)(dsimp:=false)(disch:=omega) only [go_sem, Φa, hP, h2_1, h2_2, h2_4, hops]) | fail)
      all_goals
        refine hK9 () _ (some (b1, .cells #[.int .u8 0, .int .u8 0, .int .u8 0, .int .u8 0, .int .u8 0, .int .u16 0] 45 (0, 0)) :: some (b0, .cells (g.cells (.slice As g.st.length cs) (.slice Ap g.pg.length cp) (.slice Am g.mm.length cm)).toArray 29 (0, 0)) :: L) _ (by first | exact Less.refl _ | exact Less.drop _ _ | exact Less.drops (Less.drop _ _) | exact Less.drops (Less.drops (Less.drop _ _)) | exact Less.drops (Less.drops (Less.drops (Less.drop _ _))) | exact Less.drops (Less.drops (Less.drops (Less.drops (Less.drop _ _))))) ?_
        try dsimp only
        refine ⟨?_, ?_, ?_, ?_, ?_, ?_⟩
        · simp (maxSteps:=1000000)(dsimp:=false)(disch:=omega) only [go_sem, Φa, hP, h2_1, h2_2, h2_4]
          first | done | (refine congrArg Value.bool ?_; simp_all; done) | (refine congrArg Value.bool ?_; simp_all; omega)
        · simp (maxSteps:=1000000)(dsimp:=false)(disch:=omega) only [go_sem, Φa, hP, h2_1, h2_2, h2_4]
        · simp (maxSteps:=1000000)(dsimp:=false)(disch:=omega) only [go_sem, Φa, hP, h2_1, h2_2, h2_4]
        · simp (maxSteps:=1000000)(dsimp:=false)(disch:=omega) only [go_sem, Φa, hP, h2_1, h2_2, h2_4]
        · rfl
        · trivial
    · intro ss T3 L3 hI
      simp only [h2_1, h2_2, h2_4] at hI 
      obtain ⟨h3_22, h3_1, h3_2, h3_4, hL3, hinv⟩ := hI
      replace hL3 := hL3.symm
      subst hL3
      clear h2_1 h2_2 h2_4 T2
      refine RX.done ?_
      simp (maxSteps:=1000000)(dsimp:=false)(disch:=omega) only [go_sem, Φa, hP, h3_22, h3_1, h3_2, h3_4, hops]
      refine hK8 _ _ ?_
      try clear hK8 K8
      refine SX.cond_k fun X10 Y10 hX10 hY10 => ?_
      simp (maxSteps:=1000000)(dsimp:=false)(disch:=omega) only [go_sem, Φa, hP, h3_22, h3_1, h3_2, h3_4, condVC]
      refine ⟨fun hc22 => hX10 ?_, fun hc22 => hY10 ?_⟩
      · clear hX10 hY10 X10 Y10
        refine SX.seq_k fun K11 hK11 => ?_
        refine SX.region_d [some 23, none, some 3] rfl (fun ops hops => ?_)
        unfold Dsts at hops
        simp (maxSteps:=1000000)(dsimp:=false)(disch:=omega) only [go_sem, Φa, hP, h3_22, h3_1, h3_2, h3_4, hops]
        refine ⟨0, _, _, _, rfl, by decide, .inr (by decide), ?_⟩
        try with_reducible refine stI ?_
        try simp (maxSteps:=1000000)(dsimp:=false)(disch:=omega) only [go_sem, Φa, hP, h3_22, h3_1, h3_2, h3_4, hops]
        refine hK11 _ _ ?_
        try clear hK11 K11
        refine SX.ret ?_
        simp only [andThen_normal, andThen_ret, andThen_exit, inBlk_normal, inBlk_ret, inBlk_exit, Nat.reduceEqDiff, if_true, if_false, ↓reduceIte, retQ_ret]
        try simp only [res0,res1,res2,res3,stK_e,resX,resK,oneOr,ld_ptr,loadVC,loadN,List.nil_append,List.cons_append,Nat.reduceAdd,Nat.add_zero,Nat.zero_add,Addr.add_lit,Addr.add_zero',add_addS,T.elA_45,T.lay_45,T.szA_45,T.zr_45,Try.underlying45,go_sem,Φa,hP,h3_22,h3_1,h3_2,h3_4]
        refine ⟨_, L, Less.drops (Less.drop _ _), ⟨_, Cell.at 0 rfl rfl, _, Cell.at 0 rfl rfl, _, Cell.at 0 rfl rfl, _, Cell.at 0 rfl rfl, _, Cell.at 0 rfl rfl, _, Cell.at 0 rfl rfl, rfl⟩, ?_⟩
        unfold nextG nextV
        rw [if_neg (by simpa using hc9), if_pos (by simp at hc22; omega)]
        exact ⟨rfl, rfl⟩
      · clear hX10 hY10 X10 Y10
        refine SX.skip ?_
        try simp only [andThen_normal, andThen_ret, andThen_exit, inBlk_normal, inBlk_ret, inBlk_exit, Nat.reduceEqDiff, if_true, if_false, ↓reduceIte]
        refine hK7 _ _ ?_
        try clear hK7 K7
        refine SX.seq_k fun K12 hK12 => ?_
        refine SX.region_d [some 24, some 25, some 4] rfl (fun ops hops => ?_)
        unfold Dsts at hops
        simp (maxSteps:=1000000)(dsimp:=false)(disch:=omega) only [go_sem, Φa, hP, h3_22, h3_1, h3_2, h3_4, hops]
        repeat' ((first | refine And.intro (by omega) ?_ | fail); try (with_reducible refine stI ?_); try simp (maxSteps:=1000000)(dsimp:=false)(disch:=omega) only [go_sem, Φa, hP, h3_22, h3_1, h3_2, h3_4, hops])
        refine hK12 _ _ ?_
        try clear hK12 K12
        refine SX.seq_k fun K13 hK13 => ?_
        have hck : checkE g = 0 := by simpa using hc9
        have hml3 : g.mm.length = 3232 := by
          unfold checkE at hck
          split at hck
          · omega
          · omega
        have hPCc : 512 ≤ g.PC ∧ g.PC + 1 < 3744 := by simp at hc22; omega
        obtain ⟨A0, c0, he, hc0, hA0⟩ := id hm
        cases he
        obtain ⟨a1, e1, hm1⟩ := hA0 (g.PC - 512).toNat _ (getD_some (by omega))
        obtain ⟨a2, e2, hm2⟩ := hA0 (g.PC - 512 + 1).toNat _ (getD_some (by omega))
        cases e1
        cases e2
        rw [Nat.mul_one] at hm1 hm2
        change Cell Γ _ _ (.int .u8 _) at hm1
        change Cell Γ _ _ (.int .u8 _) at hm2
        have hb1 := byte_at hg.mm (g.PC - 512).toNat
        have hb2 := byte_at hg.mm (g.PC - 512 + 1).toNat
        have hsh := word_sh hb1
        have hwv := word_val hb1 hb2
        have hwl : wordG g < 65536 := by unfold wordG; omega
        have hi1 : 0 ≤ g.PC - 512 ∧ g.PC - 512 < (g.mm.length : Int) := by omega
        have hi2 : 0 ≤ g.PC - 512 + 1 ∧ g.PC - 512 + 1 < (g.mm.length : Int) := by omega
        refine SX.drawn_d [(0, .q), (1, .q), (2, .q), (3, .q), (4, .q), (5, .q), (6, .q), (7, .q), (8, .q), (9, .q), (10, .q), (11, .q), (12, .q), (13, .q), (14, .q), (15, .c), (16, .q), (17, .q), (18, .q), (19, .e), (20, .e), (21, .q)] (fun _ => some (b1, .cells #[.int .u8 0, .int .u8 0, .int .u8 0, .int .u8 0, .int .u8 0, .int .u16 0] 45 (0, 0)) :: some (b0, .cells (g.cells (.slice As g.st.length cs) (.slice Ap g.pg.length cp) (.slice (some a1) g.mm.length cm)).toArray 29 (0, 0)) :: L) (hP ▸ T.mixed) (by kernel_rfl) (by exact Less.refl _) [some 27, some 28, some 29, some 30, some 31, some 32, some 33, some 34, some 35, some 36, some 37, some 38, some 39, some 40, some 41, some 42, some 26, some 43, some 44, some 5, none, some 6] rfl (fun ops hops hopl => ?_)
        unfold Dsts at hops
        simp (maxSteps:=1000000)(dsimp:=false)(disch:=omega) only [go_sem, Φa, hP, h3_22, h3_1, h3_2, h3_4, hops, hopl, hsh, hwv]
        refine ⟨_, Cell.at 1 rfl (show (g.cells _ _ _)[22]? = _ from rfl), ?_⟩
        try with_reducible refine stI ?_
        try simp (maxSteps:=1000000)(dsimp:=false)(disch:=omega) only [go_sem, Φa, hP, h3_22, h3_1, h3_2, h3_4, hops, hopl, hsh, hwv]
        refine ⟨_, Cell.cons _ (Cell.cons _ hm1), ?_⟩
        try with_reducible refine stI ?_
        try simp (maxSteps:=1000000)(dsimp:=false)(disch:=omega) only [go_sem, Φa, hP, h3_22, h3_1, h3_2, h3_4, hops, hopl, hsh, hwv]
        refine ⟨_, Cell.at 1 rfl (show (g.cells _ _ _)[22]? = _ from rfl), ?_⟩
        try with_reducible refine stI ?_
        try simp (maxSteps:=1000000)(dsimp:=false)(disch:=omega) only [go_sem, Φa, hP, h3_22, h3_1, h3_2, h3_4, hops, hopl, hsh, hwv]
        refine ⟨_, Cell.cons _ (Cell.cons _ hm2), ?_⟩
        try with_reducible refine stI ?_
        try simp (maxSteps:=1000000)(dsimp:=false)(disch:=omega) only [go_sem, Φa, hP, h3_22, h3_1, h3_2, h3_4, hops, hopl, hsh, hwv]
        rcases hdec : decode (wordG g) with _ | oo
        · skip
          try with_reducible refine stI ?_
          refine ⟨.tuple #[.agg zeroO.cells.toArray, .bool false], fun L0 hl0 => SCall.mono (Decode_spec (w := wordG g) hP hwl) (fun v L' h => by
              unfold decodeR at h
              rw [hdec] at h
              exact stI h), ?_⟩
          unfold zeroO
          unfold Ord.cells
          try with_reducible refine stI ?_
          try simp (maxSteps:=1000000)(dsimp:=false)(disch:=omega) only [go_sem, Φa, hP, h3_22, h3_1, h3_2, h3_4, hops, hopl, hsh, hwv]
          intro b5
          try with_reducible refine stI ?_
          try simp (maxSteps:=1000000)(dsimp:=false)(disch:=omega) only [go_sem, Φa, hP, h3_22, h3_1, h3_2, h3_4, hops, hopl, hsh, hwv]
          try refine And.intro (Less.drop _ _) ?_
          try with_reducible refine stI ?_
          try simp (maxSteps:=1000000)(dsimp:=false)(disch:=omega) only [go_sem, Φa, hP, h3_22, h3_1, h3_2, h3_4, hops, hopl, hsh, hwv]
          refine ⟨0, _, _, _, rfl, by decide, .inr (by decide), ?_⟩
          try with_reducible refine stI ?_
          try simp (maxSteps:=1000000)(dsimp:=false)(disch:=omega) only [go_sem, Φa, hP, h3_22, h3_1, h3_2, h3_4, hops, hopl, hsh, hwv]
          try refine And.intro (Less.drop _ _) ?_
          try with_reducible refine stI ?_
          try simp (maxSteps:=1000000)(dsimp:=false)(disch:=omega) only [go_sem, Φa, hP, h3_22, h3_1, h3_2, h3_4, hops, hopl, hsh, hwv]
          refine hK13 _ _ ?_
          try clear hK13 K13
          refine SX.live [2, 5, 6] (fun T4 hT4 => ?_)
          simp only [forall_mem_cons', forall_mem_nil', go_sem, Φa, hP, h3_22, h3_1, h3_2, h3_4] at hT4
          obtain ⟨h4_2, h4_5, h4_6⟩ := hT4
          clear h3_22 h3_1 h3_2 h3_4 T3
          refine SX.seq_k fun K14 hK14 => ?_
          refine SX.block ?_
          refine SX.seq_k fun K15 hK15 => ?_
          refine SX.region_d [some 46, some 47, some 45] rfl (fun ops hops => ?_)
          unfold Dsts at hops
          simp (maxSteps:=1000000)(dsimp:=false)(disch:=omega) only [go_sem, Φa, hP, h4_2, h4_5, h4_6, hops]
          refine hK15 _ _ ?_
          try clear hK15 K15
          refine SX.cond_k fun X16 Y16 hX16 hY16 => ?_
          simp (maxSteps:=1000000)(dsimp:=false)(disch:=omega) only [go_sem, Φa, hP, h4_2, h4_5, h4_6, condVC]
          refine hX16 ?_
          clear hX16 hY16 X16 Y16
          refine SX.seq_k fun K17 hK17 => ?_
          refine SX.region_d [some 48, none, some 3] rfl (fun ops hops => ?_)
          unfold Dsts at hops
          simp (maxSteps:=1000000)(dsimp:=false)(disch:=omega) only [go_sem, Φa, hP, h4_2, h4_5, h4_6, hops]
          refine ⟨1, _, _, _, rfl, by decide, .inr (by decide), ?_⟩
          try with_reducible refine stI ?_
          try simp (maxSteps:=1000000)(dsimp:=false)(disch:=omega) only [go_sem, Φa, hP, h4_2, h4_5, h4_6, hops]
          refine hK17 _ _ ?_
          try clear hK17 K17
          refine SX.ret ?_
          simp only [andThen_normal, andThen_ret, andThen_exit, inBlk_normal, inBlk_ret, inBlk_exit, Nat.reduceEqDiff, if_true, if_false, ↓reduceIte, retQ_ret]
          try simp only [res0,res1,res2,res3,stK_e,resX,resK,oneOr,ld_ptr,loadVC,loadN,List.nil_append,List.cons_append,Nat.reduceAdd,Nat.add_zero,Nat.zero_add,Addr.add_lit,Addr.add_zero',add_addS,T.elA_45,T.lay_45,T.szA_45,T.zr_45,Try.underlying45,go_sem,Φa,hP,h4_2,h4_5,h4_6]
          refine ⟨_, L, Less.drops (Less.drops (Less.drop _ _)), ⟨_, Cell.at 1 rfl rfl, _, Cell.at 1 rfl rfl, _, Cell.at 1 rfl rfl, _, Cell.at 1 rfl rfl, _, Cell.at 1 rfl rfl, _, Cell.at 1 rfl rfl, rfl⟩, ?_⟩
          unfold nextG nextV
          rw [if_neg (by simpa using hc9), if_neg (by omega), hdec]
          exact ⟨rfl, rfl⟩
        · skip
          try with_reducible refine stI ?_
          refine ⟨.tuple #[.agg oo.cells.toArray, .bool true], fun L0 hl0 => SCall.mono (Decode_spec (w := wordG g) hP hwl) (fun v L' h => by
              unfold decodeR at h
              rw [hdec] at h
              exact stI h), ?_⟩
          unfold Ord.cells
          try with_reducible refine stI ?_
          try simp (maxSteps:=1000000)(dsimp:=false)(disch:=omega) only [go_sem, Φa, hP, h3_22, h3_1, h3_2, h3_4, hops, hopl, hsh, hwv]
          intro b5
          try with_reducible refine stI ?_
          try simp (maxSteps:=1000000)(dsimp:=false)(disch:=omega) only [go_sem, Φa, hP, h3_22, h3_1, h3_2, h3_4, hops, hopl, hsh, hwv]
          try refine And.intro (Less.drop _ _) ?_
          try with_reducible refine stI ?_
          try simp (maxSteps:=1000000)(dsimp:=false)(disch:=omega) only [go_sem, Φa, hP, h3_22, h3_1, h3_2, h3_4, hops, hopl, hsh, hwv]
          refine ⟨0, _, _, _, rfl, by decide, .inr (by decide), ?_⟩
          try with_reducible refine stI ?_
          try simp (maxSteps:=1000000)(dsimp:=false)(disch:=omega) only [go_sem, Φa, hP, h3_22, h3_1, h3_2, h3_4, hops, hopl, hsh, hwv]
          try refine And.intro (Less.drop _ _) ?_
          try with_reducible refine stI ?_
          try simp (maxSteps:=1000000)(dsimp:=false)(disch:=omega) only [go_sem, Φa, hP, h3_22, h3_1, h3_2, h3_4, hops, hopl, hsh, hwv]
          refine hK13 _ _ ?_
          try clear hK13 K13
          refine SX.live [2, 5, 6] (fun T5 hT5 => ?_)
          simp only [forall_mem_cons', forall_mem_nil', go_sem, Φa, hP, h3_22, h3_1, h3_2, h3_4] at hT5
          obtain ⟨h5_2, h5_5, h5_6⟩ := hT5
          clear h3_22 h3_1 h3_2 h3_4 T3
          refine SX.seq_k fun K18 hK18 => ?_
          refine SX.block ?_
          refine SX.seq_k fun K19 hK19 => ?_
          refine SX.region_d [some 46, some 47, some 45] rfl (fun ops hops => ?_)
          unfold Dsts at hops
          simp (maxSteps:=1000000)(dsimp:=false)(disch:=omega) only [go_sem, Φa, hP, h5_2, h5_5, h5_6, hops]
          refine hK19 _ _ ?_
          try clear hK19 K19
          refine SX.cond_k fun X20 Y20 hX20 hY20 => ?_
          simp (maxSteps:=1000000)(dsimp:=false)(disch:=omega) only [go_sem, Φa, hP, h5_2, h5_5, h5_6, condVC]
          refine hY20 ?_
          clear hX20 hY20 X20 Y20
          refine SX.seq_k fun K21 hK21 => ?_
          refine SX.region_d [some 50, some 51, some 52, some 49] rfl (fun ops hops => ?_)
          unfold Dsts at hops
          simp (maxSteps:=1000000)(dsimp:=false)(disch:=omega) only [go_sem, Φa, hP, h5_2, h5_5, h5_6, hops]
          refine ⟨_, Cell.at 0 rfl rfl, ?_⟩
          try with_reducible refine stI ?_
          try simp (maxSteps:=1000000)(dsimp:=false)(disch:=omega) only [go_sem, Φa, hP, h5_2, h5_5, h5_6, hops]
          refine hK21 _ _ ?_
          try clear hK21 K21
          refine SX.cond_k fun X22 Y22 hX22 hY22 => ?_
          simp (maxSteps:=1000000)(dsimp:=false)(disch:=omega) only [go_sem, Φa, hP, h5_2, h5_5, h5_6, condVC]
          refine ⟨fun hc49 => hX22 ?_, fun hc49 => hY22 ?_⟩
          · clear hX22 hY22 X22 Y22
            refine SX.seq_k fun K23 hK23 => ?_
            refine SX.region_d [some 53, none, some 3] rfl (fun ops hops => ?_)
            unfold Dsts at hops
            simp (maxSteps:=1000000)(dsimp:=false)(disch:=omega) only [go_sem, Φa, hP, h5_2, h5_5, h5_6, hops]
            refine ⟨_, Cell.at 0 rfl rfl, ?_⟩
            try with_reducible refine stI ?_
            try simp (maxSteps:=1000000)(dsimp:=false)(disch:=omega) only [go_sem, Φa, hP, h5_2, h5_5, h5_6, hops]
            refine ⟨_, Cell.at 0 rfl rfl, ?_⟩
            try with_reducible refine stI ?_
            try simp (maxSteps:=1000000)(dsimp:=false)(disch:=omega) only [go_sem, Φa, hP, h5_2, h5_5, h5_6, hops]
            refine ⟨_, Cell.at 0 rfl rfl, ?_⟩
            try with_reducible refine stI ?_
            try simp (maxSteps:=1000000)(dsimp:=false)(disch:=omega) only [go_sem, Φa, hP, h5_2, h5_5, h5_6, hops]
            refine ⟨_, Cell.at 0 rfl rfl, ?_⟩
            try with_reducible refine stI ?_
            try simp (maxSteps:=1000000)(dsimp:=false)(disch:=omega) only [go_sem, Φa, hP, h5_2, h5_5, h5_6, hops]
            refine ⟨_, Cell.at 0 rfl rfl, ?_⟩
            try with_reducible refine stI ?_
            try simp (maxSteps:=1000000)(dsimp:=false)(disch:=omega) only [go_sem, Φa, hP, h5_2, h5_5, h5_6, hops]
            refine ⟨_, Cell.at 0 rfl rfl, ?_⟩
            try with_reducible refine stI ?_
            try simp (maxSteps:=1000000)(dsimp:=false)(disch:=omega) only [go_sem, Φa, hP, h5_2, h5_5, h5_6, hops]
            refine ⟨1, _, _, _, rfl, by decide, .inr (by decide), ?_⟩
            try with_reducible refine stI ?_
            try simp (maxSteps:=1000000)(dsimp:=false)(disch:=omega) only [go_sem, Φa, hP, h5_2, h5_5, h5_6, hops]
            refine hK23 _ _ ?_
            try clear hK23 K23
            refine SX.ret ?_
            simp only [andThen_normal, andThen_ret, andThen_exit, inBlk_normal, inBlk_ret, inBlk_exit, Nat.reduceEqDiff, if_true, if_false, ↓reduceIte, retQ_ret]
            try simp only [res0,res1,res2,res3,stK_e,resX,resK,oneOr,ld_ptr,loadVC,loadN,List.nil_append,List.cons_append,Nat.reduceAdd,Nat.add_zero,Nat.zero_add,Addr.add_lit,Addr.add_zero',add_addS,T.elA_45,T.lay_45,T.szA_45,T.zr_45,Try.underlying45,go_sem,Φa,hP,h5_2,h5_5,h5_6]
            refine ⟨_, L, Less.drops (Less.drops (Less.drop _ _)), ⟨_, Cell.at 1 rfl rfl, _, Cell.at 1 rfl rfl, _, Cell.at 1 rfl rfl, _, Cell.at 1 rfl rfl, _, Cell.at 1 rfl rfl, _, Cell.at 1 rfl rfl, rfl⟩, ?_⟩
            unfold nextG nextV
            rw [if_neg (by simpa using hc9), if_neg (by omega), hdec]
            dsimp only
            rw [if_pos (by first | exact hc49 | omega)]
            exact ⟨rfl, rfl⟩
          · clear hX22 hY22 X22 Y22
            refine SX.skip ?_
            try simp only [andThen_normal, andThen_ret, andThen_exit, inBlk_normal, inBlk_ret, inBlk_exit, Nat.reduceEqDiff, if_true, if_false, ↓reduceIte]
            refine hK18 _ _ ?_
            try clear hK18 K18
            refine SX.seq_k fun K24 hK24 => ?_
            refine SX.region_d [some 54, none, some 3] rfl (fun ops hops => ?_)
            unfold Dsts at hops
            simp (maxSteps:=1000000)(dsimp:=false)(disch:=omega) only [go_sem, Φa, hP, h5_2, h5_5, h5_6, hops]
            refine ⟨_, Cell.at 0 rfl rfl, ?_⟩
            try with_reducible refine stI ?_
            try simp (maxSteps:=1000000)(dsimp:=false)(disch:=omega) only [go_sem, Φa, hP, h5_2, h5_5, h5_6, hops]
            refine ⟨_, Cell.at 0 rfl rfl, ?_⟩
            try with_reducible refine stI ?_
            try simp (maxSteps:=1000000)(dsimp:=false)(disch:=omega) only [go_sem, Φa, hP, h5_2, h5_5, h5_6, hops]
            refine ⟨_, Cell.at 0 rfl rfl, ?_⟩
            try with_reducible refine stI ?_
            try simp (maxSteps:=1000000)(dsimp:=false)(disch:=omega) only [go_sem, Φa, hP, h5_2, h5_5, h5_6, hops]
            refine ⟨_, Cell.at 0 rfl rfl, ?_⟩
            try with_reducible refine stI ?_
            try simp (maxSteps:=1000000)(dsimp:=false)(disch:=omega) only [go_sem, Φa, hP, h5_2, h5_5, h5_6, hops]
            refine ⟨_, Cell.at 0 rfl rfl, ?_⟩
            try with_reducible refine stI ?_
            try simp (maxSteps:=1000000)(dsimp:=false)(disch:=omega) only [go_sem, Φa, hP, h5_2, h5_5, h5_6, hops]
            refine ⟨_, Cell.at 0 rfl rfl, ?_⟩
            try with_reducible refine stI ?_
            try simp (maxSteps:=1000000)(dsimp:=false)(disch:=omega) only [go_sem, Φa, hP, h5_2, h5_5, h5_6, hops]
            refine ⟨1, _, _, _, rfl, by decide, .inr (by decide), ?_⟩
            try with_reducible refine stI ?_
            try simp (maxSteps:=1000000)(dsimp:=false)(disch:=omega) only [go_sem, Φa, hP, h5_2, h5_5, h5_6, hops]
            refine hK24 _ _ ?_
            try clear hK24 K24
            refine SX.ret ?_
            simp only [andThen_normal, andThen_ret, andThen_exit, inBlk_normal, inBlk_ret, inBlk_exit, Nat.reduceEqDiff, if_true, if_false, ↓reduceIte, retQ_ret]
            try simp only [res0,res1,res2,res3,stK_e,resX,resK,oneOr,ld_ptr,loadVC,loadN,List.nil_append,List.cons_append,Nat.reduceAdd,Nat.add_zero,Nat.zero_add,Addr.add_lit,Addr.add_zero',add_addS,T.elA_45,T.lay_45,T.szA_45,T.zr_45,Try.underlying45,go_sem,Φa,hP,h5_2,h5_5,h5_6]
            refine ⟨_, L, Less.drops (Less.drops (Less.drop _ _)), ⟨_, Cell.at 1 rfl rfl, _, Cell.at 1 rfl rfl, _, Cell.at 1 rfl rfl, _, Cell.at 1 rfl rfl, _, Cell.at 1 rfl rfl, _, Cell.at 1 rfl rfl, rfl⟩, ?_⟩
            unfold nextG nextV
            rw [if_neg (by simpa using hc9), if_neg (by omega), hdec]
            dsimp only
            rw [if_neg (by first | exact hc49 | omega)]
            exact ⟨rfl, rfl⟩

end Go.Proofs.Ytgioegdjeodpiaa
