/- GameTwice: drawn twice, the page is as it was, and all dots that were laid go out the second time; no condition. -/
import Derived.Test.YtgioegdjeodpiaaCE
import Derived.KernelRfl
import Derived.Test.YtgioegdjeodpiaaRows
set_option linter.unusedVariables false
set_option linter.unusedSimpArgs false
namespace Go.Proofs.Ytgioegdjeodpiaa
open Go.RowKit Go.SX
/-! Drawn twice. -/
theorem gone_eq {page rows : List Int} {x y : Nat} (h : Good page) : (drawn page x y rows).1 = (List.range rows.length).any fun k => (List.range 8).any fun d => dotB (rows.getD k 0) d && (decide (x % 64 + d < 64 ∧ y % 32 + k < 32) && pix page (x % 64 + d) (y % 32 + k)) := by
  have h1 := eachK_gone (rows := rows) (x := x % 64) (y := y % 32) (st := (false, page)) h rows.length
  rw [Bool.false_or] at h1
  exact h1
theorem gone_false {page rows : List Int} {x y : Nat} (h : Good page) (hf : (drawn page x y rows).1 = false) {k d : Nat} (hk : k < rows.length) (hd : d < 8) (hb : dotB (rows.getD k 0) d = true) (hx : x % 64 + d < 64) (hy : y % 32 + k < 32) : pix page (x % 64 + d) (y % 32 + k) = false := by
  rw [gone_eq h, List.any_eq_false] at hf
  have h1 := hf k (List.mem_range.2 hk)
  simp only [Bool.not_eq_true, List.any_eq_false] at h1
  have h2 := h1 d (List.mem_range.2 hd)
  rw [hb, decide_eq_true ⟨hx, hy⟩] at h2
  simpa using h2
theorem mine_of {x y k d : Nat} {rows : List Int} (hk : k < rows.length) (hd : d < 8) : mine x y rows (x % 64 + d) (y % 32 + k) = dotB (rows.getD k 0) d := by
  unfold mine
  rw [decide_eq_true (by omega), Bool.true_and, Nat.add_sub_cancel_left, Nat.add_sub_cancel_left]
/-- Nothing was turned just if no dot went out, neither the first nor the second time. -/
theorem drawn_none {page rows : List Int} {x y : Nat} (h : Good page) : (drawn page x y rows).2 = page ↔ (drawn page x y rows).1 = false ∧ (drawn (drawn page x y rows).2 x y rows).1 = false := by
  constructor
  · intro e
    have hm : ∀ i j, i < 64 → j < 32 → mine x y rows i j = false := fun i j hi hj => by
      have h1 := drawn_pix (rows := rows) (x := x) (y := y) h hi hj
      rw [e] at h1
      cases hm : mine x y rows i j with
      | false => rfl
      | true => rw [hm] at h1; cases hp : pix page i j <;> rw [hp] at h1 <;> cases h1
    have h1 : (drawn page x y rows).1 = false := by
      rw [gone_eq h, List.any_eq_false]
      intro k hk
      simp only [Bool.not_eq_true, List.any_eq_false]
      intro d hd
      by_cases hin : x % 64 + d < 64 ∧ y % 32 + k < 32
      · rw [← mine_of (x := x) (y := y) (List.mem_range.1 hk) (List.mem_range.1 hd), hm _ _ hin.1 hin.2]
        simp
      · rw [decide_eq_false hin]
        simp
    exact ⟨h1, by rw [e]; exact h1⟩
  · rintro ⟨h1, h2⟩
    refine page_ext (drawn_good h) h fun i j hi hj => ?_
    have hp := drawn_pix (rows := rows) (x := x) (y := y) h hi hj
    rw [hp]
    cases hm : mine x y rows i j with
    | false => cases pix page i j <;> rfl
    | true =>
      exfalso
      unfold mine at hm
      simp only [Bool.and_eq_true, decide_eq_true_eq] at hm
      obtain ⟨⟨a1, a2, a3, a4⟩, a5⟩ := hm
      have ei : x % 64 + (i - x % 64) = i := by omega
      have ej : y % 32 + (j - y % 32) = j := by omega
      have g1 := gone_false h h1 (k := j - y % 32) (d := i - x % 64) (by omega) (by omega) a5 (by omega) (by omega)
      have g2 := gone_false (drawn_good h) h2 (k := j - y % 32) (d := i - x % 64) (by omega) (by omega) a5 (by omega) (by omega)
      rw [ei, ej] at g1 g2
      have hm2 : mine x y rows i j = true := by
        unfold mine
        rw [decide_eq_true ⟨a1, a2, a3, a4⟩, a5]
        rfl
      rw [hp, g1, hm2] at g2
      cases g2
def twiceB (g : GM) (x y r : Int) : GM := { g with PC := 512, mm := (((g.mm.set 0 (208 + x)).set 1 (16 * y + r)).set 2 (208 + x)).set 3 (16 * y + r) }
theorem dec_draw_all : ((List.range 16).all fun x => (List.range 16).all fun y => (List.range 16).all fun r => decide (decode ((208 + x) * 256 + (16 * y + r)) = some ⟨20, x, y, r, 0, 0⟩)) = true := by kernel_rfl
theorem dec_draw {x y r : Nat} (hx : x < 16) (hy : y < 16) (hr : r < 16) : decode ((208 + x) * 256 + (16 * y + r)) = some ⟨20, x, y, r, 0, 0⟩ := by
  have h1 := List.all_eq_true.1 dec_draw_all x (List.mem_range.2 hx)
  have h2 := List.all_eq_true.1 h1 y (List.mem_range.2 hy)
  have h3 := List.all_eq_true.1 h2 r (List.mem_range.2 hr)
  exact of_decide_eq_true h3
theorem getD_set3 (l : List Int) (i j : Nat) (x : Int) : (l.set i x).getD j 0 = if i = j ∧ i < l.length then x else l.getD j 0 := by
  by_cases h : i < l.length
  · rw [getD_set l i j x h]
    by_cases e : i = j
    · rw [if_pos e, if_pos ⟨e, h⟩]
    · rw [if_neg e, if_neg (fun c => e c.1)]
  · rw [List.set_eq_of_length_le (by omega), if_neg (fun c => h c.2)]
section
variable {g : GM} {x y r : Int} {f : Fnt}
structure Dig (x y r : Int) : Prop where
  x0 : 0 ≤ x
  x1 : x < 15
  y0 : 0 ≤ y
  y1 : y < 15
  r0 : 0 ≤ r
  r1 : r < 16
def drawO (x y r : Int) : Ord := ⟨20, x.toNat, y.toNat, r.toNat, 0, 0⟩
theorem twiceB_fine (h : Fine g) (hd : Dig x y r) : Fine (twiceB g x y r) := by
  obtain ⟨x0, x1, y0, y1, r0, r1⟩ := hd
  refine ⟨⟨h.ok.V, h.ok.Vb, h.ok.I, ?_, h.ok.st, h.ok.dl, h.ok.sd, h.ok.pg, ?_⟩, h.pg, ?_, h.st⟩
  · show (0 : Int) ≤ 512 ∧ (512 : Int) ≤ 65535
    omega
  · exact byte_set (byte_set (byte_set (byte_set h.ok.mm (by omega)) (by omega)) (by omega)) (by omega)
  · show List.length (List.set _ _ _) = 3232
    simp only [List.length_set]
    exact h.mm
theorem twice_mm (h : Fine g) : (twiceB g x y r).mm.getD 0 0 = 208 + x ∧ (twiceB g x y r).mm.getD 1 0 = 16 * y + r ∧ (twiceB g x y r).mm.getD 2 0 = 208 + x ∧ (twiceB g x y r).mm.getD 3 0 = 16 * y + r := by
  have hm := h.mm
  unfold twiceB
  dsimp only
  refine ⟨?_, ?_, ?_, ?_⟩
  · rw [getD_set3, if_neg (by omega), getD_set3, if_neg (by omega), getD_set3, if_neg (by omega), getD_set3, if_pos ⟨rfl, by omega⟩]
  · rw [getD_set3, if_neg (by omega), getD_set3, if_neg (by omega), getD_set3, if_pos ⟨rfl, by simp only [List.length_set]; omega⟩]
  · rw [getD_set3, if_neg (by omega), getD_set3, if_pos ⟨rfl, by simp only [List.length_set]; omega⟩]
  · rw [getD_set3, if_pos ⟨rfl, by simp only [List.length_set]; omega⟩]
/-- The order at 512 and at 514 is the same. -/
theorem twice_next (h : Fine g) (hd : Dig x y r) {b : GM} (hb : Fine b) (hmm : b.mm = (twiceB g x y r).mm) (hPC : b.PC = 512 ∨ b.PC = 514) : nextG b = (drawO x y r, 1) := by
  obtain ⟨x0, x1, y0, y1, r0, r1⟩ := hd
  obtain ⟨e0, e1, e2, e3⟩ := twice_mm (x := x) (y := y) (r := r) h
  have w : wordG b = (208 + x.toNat) * 256 + (16 * y.toNat + r.toNat) := by
    unfold wordG
    rw [hmm]
    rcases hPC with hPC | hPC <;> rw [hPC]
    · rw [show ((512 : Int) - 512).toNat = 0 from rfl, show ((512 : Int) - 512 + 1).toNat = 1 from rfl, e0, e1]
      omega
    · rw [show ((514 : Int) - 512).toNat = 2 from rfl, show ((514 : Int) - 512 + 1).toNat = 3 from rfl, e2, e3]
      omega
  unfold nextG
  rw [if_neg (by rw [hb.check]; simp), if_neg (by omega), w, dec_draw (by omega) (by omega) (by omega)]
  rfl
theorem row_same {a b : GM} (hI : a.I = b.I) (hm : a.mm = b.mm) : ∀ n, rowG a f n = rowG b f n
  | 0 => rfl
  | n + 1 => by
    have hat : ∀ p, atG a f p = atG b f p := fun p => by unfold atG; rw [hm]
    unfold rowG
    rw [row_same hI hm n, hI, hat]
def drawnA (g : GM) (x y r : Int) (rows : List Int) : Bool × List Int := drawn g.pg (vG g x.toNat).toNat (vG g y.toNat).toNat rows
/-- What a step does with the order. -/
theorem draw_step (h : Fine g) (hd : Dig x y r) {b : GM} (hb : Fine b) (hmm : b.mm = (twiceB g x y r).mm) (hPC : b.PC = 512 ∨ b.PC = 514) (hf : ¬ (65536 < f.from_ + (f.bs.length : Int))) :
    stepG b f quietD = match rowG b f r.toNat with
      | none => (b, 7, 0)
      | some rows => ({ b with PC := b.PC + 2, pg := (drawnA b x y r rows).2, V := b.V.set 15 (truthI (drawnA b x y r rows).1) }, 1, 0) := by
  have hn := twice_next h hd hb hmm hPC
  have hw : IntKind.u16.wrap (b.PC + 2) = b.PC + 2 := wu16 (by omega)
  have hr : rowG { b with PC := IntKind.u16.wrap (b.PC + 2) } f r.toNat = rowG b f r.toNat := row_same (a := { b with PC := IntKind.u16.wrap (b.PC + 2) }) (b := b) rfl rfl _
  unfold stepG
  rw [if_neg (by rw [hb.check]; simp), if_neg (by intro hx; rcases hx with hx | hx; exact hf hx; exact absurd hx (by decide)), if_neg (by rw [hn]; simp), hn]
  show (let q := drawG { b with PC := IntKind.u16.wrap (b.PC + 2) } (drawO x y r) f; if q.1 ≠ 1 then (b, q.1, 0) else (q.2, 1, 0)) = _
  unfold drawG
  rw [show rowG { b with PC := IntKind.u16.wrap (b.PC + 2) } f (drawO x y r).n = rowG b f r.toNat from hr]
  cases rowG b f r.toNat with
  | none => rfl
  | some rows =>
    dsimp only
    rw [if_neg (by simp), hw]
    rfl
theorem font_ok {b : GM} (hb : Fine b) {d : Feed} (he : (stepG b f d).2.2 = 0) : ¬ (65536 < f.from_ + (f.bs.length : Int)) := fun hx => by
  unfold stepG at he
  rw [if_neg (by rw [hb.check]; simp), if_pos (.inl hx)] at he
  cases he
/-- The first time: it lies outside, or the page is drawn; and then the second time. -/
theorem twice_all (h : Fine g) (hd : Dig x y r) (hF : OkF f) (he : (stepG (twiceB g x y r) f quietD).2.2 = 0) :
    ((stepG (twiceB g x y r) f quietD).2.1 = 7) ∨
    ((stepG (twiceB g x y r) f quietD).2.1 = 1 ∧ ∃ A B : GM, stepG (twiceB g x y r) f quietD = (A, 1, 0) ∧ stepG A f quietD = (B, 1, 0) ∧ Fine A ∧ Fine B ∧ B.pg = g.pg ∧ A.V.getD 15 0 ≤ 1 ∧ B.V.getD 15 0 ≤ 1 ∧ (A.pg = g.pg ↔ A.V.getD 15 0 = 0 ∧ B.V.getD 15 0 = 0)) := by
  have hB := twiceB_fine h hd
  have hf := font_ok hB he
  have h1 := draw_step h hd hB rfl (.inl rfl) hf
  cases hr : rowG (twiceB g x y r) f r.toNat with
  | none => rw [hr] at h1; exact .inl (by rw [h1])
  | some rows =>
    rw [hr] at h1
    dsimp only at h1
    refine .inr ⟨by rw [h1], ?_⟩
    obtain ⟨A, hA⟩ : ∃ A, A = (stepG (twiceB g x y r) f quietD).1 := ⟨_, rfl⟩
    have hAf : Fine A := by rw [hA]; exact hB.step hF quietD_ok he
    have hA2 : A = { twiceB g x y r with PC := (twiceB g x y r).PC + 2, pg := (drawnA (twiceB g x y r) x y r rows).2, V := (twiceB g x y r).V.set 15 (truthI (drawnA (twiceB g x y r) x y r rows).1) } := by rw [hA, h1]
    have hrA : rowG A f r.toNat = some rows := by
      rw [← hr]
      exact row_same (by rw [hA2]) (by rw [hA2]) _
    have h2 := draw_step (b := A) h hd hAf (by rw [hA2]) (.inr (by rw [hA2]; rfl)) hf
    rw [hrA] at h2
    dsimp only at h2
    obtain ⟨B, hB2⟩ : ∃ B, B = (stepG A f quietD).1 := ⟨_, rfl⟩
    have hBf : Fine B := by rw [hB2]; exact hAf.step hF quietD_ok (by rw [h2])
    have hB3 : B = { A with PC := A.PC + 2, pg := (drawnA A x y r rows).2, V := A.V.set 15 (truthI (drawnA A x y r rows).1) } := by rw [hB2, h2]
    obtain ⟨x0, x1, y0, y1, r0, r1⟩ := hd
    have hV : g.V.length = 16 := h.ok.V
    have hvx : vG A x.toNat = vG g x.toNat := by
      rw [hA2]
      show (g.V.set 15 _).getD x.toNat 0 = g.V.getD x.toNat 0
      rw [getD_set3, if_neg (by omega)]
    have hvy : vG A y.toNat = vG g y.toNat := by
      rw [hA2]
      show (g.V.set 15 _).getD y.toNat 0 = g.V.getD y.toNat 0
      rw [getD_set3, if_neg (by omega)]
    have hpA : A.pg = (drawn g.pg (vG g x.toNat).toNat (vG g y.toNat).toNat rows).2 := by rw [hA2]; rfl
    have hpB : B.pg = g.pg := by
      rw [hB3]
      show (drawn A.pg (vG A x.toNat).toNat (vG A y.toNat).toNat rows).2 = g.pg
      rw [hvx, hvy, hpA]
      exact drawn_back h.good
    have hvA : A.V.getD 15 0 = truthI (drawn g.pg (vG g x.toNat).toNat (vG g y.toNat).toNat rows).1 := by
      rw [hA2]
      show (g.V.set 15 _).getD 15 0 = _
      rw [getD_set3, if_pos ⟨rfl, by omega⟩]
      rfl
    have hvB : B.V.getD 15 0 = truthI (drawn (drawn g.pg (vG g x.toNat).toNat (vG g y.toNat).toNat rows).2 (vG g x.toNat).toNat (vG g y.toNat).toNat rows).1 := by
      rw [hB3]
      show (A.V.set 15 _).getD 15 0 = _
      have := hAf.ok.V
      rw [getD_set3, if_pos ⟨rfl, by omega⟩]
      unfold drawnA
      rw [hvx, hvy, hpA]
    have t0 : ∀ b : Bool, truthI b ≤ 1 ∧ (truthI b = 0 ↔ b = false) := by decide
    refine ⟨A, B, by rw [hA2, h1], by rw [hB3, h2], hAf, hBf, hpB, by rw [hvA]; exact (t0 _).1, by rw [hvB]; exact (t0 _).1, ?_⟩
    rw [hvA, hvB, (t0 _).2, (t0 _).2, hpA]
    exact drawn_none h.good
end
end Go.Proofs.Ytgioegdjeodpiaa
set_option linter.unusedVariables false
set_option linter.unusedSimpArgs false
namespace Go.Proofs.Ytgioegdjeodpiaa
open Go.RowKit Go.SX
open Go.SX renaming ia_someH → Φa

theorem beq_same {P Q R : Prop} [Decidable P] [Decidable Q] [Decidable R] (h : P ↔ Q ∧ R) : (decide P == (decide Q && decide R)) = true := by
  by_cases hp : P
  · obtain ⟨hq, hr⟩ := h.1 hp
    simp [hp, hq, hr]
  · by_cases hq : Q
    · by_cases hr : R
      · exact absurd (h.2 ⟨hq, hr⟩) hp
      · simp [hp, hq, hr]
    · simp [hp, hq]
theorem tdiv_in {a n : Int} (ha : -9223372036854775808 ≤ a ∧ a ≤ 9223372036854775807) (hn : 0 < n) : -9223372036854775808 ≤ a.tdiv n ∧ a.tdiv n ≤ 9223372036854775807 := by
  have h := Int.natAbs_tdiv_le_natAbs a n
  by_cases h0 : 0 ≤ a
  · have := Int.tdiv_nonneg h0 (Int.le_of_lt hn)
    omega
  · have := Int.tdiv_nonneg (show 0 ≤ -a by omega) (Int.le_of_lt hn)
    rw [Int.neg_tdiv] at this
    omega
set_option maxHeartbeats 8000000 in
set_option maxRecDepth 100000 in
theorem GameTwice_spec {Γ : Ctx} (hP : Γ.P = Try.prog) {L : Hp} {g : GM} {sv pv mv : Value} {a : Int} (ha : -9223372036854775808 ≤ a ∧ a ≤ 9223372036854775807) {f : Fnt} {fv : Value} (hg : OkG g) (hF : OkF f) (hs : SlI .u16 (Cell Γ []) sv g.st) (hp : SlI .u8 (Cell Γ []) pv g.pg) (hm : SlI .u8 (Cell Γ []) mv g.mm) (hf : SlI .u8 (Cell Γ []) fv f.bs) :
    SCall Γ 7 #[(.agg (g.cells sv pv mv).toArray), (.agg (f.cells fv).toArray), (.int .i64 a)] L (fun v L' => v = .bool true ∧ L' = L) := by
  obtain ⟨As, cs, rfl, hcs⟩ := slShape hs
  obtain ⟨Ap, cp, rfl, hcp⟩ := slShape hp
  obtain ⟨Am, cm, rfl, hcm⟩ := slShape hm
  obtain ⟨Af, cf, rfl, hcf⟩ := slShape hf
  refine SCall.enter (n := 145) (res1 6) (hP ▸ Try.func7) rfl rfl (by simp) (res1_ok rfl) ?_
  refine SX.seq_k fun K1 hK1 => ?_
  refine SX.region_d [some 3, some 4, some 6] rfl (fun ops hops => ?_)
  unfold Dsts at hops
  simp (maxSteps:=1000000)(dsimp:=false)(disch:=omega) only [go_sem, Φa, hP, hops]
  intro b0
  try with_reducible refine stI ?_
  try simp (maxSteps:=1000000)(dsimp:=false)(disch:=omega) only [go_sem, Φa, hP, hops]
  intro b1
  try with_reducible refine stI ?_
  try simp (maxSteps:=1000000)(dsimp:=false)(disch:=omega) only [go_sem, Φa, hP, hops]
  refine hK1 _ _ ?_
  try clear hK1 K1
  refine SX.seq_k fun K2 hK2 => ?_
  refine SX.region_d [some 19, some 7] rfl (fun ops hops => ?_)
  unfold Dsts at hops
  simp (maxSteps:=1000000)(dsimp:=false)(disch:=omega) only [go_sem, Φa, hP, hops]
  first | (refine SCall.mono (awake_spec hP) ?_; rintro v_ L_ ⟨hv_, hL_⟩; rw [hv_, hL_]; clear hv_ hL_ v_ L_) | refine ⟨_, awake_spec hP, ?_⟩ | refine ⟨_, fun L0 hl0 => awake_spec hP, ?_⟩
  try with_reducible refine stI ?_
  try simp (maxSteps:=1000000)(dsimp:=false)(disch:=omega) only [go_sem, Φa, hP, hops]
  refine hK2 _ _ ?_
  try clear hK2 K2
  refine SX.seq_k fun K3 hK3 => ?_
  refine SX.seq_k fun K4 hK4 => ?_
  refine SX.region_d [some 20, some 21, some 22] rfl (fun ops hops => ?_)
  unfold Dsts at hops
  simp (maxSteps:=1000000)(dsimp:=false)(disch:=omega) only [go_sem, Φa, hP, hops]
  refine ⟨_, Cell.at 1 rfl rfl, ?_⟩
  try with_reducible refine stI ?_
  try simp (maxSteps:=1000000)(dsimp:=false)(disch:=omega) only [go_sem, Φa, hP, hops]
  refine ⟨_, Cell.at 1 rfl rfl, ?_⟩
  try with_reducible refine stI ?_
  try simp (maxSteps:=1000000)(dsimp:=false)(disch:=omega) only [go_sem, Φa, hP, hops]
  refine ⟨_, Cell.at 1 rfl rfl, ?_⟩
  try with_reducible refine stI ?_
  try simp (maxSteps:=1000000)(dsimp:=false)(disch:=omega) only [go_sem, Φa, hP, hops]
  refine ⟨_, Cell.at 1 rfl rfl, ?_⟩
  try with_reducible refine stI ?_
  try simp (maxSteps:=1000000)(dsimp:=false)(disch:=omega) only [go_sem, Φa, hP, hops]
  refine ⟨_, Cell.at 1 rfl rfl, ?_⟩
  try with_reducible refine stI ?_
  try simp (maxSteps:=1000000)(dsimp:=false)(disch:=omega) only [go_sem, Φa, hP, hops]
  refine ⟨_, Cell.at 1 rfl rfl, ?_⟩
  try with_reducible refine stI ?_
  try simp (maxSteps:=1000000)(dsimp:=false)(disch:=omega) only [go_sem, Φa, hP, hops]
  refine ⟨_, Cell.at 1 rfl rfl, ?_⟩
  try with_reducible refine stI ?_
  try simp (maxSteps:=1000000)(dsimp:=false)(disch:=omega) only [go_sem, Φa, hP, hops]
  refine ⟨_, Cell.at 1 rfl rfl, ?_⟩
  try with_reducible refine stI ?_
  try simp (maxSteps:=1000000)(dsimp:=false)(disch:=omega) only [go_sem, Φa, hP, hops]
  refine ⟨_, Cell.at 1 rfl rfl, ?_⟩
  try with_reducible refine stI ?_
  try simp (maxSteps:=1000000)(dsimp:=false)(disch:=omega) only [go_sem, Φa, hP, hops]
  refine ⟨_, Cell.at 1 rfl rfl, ?_⟩
  try with_reducible refine stI ?_
  try simp (maxSteps:=1000000)(dsimp:=false)(disch:=omega) only [go_sem, Φa, hP, hops]
  refine ⟨_, Cell.at 1 rfl rfl, ?_⟩
  try with_reducible refine stI ?_
  try simp (maxSteps:=1000000)(dsimp:=false)(disch:=omega) only [go_sem, Φa, hP, hops]
  refine ⟨_, Cell.at 1 rfl rfl, ?_⟩
  try with_reducible refine stI ?_
  try simp (maxSteps:=1000000)(dsimp:=false)(disch:=omega) only [go_sem, Φa, hP, hops]
  refine ⟨_, Cell.at 1 rfl rfl, ?_⟩
  try with_reducible refine stI ?_
  try simp (maxSteps:=1000000)(dsimp:=false)(disch:=omega) only [go_sem, Φa, hP, hops]
  refine ⟨_, Cell.at 1 rfl rfl, ?_⟩
  try with_reducible refine stI ?_
  try simp (maxSteps:=1000000)(dsimp:=false)(disch:=omega) only [go_sem, Φa, hP, hops]
  refine ⟨_, Cell.at 1 rfl rfl, ?_⟩
  try with_reducible refine stI ?_
  try simp (maxSteps:=1000000)(dsimp:=false)(disch:=omega) only [go_sem, Φa, hP, hops]
  refine ⟨_, Cell.at 1 rfl rfl, ?_⟩
  try with_reducible refine stI ?_
  try simp (maxSteps:=1000000)(dsimp:=false)(disch:=omega) only [go_sem, Φa, hP, hops]
  refine ⟨_, Cell.at 1 rfl rfl, ?_⟩
  try with_reducible refine stI ?_
  try simp (maxSteps:=1000000)(dsimp:=false)(disch:=omega) only [go_sem, Φa, hP, hops]
  refine ⟨_, Cell.at 1 rfl rfl, ?_⟩
  try with_reducible refine stI ?_
  try simp (maxSteps:=1000000)(dsimp:=false)(disch:=omega) only [go_sem, Φa, hP, hops]
  refine ⟨_, Cell.at 1 rfl rfl, ?_⟩
  try with_reducible refine stI ?_
  try simp (maxSteps:=1000000)(dsimp:=false)(disch:=omega) only [go_sem, Φa, hP, hops]
  refine ⟨_, Cell.at 1 rfl rfl, ?_⟩
  try with_reducible refine stI ?_
  try simp (maxSteps:=1000000)(dsimp:=false)(disch:=omega) only [go_sem, Φa, hP, hops]
  refine ⟨_, Cell.at 1 rfl rfl, ?_⟩
  try with_reducible refine stI ?_
  try simp (maxSteps:=1000000)(dsimp:=false)(disch:=omega) only [go_sem, Φa, hP, hops]
  refine ⟨_, Cell.at 1 rfl rfl, ?_⟩
  try with_reducible refine stI ?_
  try simp (maxSteps:=1000000)(dsimp:=false)(disch:=omega) only [go_sem, Φa, hP, hops]
  refine ⟨_, Cell.at 1 rfl rfl, ?_⟩
  try with_reducible refine stI ?_
  try simp (maxSteps:=1000000)(dsimp:=false)(disch:=omega) only [go_sem, Φa, hP, hops]
  refine ⟨_, Cell.at 0 rfl rfl, ?_⟩
  try with_reducible refine stI ?_
  try simp (maxSteps:=1000000)(dsimp:=false)(disch:=omega) only [go_sem, Φa, hP, hops]
  refine ⟨_, Cell.at 0 rfl rfl, ?_⟩
  try with_reducible refine stI ?_
  try simp (maxSteps:=1000000)(dsimp:=false)(disch:=omega) only [go_sem, Φa, hP, hops]
  refine ⟨_, Cell.at 0 rfl rfl, ?_⟩
  try with_reducible refine stI ?_
  try simp (maxSteps:=1000000)(dsimp:=false)(disch:=omega) only [go_sem, Φa, hP, hops]
  refine ⟨_, Cell.at 0 rfl rfl, ?_⟩
  try with_reducible refine stI ?_
  try simp (maxSteps:=1000000)(dsimp:=false)(disch:=omega) only [go_sem, Φa, hP, hops]
  refine ⟨_, Cell.at 0 rfl rfl, ?_⟩
  try with_reducible refine stI ?_
  try simp (maxSteps:=1000000)(dsimp:=false)(disch:=omega) only [go_sem, Φa, hP, hops]
  refine ⟨_, Cell.at 0 rfl rfl, ?_⟩
  try with_reducible refine stI ?_
  try simp (maxSteps:=1000000)(dsimp:=false)(disch:=omega) only [go_sem, Φa, hP, hops]
  refine ⟨_, Cell.at 0 rfl rfl, ?_⟩
  try with_reducible refine stI ?_
  try simp (maxSteps:=1000000)(dsimp:=false)(disch:=omega) only [go_sem, Φa, hP, hops]
  refine ⟨_, Cell.at 0 rfl rfl, ?_⟩
  try with_reducible refine stI ?_
  try simp (maxSteps:=1000000)(dsimp:=false)(disch:=omega) only [go_sem, Φa, hP, hops]
  refine ⟨_, Cell.at 0 rfl rfl, ?_⟩
  try with_reducible refine stI ?_
  try simp (maxSteps:=1000000)(dsimp:=false)(disch:=omega) only [go_sem, Φa, hP, hops]
  refine ⟨_, Cell.at 0 rfl rfl, ?_⟩
  try with_reducible refine stI ?_
  try simp (maxSteps:=1000000)(dsimp:=false)(disch:=omega) only [go_sem, Φa, hP, hops]
  refine ⟨_, Cell.at 0 rfl rfl, ?_⟩
  try with_reducible refine stI ?_
  try simp (maxSteps:=1000000)(dsimp:=false)(disch:=omega) only [go_sem, Φa, hP, hops]
  refine ⟨_, Cell.at 0 rfl rfl, ?_⟩
  try with_reducible refine stI ?_
  try simp (maxSteps:=1000000)(dsimp:=false)(disch:=omega) only [go_sem, Φa, hP, hops]
  refine ⟨_, Cell.at 0 rfl rfl, ?_⟩
  try with_reducible refine stI ?_
  try simp (maxSteps:=1000000)(dsimp:=false)(disch:=omega) only [go_sem, Φa, hP, hops]
  refine ⟨_, Cell.at 0 rfl rfl, ?_⟩
  try with_reducible refine stI ?_
  try simp (maxSteps:=1000000)(dsimp:=false)(disch:=omega) only [go_sem, Φa, hP, hops]
  refine ⟨_, Cell.at 0 rfl rfl, ?_⟩
  try with_reducible refine stI ?_
  try simp (maxSteps:=1000000)(dsimp:=false)(disch:=omega) only [go_sem, Φa, hP, hops]
  refine ⟨_, Cell.at 0 rfl rfl, ?_⟩
  try with_reducible refine stI ?_
  try simp (maxSteps:=1000000)(dsimp:=false)(disch:=omega) only [go_sem, Φa, hP, hops]
  refine ⟨_, Cell.at 0 rfl rfl, ?_⟩
  try with_reducible refine stI ?_
  try simp (maxSteps:=1000000)(dsimp:=false)(disch:=omega) only [go_sem, Φa, hP, hops]
  refine ⟨_, Cell.at 0 rfl rfl, ?_⟩
  try with_reducible refine stI ?_
  try simp (maxSteps:=1000000)(dsimp:=false)(disch:=omega) only [go_sem, Φa, hP, hops]
  first | (refine SCall.mono (vast_spec (g := g) (f := f) hP (SlI.any hs) (SlI.any hp) (SlI.any hm) (SlI.any hf)) ?_; rintro v_ L_ ⟨hv_, hL_⟩; rw [hv_, hL_]; clear hv_ hL_ v_ L_) | refine ⟨_, vast_spec (g := g) (f := f) hP (SlI.any hs) (SlI.any hp) (SlI.any hm) (SlI.any hf), ?_⟩ | refine ⟨_, fun L0 hl0 => vast_spec (g := g) (f := f) hP (SlI.any hs) (SlI.any hp) (SlI.any hm) (SlI.any hf), ?_⟩
  try with_reducible refine stI ?_
  try simp (maxSteps:=1000000)(dsimp:=false)(disch:=omega) only [go_sem, Φa, hP, hops]
  refine hK4 _ _ ?_
  try clear hK4 K4
  refine SX.cond_k fun X5 Y5 hX5 hY5 => ?_
  simp (maxSteps:=1000000)(dsimp:=false)(disch:=omega) only [go_sem, Φa, hP, condVC]
  refine ⟨fun hc22 => hX5 ?_, fun hc22 => hY5 ?_⟩
  · clear hX5 hY5 X5 Y5
    refine SX.seq_k fun K6 hK6 => ?_
    refine SX.region_d [some 6] rfl (fun ops hops => ?_)
    unfold Dsts at hops
    simp (maxSteps:=1000000)(dsimp:=false)(disch:=omega) only [go_sem, Φa, hP, hops]
    refine hK6 _ _ ?_
    try clear hK6 K6
    refine SX.ret ?_
    simp only [andThen_normal, andThen_ret, andThen_exit, inBlk_normal, inBlk_ret, inBlk_exit, Nat.reduceEqDiff, if_true, if_false, ↓reduceIte, retQ_ret]
    try simp only [res0, res1, res2, res3, stK_e, go_sem, Φa, hP]
    exact ⟨_, _, Less.tail [_, _] _, rfl, rfl, rfl⟩
  · clear hX5 hY5 X5 Y5
    refine SX.skip ?_
    try simp only [andThen_normal, andThen_ret, andThen_exit, inBlk_normal, inBlk_ret, inBlk_exit, Nat.reduceEqDiff, if_true, if_false, ↓reduceIte]
    refine hK3 _ _ ?_
    try clear hK3 K3
    refine SX.seq_k fun K7 hK7 => ?_
    obtain ⟨hs1, hs2, hs3, hs4⟩ := vast_no (by simpa using hc22)
    refine SX.region_d [some 23, some 24, some 8] rfl (fun ops hops => ?_)
    unfold Dsts at hops
    simp (maxSteps:=1000000)(dsimp:=false)(disch:=omega) only [go_sem, Φa, hP, hops]
    refine ⟨_, Cell.at 1 rfl rfl, ?_⟩
    try with_reducible refine stI ?_
    try simp (maxSteps:=1000000)(dsimp:=false)(disch:=omega) only [go_sem, Φa, hP, hops]
    refine ⟨_, Cell.at 1 rfl rfl, ?_⟩
    try with_reducible refine stI ?_
    try simp (maxSteps:=1000000)(dsimp:=false)(disch:=omega) only [go_sem, Φa, hP, hops]
    refine ⟨_, Cell.at 1 rfl rfl, ?_⟩
    try with_reducible refine stI ?_
    try simp (maxSteps:=1000000)(dsimp:=false)(disch:=omega) only [go_sem, Φa, hP, hops]
    refine ⟨_, Cell.at 1 rfl rfl, ?_⟩
    try with_reducible refine stI ?_
    try simp (maxSteps:=1000000)(dsimp:=false)(disch:=omega) only [go_sem, Φa, hP, hops]
    refine ⟨_, Cell.at 1 rfl rfl, ?_⟩
    try with_reducible refine stI ?_
    try simp (maxSteps:=1000000)(dsimp:=false)(disch:=omega) only [go_sem, Φa, hP, hops]
    refine ⟨_, Cell.at 1 rfl rfl, ?_⟩
    try with_reducible refine stI ?_
    try simp (maxSteps:=1000000)(dsimp:=false)(disch:=omega) only [go_sem, Φa, hP, hops]
    refine ⟨_, Cell.at 1 rfl rfl, ?_⟩
    try with_reducible refine stI ?_
    try simp (maxSteps:=1000000)(dsimp:=false)(disch:=omega) only [go_sem, Φa, hP, hops]
    refine ⟨_, Cell.at 1 rfl rfl, ?_⟩
    try with_reducible refine stI ?_
    try simp (maxSteps:=1000000)(dsimp:=false)(disch:=omega) only [go_sem, Φa, hP, hops]
    refine ⟨_, Cell.at 1 rfl rfl, ?_⟩
    try with_reducible refine stI ?_
    try simp (maxSteps:=1000000)(dsimp:=false)(disch:=omega) only [go_sem, Φa, hP, hops]
    refine ⟨_, Cell.at 1 rfl rfl, ?_⟩
    try with_reducible refine stI ?_
    try simp (maxSteps:=1000000)(dsimp:=false)(disch:=omega) only [go_sem, Φa, hP, hops]
    refine ⟨_, Cell.at 1 rfl rfl, ?_⟩
    try with_reducible refine stI ?_
    try simp (maxSteps:=1000000)(dsimp:=false)(disch:=omega) only [go_sem, Φa, hP, hops]
    refine ⟨_, Cell.at 1 rfl rfl, ?_⟩
    try with_reducible refine stI ?_
    try simp (maxSteps:=1000000)(dsimp:=false)(disch:=omega) only [go_sem, Φa, hP, hops]
    refine ⟨_, Cell.at 1 rfl rfl, ?_⟩
    try with_reducible refine stI ?_
    try simp (maxSteps:=1000000)(dsimp:=false)(disch:=omega) only [go_sem, Φa, hP, hops]
    refine ⟨_, Cell.at 1 rfl rfl, ?_⟩
    try with_reducible refine stI ?_
    try simp (maxSteps:=1000000)(dsimp:=false)(disch:=omega) only [go_sem, Φa, hP, hops]
    refine ⟨_, Cell.at 1 rfl rfl, ?_⟩
    try with_reducible refine stI ?_
    try simp (maxSteps:=1000000)(dsimp:=false)(disch:=omega) only [go_sem, Φa, hP, hops]
    refine ⟨_, Cell.at 1 rfl rfl, ?_⟩
    try with_reducible refine stI ?_
    try simp (maxSteps:=1000000)(dsimp:=false)(disch:=omega) only [go_sem, Φa, hP, hops]
    refine ⟨_, Cell.at 1 rfl rfl, ?_⟩
    try with_reducible refine stI ?_
    try simp (maxSteps:=1000000)(dsimp:=false)(disch:=omega) only [go_sem, Φa, hP, hops]
    refine ⟨_, Cell.at 1 rfl rfl, ?_⟩
    try with_reducible refine stI ?_
    try simp (maxSteps:=1000000)(dsimp:=false)(disch:=omega) only [go_sem, Φa, hP, hops]
    refine ⟨_, Cell.at 1 rfl rfl, ?_⟩
    try with_reducible refine stI ?_
    try simp (maxSteps:=1000000)(dsimp:=false)(disch:=omega) only [go_sem, Φa, hP, hops]
    refine ⟨_, Cell.at 1 rfl rfl, ?_⟩
    try with_reducible refine stI ?_
    try simp (maxSteps:=1000000)(dsimp:=false)(disch:=omega) only [go_sem, Φa, hP, hops]
    refine ⟨_, Cell.at 1 rfl rfl, ?_⟩
    try with_reducible refine stI ?_
    try simp (maxSteps:=1000000)(dsimp:=false)(disch:=omega) only [go_sem, Φa, hP, hops]
    refine ⟨_, Cell.at 1 rfl rfl, ?_⟩
    try with_reducible refine stI ?_
    try simp (maxSteps:=1000000)(dsimp:=false)(disch:=omega) only [go_sem, Φa, hP, hops]
    refine ⟨_, Cell.at 1 rfl rfl, ?_⟩
    try with_reducible refine stI ?_
    try simp (maxSteps:=1000000)(dsimp:=false)(disch:=omega) only [go_sem, Φa, hP, hops]
    first | (refine SCall.mono (refCheck_spec (g := g) hP (SlI.any hs) (SlI.any hp) (SlI.any hm) (by omega) (by omega) (by omega)) ?_; rintro v_ L_ ⟨hv_, hL_⟩; rw [hv_, hL_]; clear hv_ hL_ v_ L_) | refine ⟨_, refCheck_spec (g := g) hP (SlI.any hs) (SlI.any hp) (SlI.any hm) (by omega) (by omega) (by omega), ?_⟩ | refine ⟨_, fun L0 hl0 => refCheck_spec (g := g) hP (SlI.any hs) (SlI.any hp) (SlI.any hm) (by omega) (by omega) (by omega), ?_⟩
    try with_reducible refine stI ?_
    try simp (maxSteps:=1000000)(dsimp:=false)(disch:=omega) only [go_sem, Φa, hP, hops]
    refine hK7 _ _ ?_
    try clear hK7 K7
    refine SX.live [2, 3, 4, 7, 8] (fun T1 hT1 => ?_)
    simp only [forall_mem_cons', forall_mem_nil', go_sem, Φa, hP] at hT1
    obtain ⟨h1_2, h1_3, h1_4, h1_7, h1_8⟩ := hT1
    refine SX.seq_k fun K8 hK8 => ?_
    refine SX.seq_k fun K9 hK9 => ?_
    refine SX.region_d [some 25, some 26] rfl (fun ops hops => ?_)
    unfold Dsts at hops
    simp (maxSteps:=1000000)(dsimp:=false)(disch:=omega) only [go_sem, Φa, hP, h1_2, h1_3, h1_4, h1_7, h1_8, hops]
    repeat' ((first | refine And.intro (by omega) ?_ | fail); try (with_reducible refine stI ?_); try simp (maxSteps:=1000000)(dsimp:=false)(disch:=omega) only [go_sem, Φa, hP, h1_2, h1_3, h1_4, h1_7, h1_8, hops])
    refine hK9 _ _ ?_
    try clear hK9 K9
    refine SX.cond_k fun X10 Y10 hX10 hY10 => ?_
    simp (maxSteps:=1000000)(dsimp:=false)(disch:=omega) only [go_sem, Φa, hP, h1_2, h1_3, h1_4, h1_7, h1_8, condVC]
    refine ⟨fun hc26 => hX10 ?_, fun hc26 => hY10 ?_⟩
    · clear hX10 hY10 X10 Y10
      refine SX.seq_k fun K11 hK11 => ?_
      refine SX.region_d [some 27, some 6] rfl (fun ops hops => ?_)
      unfold Dsts at hops
      simp (maxSteps:=1000000)(dsimp:=false)(disch:=omega) only [go_sem, Φa, hP, h1_2, h1_3, h1_4, h1_7, h1_8, hops]
      refine hK11 _ _ ?_
      try clear hK11 K11
      refine SX.ret ?_
      simp only [andThen_normal, andThen_ret, andThen_exit, inBlk_normal, inBlk_ret, inBlk_exit, Nat.reduceEqDiff, if_true, if_false, ↓reduceIte, retQ_ret]
      try simp only [res0, res1, res2, res3, stK_e, go_sem, Φa, hP, h1_2, h1_3, h1_4, h1_7, h1_8]
      exact ⟨_, _, Less.tail [_, _] _, rfl, rfl, rfl⟩
    · clear hX10 hY10 X10 Y10
      refine SX.skip ?_
      try simp only [andThen_normal, andThen_ret, andThen_exit, inBlk_normal, inBlk_ret, inBlk_exit, Nat.reduceEqDiff, if_true, if_false, ↓reduceIte]
      refine hK8 _ _ ?_
      try clear hK8 K8
      refine SX.seq_k fun K12 hK12 => ?_
      have hc0 : checkE g = 0 := by simpa using hc26
      have hfine := fine_of hg hc0
      have q1 := hfine.st
      have q2 := hfine.pg
      have q3 := hfine.mm
      have hpr := pickI_lt (c := a) (n := 16) (by decide)
      have hpx := pickI_lt (c := a.tdiv 16) (n := 15) (by decide)
      have hpy := pickI_lt (c := a.tdiv 240) (n := 15) (by decide)
      have ht16 := tdiv_in (n := 16) ha (by decide)
      have ht240 := tdiv_in (n := 240) ha (by decide)
      obtain ⟨r, hre⟩ : ∃ r, pickI a 16 = r := ⟨_, rfl⟩
      obtain ⟨x, hxe⟩ : ∃ x, pickI (a.tdiv 16) 15 = x := ⟨_, rfl⟩
      obtain ⟨y, hye⟩ : ∃ y, pickI (a.tdiv 240) 15 = y := ⟨_, rfl⟩
      rw [hre] at hpr
      rw [hxe] at hpx
      rw [hye] at hpy
      have hdig : Dig x y r := ⟨hpx.1, hpx.2, hpy.1, hpy.2, hpr.1, hpr.2⟩
      have hB := twiceB_fine hfine hdig
      refine SX.region_d [some 28, some 29, some 9] rfl (fun ops hops => ?_)
      unfold Dsts at hops
      simp (maxSteps:=1000000)(dsimp:=false)(disch:=omega) only [go_sem, Φa, hP, h1_2, h1_3, h1_4, h1_7, h1_8, hops, hre]
      first | (refine SCall.mono (pick_spec (c := a) (n := 16) hP ha (by decide)) ?_; rintro v_ L_ ⟨hv_, hL_⟩; rw [hv_, hL_]; clear hv_ hL_ v_ L_) | refine ⟨_, pick_spec (c := a) (n := 16) hP ha (by decide), ?_⟩ | refine ⟨_, fun L0 hl0 => pick_spec (c := a) (n := 16) hP ha (by decide), ?_⟩
      try with_reducible refine stI ?_
      try simp (maxSteps:=1000000)(dsimp:=false)(disch:=omega) only [go_sem, Φa, hP, h1_2, h1_3, h1_4, h1_7, h1_8, hops, hre]
      refine hK12 _ _ ?_
      try clear hK12 K12
      refine SX.seq_k fun K13 hK13 => ?_
      refine SX.region_d [some 30, some 31, some 32, some 10] rfl (fun ops hops => ?_)
      unfold Dsts at hops
      simp (maxSteps:=1000000)(dsimp:=false)(disch:=omega) only [go_sem, Φa, hP, h1_2, h1_3, h1_4, h1_7, h1_8, hops, hxe]
      first | (refine SCall.mono (pick_spec (c := a.tdiv 16) (n := 15) hP ht16 (by decide)) ?_; rintro v_ L_ ⟨hv_, hL_⟩; rw [hv_, hL_]; clear hv_ hL_ v_ L_) | refine ⟨_, pick_spec (c := a.tdiv 16) (n := 15) hP ht16 (by decide), ?_⟩ | refine ⟨_, fun L0 hl0 => pick_spec (c := a.tdiv 16) (n := 15) hP ht16 (by decide), ?_⟩
      try with_reducible refine stI ?_
      try simp (maxSteps:=1000000)(dsimp:=false)(disch:=omega) only [go_sem, Φa, hP, h1_2, h1_3, h1_4, h1_7, h1_8, hops, hxe]
      refine hK13 _ _ ?_
      try clear hK13 K13
      refine SX.live [2, 3, 4, 7, 9, 10] (fun T2 hT2 => ?_)
      simp only [forall_mem_cons', forall_mem_nil', go_sem, Φa, hP, h1_2, h1_3, h1_4, h1_7, h1_8] at hT2
      obtain ⟨h2_2, h2_3, h2_4, h2_7, h2_9, h2_10⟩ := hT2
      clear h1_2 h1_3 h1_4 h1_7 h1_8 T1
      refine SX.seq_k fun K14 hK14 => ?_
      refine SX.region_d [some 33, some 34, some 35, some 11] rfl (fun ops hops => ?_)
      unfold Dsts at hops
      simp (maxSteps:=1000000)(dsimp:=false)(disch:=omega) only [go_sem, Φa, hP, h2_2, h2_3, h2_4, h2_7, h2_9, h2_10, hops, hye]
      first | (refine SCall.mono (pick_spec (c := a.tdiv 240) (n := 15) hP ht240 (by decide)) ?_; rintro v_ L_ ⟨hv_, hL_⟩; rw [hv_, hL_]; clear hv_ hL_ v_ L_) | refine ⟨_, pick_spec (c := a.tdiv 240) (n := 15) hP ht240 (by decide), ?_⟩ | refine ⟨_, fun L0 hl0 => pick_spec (c := a.tdiv 240) (n := 15) hP ht240 (by decide), ?_⟩
      try with_reducible refine stI ?_
      try simp (maxSteps:=1000000)(dsimp:=false)(disch:=omega) only [go_sem, Φa, hP, h2_2, h2_3, h2_4, h2_7, h2_9, h2_10, hops, hye]
      refine hK14 _ _ ?_
      try clear hK14 K14
      refine SX.seq_k fun K15 hK15 => ?_
      refine SX.region_d [some 36, some 37, none] rfl (fun ops hops => ?_)
      unfold Dsts at hops
      simp (maxSteps:=1000000)(dsimp:=false)(disch:=omega) only [go_sem, Φa, hP, h2_2, h2_3, h2_4, h2_7, h2_9, h2_10, hops]
      refine ⟨_, Cell.at 1 rfl rfl, ?_⟩
      try with_reducible refine stI ?_
      try simp (maxSteps:=1000000)(dsimp:=false)(disch:=omega) only [go_sem, Φa, hP, h2_2, h2_3, h2_4, h2_7, h2_9, h2_10, hops]
      refine ⟨_, Cell.at 1 rfl rfl, ?_⟩
      try with_reducible refine stI ?_
      try simp (maxSteps:=1000000)(dsimp:=false)(disch:=omega) only [go_sem, Φa, hP, h2_2, h2_3, h2_4, h2_7, h2_9, h2_10, hops]
      refine ⟨_, Cell.at 1 rfl rfl, ?_⟩
      try with_reducible refine stI ?_
      try simp (maxSteps:=1000000)(dsimp:=false)(disch:=omega) only [go_sem, Φa, hP, h2_2, h2_3, h2_4, h2_7, h2_9, h2_10, hops]
      refine ⟨_, Cell.at 1 rfl rfl, ?_⟩
      try with_reducible refine stI ?_
      try simp (maxSteps:=1000000)(dsimp:=false)(disch:=omega) only [go_sem, Φa, hP, h2_2, h2_3, h2_4, h2_7, h2_9, h2_10, hops]
      refine ⟨_, Cell.at 1 rfl rfl, ?_⟩
      try with_reducible refine stI ?_
      try simp (maxSteps:=1000000)(dsimp:=false)(disch:=omega) only [go_sem, Φa, hP, h2_2, h2_3, h2_4, h2_7, h2_9, h2_10, hops]
      refine ⟨_, Cell.at 1 rfl rfl, ?_⟩
      try with_reducible refine stI ?_
      try simp (maxSteps:=1000000)(dsimp:=false)(disch:=omega) only [go_sem, Φa, hP, h2_2, h2_3, h2_4, h2_7, h2_9, h2_10, hops]
      refine ⟨_, Cell.at 1 rfl rfl, ?_⟩
      try with_reducible refine stI ?_
      try simp (maxSteps:=1000000)(dsimp:=false)(disch:=omega) only [go_sem, Φa, hP, h2_2, h2_3, h2_4, h2_7, h2_9, h2_10, hops]
      refine ⟨_, Cell.at 1 rfl rfl, ?_⟩
      try with_reducible refine stI ?_
      try simp (maxSteps:=1000000)(dsimp:=false)(disch:=omega) only [go_sem, Φa, hP, h2_2, h2_3, h2_4, h2_7, h2_9, h2_10, hops]
      refine ⟨_, Cell.at 1 rfl rfl, ?_⟩
      try with_reducible refine stI ?_
      try simp (maxSteps:=1000000)(dsimp:=false)(disch:=omega) only [go_sem, Φa, hP, h2_2, h2_3, h2_4, h2_7, h2_9, h2_10, hops]
      refine ⟨_, Cell.at 1 rfl rfl, ?_⟩
      try with_reducible refine stI ?_
      try simp (maxSteps:=1000000)(dsimp:=false)(disch:=omega) only [go_sem, Φa, hP, h2_2, h2_3, h2_4, h2_7, h2_9, h2_10, hops]
      refine ⟨_, Cell.at 1 rfl rfl, ?_⟩
      try with_reducible refine stI ?_
      try simp (maxSteps:=1000000)(dsimp:=false)(disch:=omega) only [go_sem, Φa, hP, h2_2, h2_3, h2_4, h2_7, h2_9, h2_10, hops]
      refine ⟨_, Cell.at 1 rfl rfl, ?_⟩
      try with_reducible refine stI ?_
      try simp (maxSteps:=1000000)(dsimp:=false)(disch:=omega) only [go_sem, Φa, hP, h2_2, h2_3, h2_4, h2_7, h2_9, h2_10, hops]
      refine ⟨_, Cell.at 1 rfl rfl, ?_⟩
      try with_reducible refine stI ?_
      try simp (maxSteps:=1000000)(dsimp:=false)(disch:=omega) only [go_sem, Φa, hP, h2_2, h2_3, h2_4, h2_7, h2_9, h2_10, hops]
      refine ⟨_, Cell.at 1 rfl rfl, ?_⟩
      try with_reducible refine stI ?_
      try simp (maxSteps:=1000000)(dsimp:=false)(disch:=omega) only [go_sem, Φa, hP, h2_2, h2_3, h2_4, h2_7, h2_9, h2_10, hops]
      refine ⟨_, Cell.at 1 rfl rfl, ?_⟩
      try with_reducible refine stI ?_
      try simp (maxSteps:=1000000)(dsimp:=false)(disch:=omega) only [go_sem, Φa, hP, h2_2, h2_3, h2_4, h2_7, h2_9, h2_10, hops]
      refine ⟨_, Cell.at 1 rfl rfl, ?_⟩
      try with_reducible refine stI ?_
      try simp (maxSteps:=1000000)(dsimp:=false)(disch:=omega) only [go_sem, Φa, hP, h2_2, h2_3, h2_4, h2_7, h2_9, h2_10, hops]
      refine ⟨_, Cell.at 1 rfl rfl, ?_⟩
      try with_reducible refine stI ?_
      try simp (maxSteps:=1000000)(dsimp:=false)(disch:=omega) only [go_sem, Φa, hP, h2_2, h2_3, h2_4, h2_7, h2_9, h2_10, hops]
      refine ⟨_, Cell.at 1 rfl rfl, ?_⟩
      try with_reducible refine stI ?_
      try simp (maxSteps:=1000000)(dsimp:=false)(disch:=omega) only [go_sem, Φa, hP, h2_2, h2_3, h2_4, h2_7, h2_9, h2_10, hops]
      refine ⟨_, Cell.at 1 rfl rfl, ?_⟩
      try with_reducible refine stI ?_
      try simp (maxSteps:=1000000)(dsimp:=false)(disch:=omega) only [go_sem, Φa, hP, h2_2, h2_3, h2_4, h2_7, h2_9, h2_10, hops]
      refine ⟨_, Cell.at 1 rfl rfl, ?_⟩
      try with_reducible refine stI ?_
      try simp (maxSteps:=1000000)(dsimp:=false)(disch:=omega) only [go_sem, Φa, hP, h2_2, h2_3, h2_4, h2_7, h2_9, h2_10, hops]
      refine ⟨_, Cell.at 1 rfl rfl, ?_⟩
      try with_reducible refine stI ?_
      try simp (maxSteps:=1000000)(dsimp:=false)(disch:=omega) only [go_sem, Φa, hP, h2_2, h2_3, h2_4, h2_7, h2_9, h2_10, hops]
      refine ⟨_, Cell.at 1 rfl rfl, ?_⟩
      try with_reducible refine stI ?_
      try simp (maxSteps:=1000000)(dsimp:=false)(disch:=omega) only [go_sem, Φa, hP, h2_2, h2_3, h2_4, h2_7, h2_9, h2_10, hops]
      refine ⟨_, Cell.at 1 rfl rfl, ?_⟩
      try with_reducible refine stI ?_
      try simp (maxSteps:=1000000)(dsimp:=false)(disch:=omega) only [go_sem, Φa, hP, h2_2, h2_3, h2_4, h2_7, h2_9, h2_10, hops]
      refine SCall.mono (Copied_spec (g := g) hP (SlI.any hs) (SlI.any hp) (SlI.any hm) (by omega) (by omega) (by omega)) ?_
      rintro v_ L_ ⟨sv0, pv0, mv0, c1, c2, c3, rfl, rfl, hr⟩
      obtain ⟨A0st, c0st, rfl, hc0st⟩ := rowShape hr.st
      obtain ⟨A0pg, c0pg, rfl, hc0pg⟩ := rowShape hr.pg
      obtain ⟨r3, cap3, jk, rfl, rfl, hcap3, hjk⟩ := RowI.form2 hr.mm (by omega)
      unfold GM.cells
      try with_reducible refine stI ?_
      try simp (maxSteps:=1000000)(dsimp:=false)(disch:=omega) only [go_sem, Φa, hP, h2_2, h2_3, h2_4, h2_7, h2_9, h2_10, hops]
      refine ⟨4, _, _, _, rfl, (by simp), .inr (by decide), ?_⟩
      try with_reducible refine stI ?_
      try simp (maxSteps:=1000000)(dsimp:=false)(disch:=omega) only [go_sem, Φa, hP, h2_2, h2_3, h2_4, h2_7, h2_9, h2_10, hops]
      refine hK15 _ _ ?_
      try clear hK15 K15
      refine SX.seq_k fun K16 hK16 => ?_
      refine SX.region_d [some 38, none] rfl (fun ops hops => ?_)
      unfold Dsts at hops
      simp (maxSteps:=1000000)(dsimp:=false)(disch:=omega) only [go_sem, Φa, hP, h2_2, h2_3, h2_4, h2_7, h2_9, h2_10, hops]
      refine ⟨4, _, _, _, rfl, (by simp), .inr (by decide), ?_⟩
      try with_reducible refine stI ?_
      try simp (maxSteps:=1000000)(dsimp:=false)(disch:=omega) only [go_sem, Φa, hP, h2_2, h2_3, h2_4, h2_7, h2_9, h2_10, hops]
      refine hK16 _ _ ?_
      try clear hK16 K16
      refine SX.seq_k fun K17 hK17 => ?_
      refine SX.region_d [some 39, some 40, some 41, some 42, some 43, some 44, none] rfl (fun ops hops => ?_)
      unfold Dsts at hops
      simp (maxSteps:=1000000)(dsimp:=false)(disch:=omega) only [go_sem, Φa, hP, h2_2, h2_3, h2_4, h2_7, h2_9, h2_10, hops]
      refine ⟨_, Cell.at 4 rfl rfl, ?_⟩
      try with_reducible refine stI ?_
      try simp (maxSteps:=1000000)(dsimp:=false)(disch:=omega) only [go_sem, Φa, hP, h2_2, h2_3, h2_4, h2_7, h2_9, h2_10, hops]
      refine ⟨2, _, _, _, rfl, (by simp [ints_length]; omega), .inr (Nat.zero_le _), ?_⟩
      try with_reducible refine stI ?_
      try simp (maxSteps:=1000000)(dsimp:=false)(disch:=omega) only [go_sem, Φa, hP, h2_2, h2_3, h2_4, h2_7, h2_9, h2_10, hops]
      rw [ints_app_set (by omega)]
      refine hK17 _ _ ?_
      try clear hK17 K17
      refine SX.live [3, 4, 7, 9, 11] (fun T3 hT3 => ?_)
      simp only [forall_mem_cons', forall_mem_nil', go_sem, Φa, hP, h2_2, h2_3, h2_4, h2_7, h2_9, h2_10] at hT3
      obtain ⟨h3_3, h3_4, h3_7, h3_9, h3_11⟩ := hT3
      clear h2_2 h2_3 h2_4 h2_7 h2_9 h2_10 T2
      refine SX.seq_k fun K18 hK18 => ?_
      refine SX.region_d [some 45, some 46, some 47, some 48, some 49, some 50, some 51, some 52, none] rfl (fun ops hops => ?_)
      unfold Dsts at hops
      simp (maxSteps:=1000000)(dsimp:=false)(disch:=omega) only [go_sem, Φa, hP, h3_3, h3_4, h3_7, h3_9, h3_11, hops]
      refine ⟨_, Cell.at 4 rfl rfl, ?_⟩
      try with_reducible refine stI ?_
      try simp (maxSteps:=1000000)(dsimp:=false)(disch:=omega) only [go_sem, Φa, hP, h3_3, h3_4, h3_7, h3_9, h3_11, hops]
      refine ⟨2, _, _, _, rfl, (by simp [ints_length]; omega), .inr (Nat.zero_le _), ?_⟩
      try with_reducible refine stI ?_
      try simp (maxSteps:=1000000)(dsimp:=false)(disch:=omega) only [go_sem, Φa, hP, h3_3, h3_4, h3_7, h3_9, h3_11, hops]
      rw [ints_app_set (by simp; omega)]
      refine hK18 _ _ ?_
      try clear hK18 K18
      refine SX.seq_k fun K19 hK19 => ?_
      have hl0 : ((g.mm.set 0 (208 + x)).set 1 (16 * y + r)).length = 3232 := by simp [q3]
      have hat0 : (ints .u8 ((g.mm.set 0 (208 + x)).set 1 (16 * y + r)) ++ jk)[0]? = some (.int .u8 (208 + x)) := by
        rw [ints_app_at (by omega), getD_set3, if_neg (by omega), getD_set3, if_pos ⟨rfl, by omega⟩]
      refine SX.drawn_d [(0, .q), (1, .q), (2, .q), (3, .q), (4, .q), (5, .q), (6, .q), (7, .t)] (fun L => L) (hP ▸ T.mixed) (by kernel_rfl) (by exact Less.refl _) [some 53, some 54, some 55, some 56, some 57, some 58, some 59, none] rfl (fun ops hops hopl => ?_)
      unfold Dsts at hops
      simp (maxSteps:=1000000)(dsimp:=false)(disch:=omega) only [go_sem, Φa, hP, h3_3, h3_4, h3_7, h3_9, h3_11, hops, hopl]
      refine ⟨_, Cell.at 4 rfl rfl, ?_⟩
      try with_reducible refine stI ?_
      try simp (maxSteps:=1000000)(dsimp:=false)(disch:=omega) only [go_sem, Φa, hP, h3_3, h3_4, h3_7, h3_9, h3_11, hops, hopl]
      refine ⟨_, Cell.at 4 rfl rfl, ?_⟩
      try with_reducible refine stI ?_
      try simp (maxSteps:=1000000)(dsimp:=false)(disch:=omega) only [go_sem, Φa, hP, h3_3, h3_4, h3_7, h3_9, h3_11, hops, hopl]
      refine ⟨_, Cell.at 2 rfl hat0, ?_⟩
      try with_reducible refine stI ?_
      try simp (maxSteps:=1000000)(dsimp:=false)(disch:=omega) only [go_sem, Φa, hP, h3_3, h3_4, h3_7, h3_9, h3_11, hops, hopl]
      refine ⟨2, _, _, _, rfl, (by simp [ints_length]; omega), .inr (Nat.zero_le _), ?_⟩
      try with_reducible refine stI ?_
      try simp (maxSteps:=1000000)(dsimp:=false)(disch:=omega) only [go_sem, Φa, hP, h3_3, h3_4, h3_7, h3_9, h3_11, hops, hopl]
      rw [ints_app_set (by omega)]
      refine hK19 _ _ ?_
      try clear hK19 K19
      refine SX.live [3, 4, 7] (fun T4 hT4 => ?_)
      simp only [forall_mem_cons', forall_mem_nil', go_sem, Φa, hP, h3_3, h3_4, h3_7, h3_9, h3_11] at hT4
      obtain ⟨h4_3, h4_4, h4_7⟩ := hT4
      clear h3_3 h3_4 h3_7 h3_9 h3_11 T3
      refine SX.live [3, 4, 7] (fun T5 hT5 => ?_)
      simp only [forall_mem_cons', forall_mem_nil', go_sem, Φa, hP, h4_3, h4_4, h4_7] at hT5
      obtain ⟨h5_3, h5_4, h5_7⟩ := hT5
      clear h4_3 h4_4 h4_7 T4
      refine SX.join (fun (ss : Unit) T L' => T 3 = T5 3 ∧ T 4 = T5 4 ∧ T 7 = T5 7 ∧ L' = c1 :: c2 :: some (r3, .cells (ints .u8 (twiceB g x y r).mm ++ jk).toArray 5 (0, 0)) :: some (b1, .cells (f.cells (.slice Af f.bs.length cf)).toArray 40 (0, 0)) :: some (b0, .cells ((twiceB g x y r).cells (.slice A0st g.st.length c0st) (.slice A0pg g.pg.length c0pg) (.slice (some ⟨r3, 0, none⟩) g.mm.length cap3)).toArray 29 (0, 0)) :: L ∧ (True)) (fun K20 hK20 => ?_) ?_
      · simp only [h5_3, h5_4, h5_7] at hK20
        have hl1 : (((g.mm.set 0 (208 + x)).set 1 (16 * y + r)).set 2 (208 + x)).length = 3232 := by simp [q3]
        have hat1 : (ints .u8 (((g.mm.set 0 (208 + x)).set 1 (16 * y + r)).set 2 (208 + x)) ++ jk)[1]? = some (.int .u8 (16 * y + r)) := by
          rw [ints_app_at (by omega), getD_set3, if_neg (by omega), getD_set3, if_pos ⟨rfl, by simp [q3]⟩]
        refine SX.drawn_d [(0, .q), (1, .q), (2, .q), (3, .q), (4, .q), (5, .q), (6, .q), (7, .t)] (fun L => L) (hP ▸ T.mixed) (by kernel_rfl) (by exact Less.refl _) [some 60, some 61, some 62, some 63, some 64, some 65, some 66, none] rfl (fun ops hops hopl => ?_)
        unfold Dsts at hops
        simp (maxSteps:=1000000)(dsimp:=false)(disch:=omega) only [go_sem, Φa, hP, h5_3, h5_4, h5_7, hops, hopl]
        refine ⟨_, Cell.at 4 rfl rfl, ?_⟩
        try with_reducible refine stI ?_
        try simp (maxSteps:=1000000)(dsimp:=false)(disch:=omega) only [go_sem, Φa, hP, h5_3, h5_4, h5_7, hops, hopl]
        refine ⟨_, Cell.at 4 rfl rfl, ?_⟩
        try with_reducible refine stI ?_
        try simp (maxSteps:=1000000)(dsimp:=false)(disch:=omega) only [go_sem, Φa, hP, h5_3, h5_4, h5_7, hops, hopl]
        refine ⟨_, Cell.at 2 rfl hat1, ?_⟩
        try with_reducible refine stI ?_
        try simp (maxSteps:=1000000)(dsimp:=false)(disch:=omega) only [go_sem, Φa, hP, h5_3, h5_4, h5_7, hops, hopl]
        refine ⟨2, _, _, _, rfl, (by simp [ints_length]; omega), .inr (Nat.zero_le _), ?_⟩
        try with_reducible refine stI ?_
        try simp (maxSteps:=1000000)(dsimp:=false)(disch:=omega) only [go_sem, Φa, hP, h5_3, h5_4, h5_7, hops, hopl]
        rw [ints_app_set (by omega)]
        refine hK20 () _ (c1 :: c2 :: some (r3, .cells (ints .u8 (twiceB g x y r).mm ++ jk).toArray 5 (0, 0)) :: some (b1, .cells (f.cells (.slice Af f.bs.length cf)).toArray 40 (0, 0)) :: some (b0, .cells ((twiceB g x y r).cells (.slice A0st g.st.length c0st) (.slice A0pg g.pg.length c0pg) (.slice (some ⟨r3, 0, none⟩) g.mm.length cap3)).toArray 29 (0, 0)) :: L) _ (by first | exact Less.refl _ | exact Less.drop _ _ | exact Less.drops (Less.drop _ _) | exact Less.drops (Less.drops (Less.drop _ _)) | exact Less.drops (Less.drops (Less.drops (Less.drop _ _))) | exact Less.drops (Less.drops (Less.drops (Less.drops (Less.drop _ _))))) ?_
        try dsimp only
        refine ⟨?_, ?_, ?_, ?_, ?_⟩
        · simp (maxSteps:=1000000)(dsimp:=false)(disch:=omega) only [go_sem, Φa, hP, h5_3, h5_4, h5_7]
        · simp (maxSteps:=1000000)(dsimp:=false)(disch:=omega) only [go_sem, Φa, hP, h5_3, h5_4, h5_7]
        · simp (maxSteps:=1000000)(dsimp:=false)(disch:=omega) only [go_sem, Φa, hP, h5_3, h5_4, h5_7]
        · rfl
        · trivial
      · intro ss T6 L6 hI
        simp only [h5_3, h5_4, h5_7] at hI 
        obtain ⟨h6_3, h6_4, h6_7, hL6, hinv⟩ := hI
        replace hL6 := hL6.symm
        subst hL6
        clear h5_3 h5_4 h5_7 T5
        refine SX.seq_k fun K21 hK21 => ?_
        refine SX.region_d [some 67, some 12, none] rfl (fun ops hops => ?_)
        unfold Dsts at hops
        simp (maxSteps:=1000000)(dsimp:=false)(disch:=omega) only [go_sem, Φa, hP, h6_3, h6_4, h6_7, hops]
        intro b12
        try with_reducible refine stI ?_
        try simp (maxSteps:=1000000)(dsimp:=false)(disch:=omega) only [go_sem, Φa, hP, h6_3, h6_4, h6_7, hops]
        refine ⟨0, _, _, _, rfl, by decide, .inr (by decide), ?_⟩
        try with_reducible refine stI ?_
        try simp (maxSteps:=1000000)(dsimp:=false)(disch:=omega) only [go_sem, Φa, hP, h6_3, h6_4, h6_7, hops]
        refine hK21 _ _ ?_
        try clear hK21 K21
        refine SX.seq_k fun K22 hK22 => ?_
        have hBl : g.mm.length = (twiceB g x y r).mm.length := by rw [hB.mm, q3]
        have w1 := hB.st
        have w2 := hB.pg
        have w3 := hB.mm
        refine SX.region_d [some 69, some 70, some 71, some 72, some 68, some 73, some 74, some 75, some 13, none, some 14, some 15] rfl (fun ops hops => ?_)
        unfold Dsts at hops
        simp (maxSteps:=1000000)(dsimp:=false)(disch:=omega) only [go_sem, Φa, hP, h6_3, h6_4, h6_7, hops]
        refine ⟨_, Cell.at 5 rfl rfl, ?_⟩
        try with_reducible refine stI ?_
        try simp (maxSteps:=1000000)(dsimp:=false)(disch:=omega) only [go_sem, Φa, hP, h6_3, h6_4, h6_7, hops]
        refine ⟨_, Cell.at 5 rfl rfl, ?_⟩
        try with_reducible refine stI ?_
        try simp (maxSteps:=1000000)(dsimp:=false)(disch:=omega) only [go_sem, Φa, hP, h6_3, h6_4, h6_7, hops]
        refine ⟨_, Cell.at 5 rfl rfl, ?_⟩
        try with_reducible refine stI ?_
        try simp (maxSteps:=1000000)(dsimp:=false)(disch:=omega) only [go_sem, Φa, hP, h6_3, h6_4, h6_7, hops]
        refine ⟨_, Cell.at 5 rfl rfl, ?_⟩
        try with_reducible refine stI ?_
        try simp (maxSteps:=1000000)(dsimp:=false)(disch:=omega) only [go_sem, Φa, hP, h6_3, h6_4, h6_7, hops]
        refine ⟨_, Cell.at 5 rfl rfl, ?_⟩
        try with_reducible refine stI ?_
        try simp (maxSteps:=1000000)(dsimp:=false)(disch:=omega) only [go_sem, Φa, hP, h6_3, h6_4, h6_7, hops]
        refine ⟨_, Cell.at 5 rfl rfl, ?_⟩
        try with_reducible refine stI ?_
        try simp (maxSteps:=1000000)(dsimp:=false)(disch:=omega) only [go_sem, Φa, hP, h6_3, h6_4, h6_7, hops]
        refine ⟨_, Cell.at 5 rfl rfl, ?_⟩
        try with_reducible refine stI ?_
        try simp (maxSteps:=1000000)(dsimp:=false)(disch:=omega) only [go_sem, Φa, hP, h6_3, h6_4, h6_7, hops]
        refine ⟨_, Cell.at 5 rfl rfl, ?_⟩
        try with_reducible refine stI ?_
        try simp (maxSteps:=1000000)(dsimp:=false)(disch:=omega) only [go_sem, Φa, hP, h6_3, h6_4, h6_7, hops]
        refine ⟨_, Cell.at 5 rfl rfl, ?_⟩
        try with_reducible refine stI ?_
        try simp (maxSteps:=1000000)(dsimp:=false)(disch:=omega) only [go_sem, Φa, hP, h6_3, h6_4, h6_7, hops]
        refine ⟨_, Cell.at 5 rfl rfl, ?_⟩
        try with_reducible refine stI ?_
        try simp (maxSteps:=1000000)(dsimp:=false)(disch:=omega) only [go_sem, Φa, hP, h6_3, h6_4, h6_7, hops]
        refine ⟨_, Cell.at 5 rfl rfl, ?_⟩
        try with_reducible refine stI ?_
        try simp (maxSteps:=1000000)(dsimp:=false)(disch:=omega) only [go_sem, Φa, hP, h6_3, h6_4, h6_7, hops]
        refine ⟨_, Cell.at 5 rfl rfl, ?_⟩
        try with_reducible refine stI ?_
        try simp (maxSteps:=1000000)(dsimp:=false)(disch:=omega) only [go_sem, Φa, hP, h6_3, h6_4, h6_7, hops]
        refine ⟨_, Cell.at 5 rfl rfl, ?_⟩
        try with_reducible refine stI ?_
        try simp (maxSteps:=1000000)(dsimp:=false)(disch:=omega) only [go_sem, Φa, hP, h6_3, h6_4, h6_7, hops]
        refine ⟨_, Cell.at 5 rfl rfl, ?_⟩
        try with_reducible refine stI ?_
        try simp (maxSteps:=1000000)(dsimp:=false)(disch:=omega) only [go_sem, Φa, hP, h6_3, h6_4, h6_7, hops]
        refine ⟨_, Cell.at 5 rfl rfl, ?_⟩
        try with_reducible refine stI ?_
        try simp (maxSteps:=1000000)(dsimp:=false)(disch:=omega) only [go_sem, Φa, hP, h6_3, h6_4, h6_7, hops]
        refine ⟨_, Cell.at 5 rfl rfl, ?_⟩
        try with_reducible refine stI ?_
        try simp (maxSteps:=1000000)(dsimp:=false)(disch:=omega) only [go_sem, Φa, hP, h6_3, h6_4, h6_7, hops]
        refine ⟨_, Cell.at 5 rfl rfl, ?_⟩
        try with_reducible refine stI ?_
        try simp (maxSteps:=1000000)(dsimp:=false)(disch:=omega) only [go_sem, Φa, hP, h6_3, h6_4, h6_7, hops]
        refine ⟨_, Cell.at 5 rfl rfl, ?_⟩
        try with_reducible refine stI ?_
        try simp (maxSteps:=1000000)(dsimp:=false)(disch:=omega) only [go_sem, Φa, hP, h6_3, h6_4, h6_7, hops]
        refine ⟨_, Cell.at 5 rfl rfl, ?_⟩
        try with_reducible refine stI ?_
        try simp (maxSteps:=1000000)(dsimp:=false)(disch:=omega) only [go_sem, Φa, hP, h6_3, h6_4, h6_7, hops]
        refine ⟨_, Cell.at 5 rfl rfl, ?_⟩
        try with_reducible refine stI ?_
        try simp (maxSteps:=1000000)(dsimp:=false)(disch:=omega) only [go_sem, Φa, hP, h6_3, h6_4, h6_7, hops]
        refine ⟨_, Cell.at 5 rfl rfl, ?_⟩
        try with_reducible refine stI ?_
        try simp (maxSteps:=1000000)(dsimp:=false)(disch:=omega) only [go_sem, Φa, hP, h6_3, h6_4, h6_7, hops]
        refine ⟨_, Cell.at 5 rfl rfl, ?_⟩
        try with_reducible refine stI ?_
        try simp (maxSteps:=1000000)(dsimp:=false)(disch:=omega) only [go_sem, Φa, hP, h6_3, h6_4, h6_7, hops]
        refine ⟨_, Cell.at 5 rfl rfl, ?_⟩
        try with_reducible refine stI ?_
        try simp (maxSteps:=1000000)(dsimp:=false)(disch:=omega) only [go_sem, Φa, hP, h6_3, h6_4, h6_7, hops]
        refine ⟨_, Cell.at 4 rfl rfl, ?_⟩
        try with_reducible refine stI ?_
        try simp (maxSteps:=1000000)(dsimp:=false)(disch:=omega) only [go_sem, Φa, hP, h6_3, h6_4, h6_7, hops]
        refine ⟨_, Cell.at 4 rfl rfl, ?_⟩
        try with_reducible refine stI ?_
        try simp (maxSteps:=1000000)(dsimp:=false)(disch:=omega) only [go_sem, Φa, hP, h6_3, h6_4, h6_7, hops]
        refine ⟨_, Cell.at 4 rfl rfl, ?_⟩
        try with_reducible refine stI ?_
        try simp (maxSteps:=1000000)(dsimp:=false)(disch:=omega) only [go_sem, Φa, hP, h6_3, h6_4, h6_7, hops]
        refine ⟨_, Cell.at 4 rfl rfl, ?_⟩
        try with_reducible refine stI ?_
        try simp (maxSteps:=1000000)(dsimp:=false)(disch:=omega) only [go_sem, Φa, hP, h6_3, h6_4, h6_7, hops]
        refine ⟨_, Cell.at 4 rfl rfl, ?_⟩
        try with_reducible refine stI ?_
        try simp (maxSteps:=1000000)(dsimp:=false)(disch:=omega) only [go_sem, Φa, hP, h6_3, h6_4, h6_7, hops]
        refine ⟨_, Cell.at 4 rfl rfl, ?_⟩
        try with_reducible refine stI ?_
        try simp (maxSteps:=1000000)(dsimp:=false)(disch:=omega) only [go_sem, Φa, hP, h6_3, h6_4, h6_7, hops]
        refine ⟨_, Cell.at 4 rfl rfl, ?_⟩
        try with_reducible refine stI ?_
        try simp (maxSteps:=1000000)(dsimp:=false)(disch:=omega) only [go_sem, Φa, hP, h6_3, h6_4, h6_7, hops]
        refine ⟨_, Cell.at 4 rfl rfl, ?_⟩
        try with_reducible refine stI ?_
        try simp (maxSteps:=1000000)(dsimp:=false)(disch:=omega) only [go_sem, Φa, hP, h6_3, h6_4, h6_7, hops]
        refine ⟨_, Cell.at 4 rfl rfl, ?_⟩
        try with_reducible refine stI ?_
        try simp (maxSteps:=1000000)(dsimp:=false)(disch:=omega) only [go_sem, Φa, hP, h6_3, h6_4, h6_7, hops]
        refine ⟨_, Cell.at 4 rfl rfl, ?_⟩
        try with_reducible refine stI ?_
        try simp (maxSteps:=1000000)(dsimp:=false)(disch:=omega) only [go_sem, Φa, hP, h6_3, h6_4, h6_7, hops]
        refine ⟨_, Cell.at 4 rfl rfl, ?_⟩
        try with_reducible refine stI ?_
        try simp (maxSteps:=1000000)(dsimp:=false)(disch:=omega) only [go_sem, Φa, hP, h6_3, h6_4, h6_7, hops]
        refine ⟨_, Cell.at 4 rfl rfl, ?_⟩
        try with_reducible refine stI ?_
        try simp (maxSteps:=1000000)(dsimp:=false)(disch:=omega) only [go_sem, Φa, hP, h6_3, h6_4, h6_7, hops]
        refine ⟨_, Cell.at 4 rfl rfl, ?_⟩
        try with_reducible refine stI ?_
        try simp (maxSteps:=1000000)(dsimp:=false)(disch:=omega) only [go_sem, Φa, hP, h6_3, h6_4, h6_7, hops]
        refine ⟨_, Cell.at 4 rfl rfl, ?_⟩
        try with_reducible refine stI ?_
        try simp (maxSteps:=1000000)(dsimp:=false)(disch:=omega) only [go_sem, Φa, hP, h6_3, h6_4, h6_7, hops]
        refine ⟨_, Cell.at 4 rfl rfl, ?_⟩
        try with_reducible refine stI ?_
        try simp (maxSteps:=1000000)(dsimp:=false)(disch:=omega) only [go_sem, Φa, hP, h6_3, h6_4, h6_7, hops]
        refine ⟨_, Cell.at 4 rfl rfl, ?_⟩
        try with_reducible refine stI ?_
        try simp (maxSteps:=1000000)(dsimp:=false)(disch:=omega) only [go_sem, Φa, hP, h6_3, h6_4, h6_7, hops]
        refine ⟨_, Cell.at 4 rfl rfl, ?_⟩
        try with_reducible refine stI ?_
        try simp (maxSteps:=1000000)(dsimp:=false)(disch:=omega) only [go_sem, Φa, hP, h6_3, h6_4, h6_7, hops]
        refine ⟨_, Cell.at 4 rfl rfl, ?_⟩
        try with_reducible refine stI ?_
        try simp (maxSteps:=1000000)(dsimp:=false)(disch:=omega) only [go_sem, Φa, hP, h6_3, h6_4, h6_7, hops]
        refine ⟨_, Cell.at 0 rfl rfl, ?_⟩
        try with_reducible refine stI ?_
        try simp (maxSteps:=1000000)(dsimp:=false)(disch:=omega) only [go_sem, Φa, hP, h6_3, h6_4, h6_7, hops]
        refine ⟨_, Cell.at 0 rfl rfl, ?_⟩
        try with_reducible refine stI ?_
        try simp (maxSteps:=1000000)(dsimp:=false)(disch:=omega) only [go_sem, Φa, hP, h6_3, h6_4, h6_7, hops]
        refine ⟨_, Cell.at 0 rfl rfl, ?_⟩
        try with_reducible refine stI ?_
        try simp (maxSteps:=1000000)(dsimp:=false)(disch:=omega) only [go_sem, Φa, hP, h6_3, h6_4, h6_7, hops]
        refine SCall.mono (Step_spec (g := (twiceB g x y r)) (f := f) (d := quietD) hP hB.ok hF quietD_ok (RowI.sl hr.st (i := 1) rfl) (RowI.sl hr.pg (i := 2) rfl) (SlI.row (xs := (twiceB g x y r).mm) (junk := jk) 3 rfl hBl (by omega)) (SlI.any hf) (by omega) (by omega) (by omega) (by omega)) ?_
        rintro v_ L_ ⟨sv1, pv1, mv1, n1, n2, n3, rfl, rfl, hr1⟩
        obtain ⟨A1st, c1st, rfl, hc1st⟩ := rowShape hr1.st
        obtain ⟨A1pg, c1pg, rfl, hc1pg⟩ := rowShape hr1.pg
        obtain ⟨A1mm, c1mm, rfl, hc1mm⟩ := rowShape hr1.mm
        unfold GM.cells
        try with_reducible refine stI ?_
        try simp (maxSteps:=1000000)(dsimp:=false)(disch:=omega) only [go_sem, Φa, hP, h6_3, h6_4, h6_7, hops]
        intro b13
        try with_reducible refine stI ?_
        try simp (maxSteps:=1000000)(dsimp:=false)(disch:=omega) only [go_sem, Φa, hP, h6_3, h6_4, h6_7, hops]
        refine ⟨0, _, _, _, rfl, by decide, .inr (by decide), ?_⟩
        try with_reducible refine stI ?_
        try simp (maxSteps:=1000000)(dsimp:=false)(disch:=omega) only [go_sem, Φa, hP, h6_3, h6_4, h6_7, hops]
        refine hK22 _ _ ?_
        try clear hK22 K22
        refine SX.live [3, 4, 7, 12, 13, 14, 15] (fun T7 hT7 => ?_)
        simp only [forall_mem_cons', forall_mem_nil', go_sem, Φa, hP, h6_3, h6_4, h6_7] at hT7
        obtain ⟨h7_3, h7_4, h7_7, h7_12, h7_13, h7_14, h7_15⟩ := hT7
        clear h6_3 h6_4 h6_7 T6
        refine SX.seq_k fun K23 hK23 => ?_
        refine SX.seq_k fun K24 hK24 => ?_
        refine SX.region_xd [some 76, some 77, some 78, some 79, some 80, some 81] rfl (fun ops hops => ?_)
        unfold Dsts at hops
        refine RX.live [3, 4, 7, 12, 13, 14, 15] (fun T8 hT8 => ?_)
        simp only [forall_mem_cons', forall_mem_nil', go_sem, Φa, hP, h7_3, h7_4, h7_7, h7_12, h7_13, h7_14, h7_15] at hT8
        obtain ⟨h8_3, h8_4, h8_7, h8_12, h8_13, h8_14, h8_15⟩ := hT8
        clear h7_3 h7_4 h7_7 h7_12 h7_13 h7_14 h7_15 T7
        refine RX.join 6 (fun (ss : Unit) T L' => T 81 = .bool ((!decide ((stepG (twiceB g x y r) f quietD).2.2 = 0)) || !decide ((stepG (twiceB g x y r) f quietD).2.1 = 1)) ∧ T 3 = T8 3 ∧ T 4 = T8 4 ∧ T 7 = T8 7 ∧ T 12 = T8 12 ∧ T 13 = T8 13 ∧ T 14 = T8 14 ∧ T 15 = T8 15 ∧ L' = some (b13, .cells ((stepG (twiceB g x y r) f quietD).1.cells (.slice A1st (stepG (twiceB g x y r) f quietD).1.st.length c1st) (.slice A1pg (stepG (twiceB g x y r) f quietD).1.pg.length c1pg) (.slice A1mm (stepG (twiceB g x y r) f quietD).1.mm.length c1mm)).toArray 29 (0, 0)) :: n1 :: n2 :: n3 :: some (b12, .cells quietD.cells.toArray 50 (0, 0)) :: c1 :: c2 :: some (r3, .cells (ints .u8 (twiceB g x y r).mm ++ jk).toArray 5 (0, 0)) :: some (b1, .cells (f.cells (.slice Af f.bs.length cf)).toArray 40 (0, 0)) :: some (b0, .cells ((twiceB g x y r).cells (.slice A0st g.st.length c0st) (.slice A0pg g.pg.length c0pg) (.slice (some ⟨r3, 0, none⟩) g.mm.length cap3)).toArray 29 (0, 0)) :: L ∧ (True)) (fun K25 hK25 => ?_) ?_
        · simp only [h8_3, h8_4, h8_7, h8_12, h8_13, h8_14, h8_15] at hK25
          simp (maxSteps:=1000000)(dsimp:=false)(disch:=omega) only [go_sem, Φa, hP, h8_3, h8_4, h8_7, h8_12, h8_13, h8_14, h8_15, hops]
          repeat' (first | refine iteB (fun hg => ?_) (fun hg => ?_) | refine iteI (fun hg => ?_) (fun hg => ?_) | ((first | refine And.intro (by omega) ?_ | refine ⟨_, Cell.at 0 rfl rfl, ?_⟩ | refine ⟨_, Cell.at 1 rfl rfl, ?_⟩ | refine ⟨_, Cell.at 2 rfl rfl, ?_⟩ | refine ⟨_, Cell.at 3 rfl rfl, ?_⟩ | refine ⟨_, Cell.at 4 rfl rfl, ?_⟩ | refine ⟨_, Cell.at 5 rfl rfl, ?_⟩ | refine ⟨_, Cell.at 6 rfl rfl, ?_⟩ | refine ⟨_, Cell.at 7 rfl rfl, ?_⟩ | refine ⟨_, Cell.at 8 rfl rfl, ?_⟩ | refine ⟨_, Cell.at 9 rfl rfl, ?_⟩ | fail); try (with_reducible refine stI ?_); try simp (maxSteps:=1000000)(dsimp:=false)(disch:=omega) only [go_sem, Φa, hP, h8_3, h8_4, h8_7, h8_12, h8_13, h8_14, h8_15, hops]) | fail)
          all_goals
            refine hK25 () _ (some (b13, .cells ((stepG (twiceB g x y r) f quietD).1.cells (.slice A1st (stepG (twiceB g x y r) f quietD).1.st.length c1st) (.slice A1pg (stepG (twiceB g x y r) f quietD).1.pg.length c1pg) (.slice A1mm (stepG (twiceB g x y r) f quietD).1.mm.length c1mm)).toArray 29 (0, 0)) :: n1 :: n2 :: n3 :: some (b12, .cells quietD.cells.toArray 50 (0, 0)) :: c1 :: c2 :: some (r3, .cells (ints .u8 (twiceB g x y r).mm ++ jk).toArray 5 (0, 0)) :: some (b1, .cells (f.cells (.slice Af f.bs.length cf)).toArray 40 (0, 0)) :: some (b0, .cells ((twiceB g x y r).cells (.slice A0st g.st.length c0st) (.slice A0pg g.pg.length c0pg) (.slice (some ⟨r3, 0, none⟩) g.mm.length cap3)).toArray 29 (0, 0)) :: L) _ (by first | exact Less.refl _ | exact Less.drop _ _ | exact Less.drops (Less.drop _ _) | exact Less.drops (Less.drops (Less.drop _ _)) | exact Less.drops (Less.drops (Less.drops (Less.drop _ _))) | exact Less.drops (Less.drops (Less.drops (Less.drops (Less.drop _ _))))) ?_
            try dsimp only
            refine ⟨?_, ?_, ?_, ?_, ?_, ?_, ?_, ?_, ?_, ?_⟩
            · simp (maxSteps:=1000000)(dsimp:=false)(disch:=omega) only [go_sem, Φa, hP, h8_3, h8_4, h8_7, h8_12, h8_13, h8_14, h8_15]
              first | done | (refine congrArg Value.bool ?_; simp_all; done)
            · simp (maxSteps:=1000000)(dsimp:=false)(disch:=omega) only [go_sem, Φa, hP, h8_3, h8_4, h8_7, h8_12, h8_13, h8_14, h8_15]
            · simp (maxSteps:=1000000)(dsimp:=false)(disch:=omega) only [go_sem, Φa, hP, h8_3, h8_4, h8_7, h8_12, h8_13, h8_14, h8_15]
            · simp (maxSteps:=1000000)(dsimp:=false)(disch:=omega) only [go_sem, Φa, hP, h8_3, h8_4, h8_7, h8_12, h8_13, h8_14, h8_15]
            · simp (maxSteps:=1000000)(dsimp:=false)(disch:=omega) only [go_sem, Φa, hP, h8_3, h8_4, h8_7, h8_12, h8_13, h8_14, h8_15]
            · simp (maxSteps:=1000000)(dsimp:=false)(disch:=omega) only [go_sem, Φa, hP, h8_3, h8_4, h8_7, h8_12, h8_13, h8_14, h8_15]
            · simp (maxSteps:=1000000)(dsimp:=false)(disch:=omega) only [go_sem, Φa, hP, h8_3, h8_4, h8_7, h8_12, h8_13, h8_14, h8_15]
            · simp (maxSteps:=1000000)(dsimp:=false)(disch:=omega) only [go_sem, Φa, hP, h8_3, h8_4, h8_7, h8_12, h8_13, h8_14, h8_15]
            · rfl
            · trivial
        · intro ss T9 L9 hI
          simp only [h8_3, h8_4, h8_7, h8_12, h8_13, h8_14, h8_15] at hI 
          obtain ⟨h9_81, h9_3, h9_4, h9_7, h9_12, h9_13, h9_14, h9_15, hL9, hinv⟩ := hI
          replace hL9 := hL9.symm
          subst hL9
          clear h8_3 h8_4 h8_7 h8_12 h8_13 h8_14 h8_15 T8
          refine RX.done ?_
          simp (maxSteps:=1000000)(dsimp:=false)(disch:=omega) only [go_sem, Φa, hP, h9_81, h9_3, h9_4, h9_7, h9_12, h9_13, h9_14, h9_15, hops]
          refine hK24 _ _ ?_
          try clear hK24 K24
          refine SX.cond_k fun X26 Y26 hX26 hY26 => ?_
          simp (maxSteps:=1000000)(dsimp:=false)(disch:=omega) only [go_sem, Φa, hP, h9_81, h9_3, h9_4, h9_7, h9_12, h9_13, h9_14, h9_15, condVC]
          refine ⟨fun hc81 => hX26 ?_, fun hc81 => hY26 ?_⟩
          · clear hX26 hY26 X26 Y26
            refine SX.seq_k fun K27 hK27 => ?_
            refine SX.region_xd [some 82, some 83, some 84, some 85, some 86, some 87, some 88, some 89, some 90, some 6] rfl (fun ops hops => ?_)
            unfold Dsts at hops
            refine RX.live [7, 14, 15] (fun T10 hT10 => ?_)
            simp only [forall_mem_cons', forall_mem_nil', go_sem, Φa, hP, h9_81, h9_3, h9_4, h9_7, h9_12, h9_13, h9_14, h9_15] at hT10
            obtain ⟨h10_7, h10_14, h10_15⟩ := hT10
            clear h9_81 h9_3 h9_4 h9_7 h9_12 h9_13 h9_14 h9_15 T9
            have hor : (stepG (twiceB g x y r) f quietD).2.2 = 1 ∨ (stepG (twiceB g x y r) f quietD).2.1 = 7 := by
              by_cases h0 : (stepG (twiceB g x y r) f quietD).2.2 = 0
              · rcases twice_all hfine hdig hF h0 with h | h
                · exact .inr h
                · simp [h0, h.1] at hc81
              · exact .inl (by rw [stepG_err hB.check h0])
            refine RX.join 9 (fun (ss : Unit) T L' => T 90 = .bool (true) ∧ L' = some (b13, .cells ((stepG (twiceB g x y r) f quietD).1.cells (.slice A1st (stepG (twiceB g x y r) f quietD).1.st.length c1st) (.slice A1pg (stepG (twiceB g x y r) f quietD).1.pg.length c1pg) (.slice A1mm (stepG (twiceB g x y r) f quietD).1.mm.length c1mm)).toArray 29 (0, 0)) :: n1 :: n2 :: n3 :: some (b12, .cells quietD.cells.toArray 50 (0, 0)) :: c1 :: c2 :: some (r3, .cells (ints .u8 (twiceB g x y r).mm ++ jk).toArray 5 (0, 0)) :: some (b1, .cells (f.cells (.slice Af f.bs.length cf)).toArray 40 (0, 0)) :: some (b0, .cells ((twiceB g x y r).cells (.slice A0st g.st.length c0st) (.slice A0pg g.pg.length c0pg) (.slice (some ⟨r3, 0, none⟩) g.mm.length cap3)).toArray 29 (0, 0)) :: L ∧ (True)) (fun K28 hK28 => ?_) ?_
            · simp (maxSteps:=1000000)(dsimp:=false)(disch:=omega) only [go_sem, Φa, hP, h10_7, h10_14, h10_15, hops]
              repeat' (first | refine iteB (fun hg => ?_) (fun hg => ?_) | refine iteI (fun hg => ?_) (fun hg => ?_) | ((first | refine And.intro (by omega) ?_ | refine ⟨_, Cell.at 0 rfl rfl, ?_⟩ | refine ⟨_, Cell.at 1 rfl rfl, ?_⟩ | refine ⟨_, Cell.at 2 rfl rfl, ?_⟩ | refine ⟨_, Cell.at 3 rfl rfl, ?_⟩ | refine ⟨_, Cell.at 4 rfl rfl, ?_⟩ | refine ⟨_, Cell.at 5 rfl rfl, ?_⟩ | refine ⟨_, Cell.at 6 rfl rfl, ?_⟩ | refine ⟨_, Cell.at 7 rfl rfl, ?_⟩ | refine ⟨_, Cell.at 8 rfl rfl, ?_⟩ | refine ⟨_, Cell.at 9 rfl rfl, ?_⟩ | fail); try (with_reducible refine stI ?_); try simp (maxSteps:=1000000)(dsimp:=false)(disch:=omega) only [go_sem, Φa, hP, h10_7, h10_14, h10_15, hops]) | fail)
              all_goals
                refine hK28 () _ (some (b13, .cells ((stepG (twiceB g x y r) f quietD).1.cells (.slice A1st (stepG (twiceB g x y r) f quietD).1.st.length c1st) (.slice A1pg (stepG (twiceB g x y r) f quietD).1.pg.length c1pg) (.slice A1mm (stepG (twiceB g x y r) f quietD).1.mm.length c1mm)).toArray 29 (0, 0)) :: n1 :: n2 :: n3 :: some (b12, .cells quietD.cells.toArray 50 (0, 0)) :: c1 :: c2 :: some (r3, .cells (ints .u8 (twiceB g x y r).mm ++ jk).toArray 5 (0, 0)) :: some (b1, .cells (f.cells (.slice Af f.bs.length cf)).toArray 40 (0, 0)) :: some (b0, .cells ((twiceB g x y r).cells (.slice A0st g.st.length c0st) (.slice A0pg g.pg.length c0pg) (.slice (some ⟨r3, 0, none⟩) g.mm.length cap3)).toArray 29 (0, 0)) :: L) _ (by first | exact Less.refl _ | exact Less.drop _ _ | exact Less.drops (Less.drop _ _) | exact Less.drops (Less.drops (Less.drop _ _)) | exact Less.drops (Less.drops (Less.drops (Less.drop _ _))) | exact Less.drops (Less.drops (Less.drops (Less.drops (Less.drop _ _))))) ?_
                try dsimp only
                refine ⟨?_, ?_, ?_⟩
                · simp (maxSteps:=1000000)(dsimp:=false)(disch:=omega) only [go_sem, Φa, hP, h10_7, h10_14, h10_15]
                  first | done | (refine congrArg Value.bool ?_; simp_all; done) | (rcases hor with h | h <;> simp_all; done)
                · rfl
                · trivial
            · intro ss T11 L11 hI
              obtain ⟨h11_90, hL11, hinv⟩ := hI
              replace hL11 := hL11.symm
              subst hL11
              clear h10_7 h10_14 h10_15 T10
              refine RX.done ?_
              simp (maxSteps:=1000000)(dsimp:=false)(disch:=omega) only [go_sem, Φa, hP, h11_90, hops]
              refine hK27 _ _ ?_
              try clear hK27 K27
              refine SX.ret ?_
              simp only [andThen_normal, andThen_ret, andThen_exit, inBlk_normal, inBlk_ret, inBlk_exit, Nat.reduceEqDiff, if_true, if_false, ↓reduceIte, retQ_ret]
              try simp only [res0, res1, res2, res3, stK_e, go_sem, Φa, hP, h11_90]
              exact ⟨_, _, Less.tail [_, _, _, _, _, _, _, _, _, _] _, rfl, rfl, rfl⟩
          · clear hX26 hY26 X26 Y26
            refine SX.skip ?_
            try simp only [andThen_normal, andThen_ret, andThen_exit, inBlk_normal, inBlk_ret, inBlk_exit, Nat.reduceEqDiff, if_true, if_false, ↓reduceIte]
            refine hK23 _ _ ?_
            try clear hK23 K23
            refine SX.seq_k fun K29 hK29 => ?_
            have hA0 : (stepG (twiceB g x y r) f quietD).2.2 = 0 ∧ (stepG (twiceB g x y r) f quietD).2.1 = 1 := by
              simp at hc81
              exact hc81
            obtain ⟨GA, GB, hs1', hs2', hfA, hfB, hpB, hvA, hvB, hiff⟩ : ∃ A B : GM, stepG (twiceB g x y r) f quietD = (A, 1, 0) ∧ stepG A f quietD = (B, 1, 0) ∧ Fine A ∧ Fine B ∧ B.pg = g.pg ∧ A.V.getD 15 0 ≤ 1 ∧ B.V.getD 15 0 ≤ 1 ∧ (A.pg = g.pg ↔ A.V.getD 15 0 = 0 ∧ B.V.getD 15 0 = 0) := by
              rcases twice_all hfine hdig hF hA0.1 with h | h
              · rw [hA0.2] at h
                exact absurd h (by decide)
              · exact h.2
            have eA : (stepG (twiceB g x y r) f quietD).1 = GA := by rw [hs1']
            have eB : stepG GA f quietD = (GB, 1, 0) := hs2'
            rw [eA] at hr1 ⊢
            have hfn : Fine GA := hfA
            have x1 := hfn.st
            have x2 := hfn.pg
            have x3 := hfn.mm
            refine SX.region_d [some 92, some 93, some 94, some 95, some 91, some 96, some 97, some 98, some 16, none, some 17, some 18] rfl (fun ops hops => ?_)
            unfold Dsts at hops
            simp (maxSteps:=1000000)(dsimp:=false)(disch:=omega) only [go_sem, Φa, hP, h9_81, h9_3, h9_4, h9_7, h9_12, h9_13, h9_14, h9_15, hops]
            refine ⟨_, Cell.at 0 rfl rfl, ?_⟩
            try with_reducible refine stI ?_
            try simp (maxSteps:=1000000)(dsimp:=false)(disch:=omega) only [go_sem, Φa, hP, h9_81, h9_3, h9_4, h9_7, h9_12, h9_13, h9_14, h9_15, hops]
            refine ⟨_, Cell.at 0 rfl rfl, ?_⟩
            try with_reducible refine stI ?_
            try simp (maxSteps:=1000000)(dsimp:=false)(disch:=omega) only [go_sem, Φa, hP, h9_81, h9_3, h9_4, h9_7, h9_12, h9_13, h9_14, h9_15, hops]
            refine ⟨_, Cell.at 0 rfl rfl, ?_⟩
            try with_reducible refine stI ?_
            try simp (maxSteps:=1000000)(dsimp:=false)(disch:=omega) only [go_sem, Φa, hP, h9_81, h9_3, h9_4, h9_7, h9_12, h9_13, h9_14, h9_15, hops]
            refine ⟨_, Cell.at 0 rfl rfl, ?_⟩
            try with_reducible refine stI ?_
            try simp (maxSteps:=1000000)(dsimp:=false)(disch:=omega) only [go_sem, Φa, hP, h9_81, h9_3, h9_4, h9_7, h9_12, h9_13, h9_14, h9_15, hops]
            refine ⟨_, Cell.at 0 rfl rfl, ?_⟩
            try with_reducible refine stI ?_
            try simp (maxSteps:=1000000)(dsimp:=false)(disch:=omega) only [go_sem, Φa, hP, h9_81, h9_3, h9_4, h9_7, h9_12, h9_13, h9_14, h9_15, hops]
            refine ⟨_, Cell.at 0 rfl rfl, ?_⟩
            try with_reducible refine stI ?_
            try simp (maxSteps:=1000000)(dsimp:=false)(disch:=omega) only [go_sem, Φa, hP, h9_81, h9_3, h9_4, h9_7, h9_12, h9_13, h9_14, h9_15, hops]
            refine ⟨_, Cell.at 0 rfl rfl, ?_⟩
            try with_reducible refine stI ?_
            try simp (maxSteps:=1000000)(dsimp:=false)(disch:=omega) only [go_sem, Φa, hP, h9_81, h9_3, h9_4, h9_7, h9_12, h9_13, h9_14, h9_15, hops]
            refine ⟨_, Cell.at 0 rfl rfl, ?_⟩
            try with_reducible refine stI ?_
            try simp (maxSteps:=1000000)(dsimp:=false)(disch:=omega) only [go_sem, Φa, hP, h9_81, h9_3, h9_4, h9_7, h9_12, h9_13, h9_14, h9_15, hops]
            refine ⟨_, Cell.at 0 rfl rfl, ?_⟩
            try with_reducible refine stI ?_
            try simp (maxSteps:=1000000)(dsimp:=false)(disch:=omega) only [go_sem, Φa, hP, h9_81, h9_3, h9_4, h9_7, h9_12, h9_13, h9_14, h9_15, hops]
            refine ⟨_, Cell.at 0 rfl rfl, ?_⟩
            try with_reducible refine stI ?_
            try simp (maxSteps:=1000000)(dsimp:=false)(disch:=omega) only [go_sem, Φa, hP, h9_81, h9_3, h9_4, h9_7, h9_12, h9_13, h9_14, h9_15, hops]
            refine ⟨_, Cell.at 0 rfl rfl, ?_⟩
            try with_reducible refine stI ?_
            try simp (maxSteps:=1000000)(dsimp:=false)(disch:=omega) only [go_sem, Φa, hP, h9_81, h9_3, h9_4, h9_7, h9_12, h9_13, h9_14, h9_15, hops]
            refine ⟨_, Cell.at 0 rfl rfl, ?_⟩
            try with_reducible refine stI ?_
            try simp (maxSteps:=1000000)(dsimp:=false)(disch:=omega) only [go_sem, Φa, hP, h9_81, h9_3, h9_4, h9_7, h9_12, h9_13, h9_14, h9_15, hops]
            refine ⟨_, Cell.at 0 rfl rfl, ?_⟩
            try with_reducible refine stI ?_
            try simp (maxSteps:=1000000)(dsimp:=false)(disch:=omega) only [go_sem, Φa, hP, h9_81, h9_3, h9_4, h9_7, h9_12, h9_13, h9_14, h9_15, hops]
            refine ⟨_, Cell.at 0 rfl rfl, ?_⟩
            try with_reducible refine stI ?_
            try simp (maxSteps:=1000000)(dsimp:=false)(disch:=omega) only [go_sem, Φa, hP, h9_81, h9_3, h9_4, h9_7, h9_12, h9_13, h9_14, h9_15, hops]
            refine ⟨_, Cell.at 0 rfl rfl, ?_⟩
            try with_reducible refine stI ?_
            try simp (maxSteps:=1000000)(dsimp:=false)(disch:=omega) only [go_sem, Φa, hP, h9_81, h9_3, h9_4, h9_7, h9_12, h9_13, h9_14, h9_15, hops]
            refine ⟨_, Cell.at 0 rfl rfl, ?_⟩
            try with_reducible refine stI ?_
            try simp (maxSteps:=1000000)(dsimp:=false)(disch:=omega) only [go_sem, Φa, hP, h9_81, h9_3, h9_4, h9_7, h9_12, h9_13, h9_14, h9_15, hops]
            refine ⟨_, Cell.at 0 rfl rfl, ?_⟩
            try with_reducible refine stI ?_
            try simp (maxSteps:=1000000)(dsimp:=false)(disch:=omega) only [go_sem, Φa, hP, h9_81, h9_3, h9_4, h9_7, h9_12, h9_13, h9_14, h9_15, hops]
            refine ⟨_, Cell.at 0 rfl rfl, ?_⟩
            try with_reducible refine stI ?_
            try simp (maxSteps:=1000000)(dsimp:=false)(disch:=omega) only [go_sem, Φa, hP, h9_81, h9_3, h9_4, h9_7, h9_12, h9_13, h9_14, h9_15, hops]
            refine ⟨_, Cell.at 0 rfl rfl, ?_⟩
            try with_reducible refine stI ?_
            try simp (maxSteps:=1000000)(dsimp:=false)(disch:=omega) only [go_sem, Φa, hP, h9_81, h9_3, h9_4, h9_7, h9_12, h9_13, h9_14, h9_15, hops]
            refine ⟨_, Cell.at 0 rfl rfl, ?_⟩
            try with_reducible refine stI ?_
            try simp (maxSteps:=1000000)(dsimp:=false)(disch:=omega) only [go_sem, Φa, hP, h9_81, h9_3, h9_4, h9_7, h9_12, h9_13, h9_14, h9_15, hops]
            refine ⟨_, Cell.at 0 rfl rfl, ?_⟩
            try with_reducible refine stI ?_
            try simp (maxSteps:=1000000)(dsimp:=false)(disch:=omega) only [go_sem, Φa, hP, h9_81, h9_3, h9_4, h9_7, h9_12, h9_13, h9_14, h9_15, hops]
            refine ⟨_, Cell.at 0 rfl rfl, ?_⟩
            try with_reducible refine stI ?_
            try simp (maxSteps:=1000000)(dsimp:=false)(disch:=omega) only [go_sem, Φa, hP, h9_81, h9_3, h9_4, h9_7, h9_12, h9_13, h9_14, h9_15, hops]
            refine ⟨_, Cell.at 0 rfl rfl, ?_⟩
            try with_reducible refine stI ?_
            try simp (maxSteps:=1000000)(dsimp:=false)(disch:=omega) only [go_sem, Φa, hP, h9_81, h9_3, h9_4, h9_7, h9_12, h9_13, h9_14, h9_15, hops]
            refine ⟨_, Cell.at 8 rfl rfl, ?_⟩
            try with_reducible refine stI ?_
            try simp (maxSteps:=1000000)(dsimp:=false)(disch:=omega) only [go_sem, Φa, hP, h9_81, h9_3, h9_4, h9_7, h9_12, h9_13, h9_14, h9_15, hops]
            refine ⟨_, Cell.at 8 rfl rfl, ?_⟩
            try with_reducible refine stI ?_
            try simp (maxSteps:=1000000)(dsimp:=false)(disch:=omega) only [go_sem, Φa, hP, h9_81, h9_3, h9_4, h9_7, h9_12, h9_13, h9_14, h9_15, hops]
            refine ⟨_, Cell.at 8 rfl rfl, ?_⟩
            try with_reducible refine stI ?_
            try simp (maxSteps:=1000000)(dsimp:=false)(disch:=omega) only [go_sem, Φa, hP, h9_81, h9_3, h9_4, h9_7, h9_12, h9_13, h9_14, h9_15, hops]
            refine ⟨_, Cell.at 8 rfl rfl, ?_⟩
            try with_reducible refine stI ?_
            try simp (maxSteps:=1000000)(dsimp:=false)(disch:=omega) only [go_sem, Φa, hP, h9_81, h9_3, h9_4, h9_7, h9_12, h9_13, h9_14, h9_15, hops]
            refine ⟨_, Cell.at 8 rfl rfl, ?_⟩
            try with_reducible refine stI ?_
            try simp (maxSteps:=1000000)(dsimp:=false)(disch:=omega) only [go_sem, Φa, hP, h9_81, h9_3, h9_4, h9_7, h9_12, h9_13, h9_14, h9_15, hops]
            refine ⟨_, Cell.at 8 rfl rfl, ?_⟩
            try with_reducible refine stI ?_
            try simp (maxSteps:=1000000)(dsimp:=false)(disch:=omega) only [go_sem, Φa, hP, h9_81, h9_3, h9_4, h9_7, h9_12, h9_13, h9_14, h9_15, hops]
            refine ⟨_, Cell.at 8 rfl rfl, ?_⟩
            try with_reducible refine stI ?_
            try simp (maxSteps:=1000000)(dsimp:=false)(disch:=omega) only [go_sem, Φa, hP, h9_81, h9_3, h9_4, h9_7, h9_12, h9_13, h9_14, h9_15, hops]
            refine ⟨_, Cell.at 8 rfl rfl, ?_⟩
            try with_reducible refine stI ?_
            try simp (maxSteps:=1000000)(dsimp:=false)(disch:=omega) only [go_sem, Φa, hP, h9_81, h9_3, h9_4, h9_7, h9_12, h9_13, h9_14, h9_15, hops]
            refine ⟨_, Cell.at 8 rfl rfl, ?_⟩
            try with_reducible refine stI ?_
            try simp (maxSteps:=1000000)(dsimp:=false)(disch:=omega) only [go_sem, Φa, hP, h9_81, h9_3, h9_4, h9_7, h9_12, h9_13, h9_14, h9_15, hops]
            refine ⟨_, Cell.at 8 rfl rfl, ?_⟩
            try with_reducible refine stI ?_
            try simp (maxSteps:=1000000)(dsimp:=false)(disch:=omega) only [go_sem, Φa, hP, h9_81, h9_3, h9_4, h9_7, h9_12, h9_13, h9_14, h9_15, hops]
            refine ⟨_, Cell.at 8 rfl rfl, ?_⟩
            try with_reducible refine stI ?_
            try simp (maxSteps:=1000000)(dsimp:=false)(disch:=omega) only [go_sem, Φa, hP, h9_81, h9_3, h9_4, h9_7, h9_12, h9_13, h9_14, h9_15, hops]
            refine ⟨_, Cell.at 8 rfl rfl, ?_⟩
            try with_reducible refine stI ?_
            try simp (maxSteps:=1000000)(dsimp:=false)(disch:=omega) only [go_sem, Φa, hP, h9_81, h9_3, h9_4, h9_7, h9_12, h9_13, h9_14, h9_15, hops]
            refine ⟨_, Cell.at 8 rfl rfl, ?_⟩
            try with_reducible refine stI ?_
            try simp (maxSteps:=1000000)(dsimp:=false)(disch:=omega) only [go_sem, Φa, hP, h9_81, h9_3, h9_4, h9_7, h9_12, h9_13, h9_14, h9_15, hops]
            refine ⟨_, Cell.at 8 rfl rfl, ?_⟩
            try with_reducible refine stI ?_
            try simp (maxSteps:=1000000)(dsimp:=false)(disch:=omega) only [go_sem, Φa, hP, h9_81, h9_3, h9_4, h9_7, h9_12, h9_13, h9_14, h9_15, hops]
            refine ⟨_, Cell.at 8 rfl rfl, ?_⟩
            try with_reducible refine stI ?_
            try simp (maxSteps:=1000000)(dsimp:=false)(disch:=omega) only [go_sem, Φa, hP, h9_81, h9_3, h9_4, h9_7, h9_12, h9_13, h9_14, h9_15, hops]
            refine ⟨_, Cell.at 8 rfl rfl, ?_⟩
            try with_reducible refine stI ?_
            try simp (maxSteps:=1000000)(dsimp:=false)(disch:=omega) only [go_sem, Φa, hP, h9_81, h9_3, h9_4, h9_7, h9_12, h9_13, h9_14, h9_15, hops]
            refine ⟨_, Cell.at 8 rfl rfl, ?_⟩
            try with_reducible refine stI ?_
            try simp (maxSteps:=1000000)(dsimp:=false)(disch:=omega) only [go_sem, Φa, hP, h9_81, h9_3, h9_4, h9_7, h9_12, h9_13, h9_14, h9_15, hops]
            refine ⟨_, Cell.at 8 rfl rfl, ?_⟩
            try with_reducible refine stI ?_
            try simp (maxSteps:=1000000)(dsimp:=false)(disch:=omega) only [go_sem, Φa, hP, h9_81, h9_3, h9_4, h9_7, h9_12, h9_13, h9_14, h9_15, hops]
            refine ⟨_, Cell.at 4 rfl rfl, ?_⟩
            try with_reducible refine stI ?_
            try simp (maxSteps:=1000000)(dsimp:=false)(disch:=omega) only [go_sem, Φa, hP, h9_81, h9_3, h9_4, h9_7, h9_12, h9_13, h9_14, h9_15, hops]
            refine ⟨_, Cell.at 4 rfl rfl, ?_⟩
            try with_reducible refine stI ?_
            try simp (maxSteps:=1000000)(dsimp:=false)(disch:=omega) only [go_sem, Φa, hP, h9_81, h9_3, h9_4, h9_7, h9_12, h9_13, h9_14, h9_15, hops]
            refine ⟨_, Cell.at 4 rfl rfl, ?_⟩
            try with_reducible refine stI ?_
            try simp (maxSteps:=1000000)(dsimp:=false)(disch:=omega) only [go_sem, Φa, hP, h9_81, h9_3, h9_4, h9_7, h9_12, h9_13, h9_14, h9_15, hops]
            refine SCall.mono (show SCall Γ 25 _ _ (stepR (GB, 1, 0) _) from eB ▸ Step_spec (g := GA) (f := f) (d := quietD) hP hfn.ok hF quietD_ok (RowI.sl hr1.st (i := 1) rfl) (RowI.sl hr1.pg (i := 2) rfl) (RowI.sl hr1.mm (i := 3) rfl) (SlI.any hf) (by omega) (by omega) (by omega) (by omega)) ?_
            rintro v_ L_ ⟨sv2, pv2, mv2, p1, p2, p3, rfl, rfl, hr2⟩
            obtain ⟨A2st, c2st, rfl, hc2st⟩ := rowShape hr2.st
            obtain ⟨A2pg, c2pg, rfl, hc2pg⟩ := rowShape hr2.pg
            obtain ⟨A2mm, c2mm, rfl, hc2mm⟩ := rowShape hr2.mm
            unfold GM.cells
            try with_reducible refine stI ?_
            try simp (maxSteps:=1000000)(dsimp:=false)(disch:=omega) only [go_sem, Φa, hP, h9_81, h9_3, h9_4, h9_7, h9_12, h9_13, h9_14, h9_15, hops]
            intro b16
            try with_reducible refine stI ?_
            try simp (maxSteps:=1000000)(dsimp:=false)(disch:=omega) only [go_sem, Φa, hP, h9_81, h9_3, h9_4, h9_7, h9_12, h9_13, h9_14, h9_15, hops]
            refine ⟨0, _, _, _, rfl, by decide, .inr (by decide), ?_⟩
            try with_reducible refine stI ?_
            try simp (maxSteps:=1000000)(dsimp:=false)(disch:=omega) only [go_sem, Φa, hP, h9_81, h9_3, h9_4, h9_7, h9_12, h9_13, h9_14, h9_15, hops]
            refine hK29 _ _ ?_
            try clear hK29 K29
            refine SX.live [3, 7, 13, 16, 17] (fun T12 hT12 => ?_)
            simp only [forall_mem_cons', forall_mem_nil', go_sem, Φa, hP, h9_81, h9_3, h9_4, h9_7, h9_12, h9_13, h9_14, h9_15] at hT12
            obtain ⟨h12_3, h12_7, h12_13, h12_16, h12_17⟩ := hT12
            clear h9_81 h9_3 h9_4 h9_7 h9_12 h9_13 h9_14 h9_15 T9
            refine SX.seq_k fun K30 hK30 => ?_
            refine SX.region_xd [some 99, some 100, some 101, some 102, some 103, some 104, some 105, some 106, some 107, some 108, some 109, some 110, some 111, some 112, some 113, some 114, some 115, some 116, some 117, some 118, some 119, some 120, some 121, some 122, some 123, some 124, some 125, some 126, some 127, some 128, some 129, some 130, some 131, some 132, some 133, some 134, some 135, some 136, some 137, some 138, some 139, some 140, some 141, some 142, some 143, some 144, some 6] rfl (fun ops hops => ?_)
            unfold Dsts at hops
            refine RX.live [3, 7, 13, 16, 17] (fun T13 hT13 => ?_)
            simp only [forall_mem_cons', forall_mem_nil', go_sem, Φa, hP, h12_3, h12_7, h12_13, h12_16, h12_17] at hT13
            obtain ⟨h13_3, h13_7, h13_13, h13_16, h13_17⟩ := hT13
            clear h12_3 h12_7 h12_13 h12_16 h12_17 T12
            have hy1 : Byte GA.pg := hfA.ok.pg
            have hy2 : Byte GB.pg := hfB.ok.pg
            have hS2 : SlI .u8 (Cell Γ (some (b16, .cells (GB.cells (.slice A2st GB.st.length c2st) (.slice A2pg GB.pg.length c2pg) (.slice A2mm GB.mm.length c2mm)).toArray 29 (0, 0)) :: p1 :: p2 :: p3 :: some (b13, .cells (GA.cells (.slice A1st GA.st.length c1st) (.slice A1pg GA.pg.length c1pg) (.slice A1mm GA.mm.length c1mm)).toArray 29 (0, 0)) :: n1 :: n2 :: n3 :: some (b12, .cells quietD.cells.toArray 50 (0, 0)) :: c1 :: c2 :: some (r3, .cells (ints .u8 (twiceB g x y r).mm ++ jk).toArray 5 (0, 0)) :: some (b1, .cells (f.cells (.slice Af f.bs.length cf)).toArray 40 (0, 0)) :: some (b0, .cells ((twiceB g x y r).cells (.slice A0st g.st.length c0st) (.slice A0pg g.pg.length c0pg) (.slice (some ⟨r3, 0, none⟩) g.mm.length cap3)).toArray 29 (0, 0)) :: L)) (.slice A2pg GB.pg.length c2pg) GB.pg := RowI.sl hr2.pg (i := 2) rfl
            have hS1 : SlI .u8 (Cell Γ (some (b16, .cells (GB.cells (.slice A2st GB.st.length c2st) (.slice A2pg GB.pg.length c2pg) (.slice A2mm GB.mm.length c2mm)).toArray 29 (0, 0)) :: p1 :: p2 :: p3 :: some (b13, .cells (GA.cells (.slice A1st GA.st.length c1st) (.slice A1pg GA.pg.length c1pg) (.slice A1mm GA.mm.length c1mm)).toArray 29 (0, 0)) :: n1 :: n2 :: n3 :: some (b12, .cells quietD.cells.toArray 50 (0, 0)) :: c1 :: c2 :: some (r3, .cells (ints .u8 (twiceB g x y r).mm ++ jk).toArray 5 (0, 0)) :: some (b1, .cells (f.cells (.slice Af f.bs.length cf)).toArray 40 (0, 0)) :: some (b0, .cells ((twiceB g x y r).cells (.slice A0st g.st.length c0st) (.slice A0pg g.pg.length c0pg) (.slice (some ⟨r3, 0, none⟩) g.mm.length cap3)).toArray 29 (0, 0)) :: L)) (.slice A1pg GA.pg.length c1pg) GA.pg := RowI.sl hr1.pg (i := 6) rfl
            have hS0 : SlI .u8 (Cell Γ (some (b16, .cells (GB.cells (.slice A2st GB.st.length c2st) (.slice A2pg GB.pg.length c2pg) (.slice A2mm GB.mm.length c2mm)).toArray 29 (0, 0)) :: p1 :: p2 :: p3 :: some (b13, .cells (GA.cells (.slice A1st GA.st.length c1st) (.slice A1pg GA.pg.length c1pg) (.slice A1mm GA.mm.length c1mm)).toArray 29 (0, 0)) :: n1 :: n2 :: n3 :: some (b12, .cells quietD.cells.toArray 50 (0, 0)) :: c1 :: c2 :: some (r3, .cells (ints .u8 (twiceB g x y r).mm ++ jk).toArray 5 (0, 0)) :: some (b1, .cells (f.cells (.slice Af f.bs.length cf)).toArray 40 (0, 0)) :: some (b0, .cells ((twiceB g x y r).cells (.slice A0st g.st.length c0st) (.slice A0pg g.pg.length c0pg) (.slice (some ⟨r3, 0, none⟩) g.mm.length cap3)).toArray 29 (0, 0)) :: L)) (.slice A0pg g.pg.length c0pg) g.pg := RowI.sl hr.pg (i := 10) rfl
            have k1 : (txt GB.pg = txt g.pg) = True := by rw [hpB]; exact eq_true rfl
            have k4 : txt GA.pg = txt g.pg ↔ GA.V.getD 15 0 = 0 ∧ GB.V.getD 15 0 = 0 := by rw [txtEq hy1 hg.pg]; exact hiff
            refine RX.join 5 (fun (ss : Unit) T L' => T 103 = .bool (true) ∧ T 3 = T13 3 ∧ T 13 = T13 13 ∧ T 16 = T13 16 ∧ L' = some (b16, .cells (GB.cells (.slice A2st GB.st.length c2st) (.slice A2pg GB.pg.length c2pg) (.slice A2mm GB.mm.length c2mm)).toArray 29 (0, 0)) :: p1 :: p2 :: p3 :: some (b13, .cells (GA.cells (.slice A1st GA.st.length c1st) (.slice A1pg GA.pg.length c1pg) (.slice A1mm GA.mm.length c1mm)).toArray 29 (0, 0)) :: n1 :: n2 :: n3 :: some (b12, .cells quietD.cells.toArray 50 (0, 0)) :: c1 :: c2 :: some (r3, .cells (ints .u8 (twiceB g x y r).mm ++ jk).toArray 5 (0, 0)) :: some (b1, .cells (f.cells (.slice Af f.bs.length cf)).toArray 40 (0, 0)) :: some (b0, .cells ((twiceB g x y r).cells (.slice A0st g.st.length c0st) (.slice A0pg g.pg.length c0pg) (.slice (some ⟨r3, 0, none⟩) g.mm.length cap3)).toArray 29 (0, 0)) :: L ∧ (True)) (fun K31 hK31 => ?_) ?_
            · simp only [h13_3, h13_13, h13_16] at hK31
              simp (maxSteps:=1000000)(dsimp:=false)(disch:=omega) only [go_sem, Φa, hP, h13_3, h13_7, h13_13, h13_16, h13_17, hops, k1]
              repeat' (first | refine iteB (fun hg => ?_) (fun hg => ?_) | refine iteI (fun hg => ?_) (fun hg => ?_) | ((first | ((with_reducible show convVCH _ _ _ (.slice A2pg _ _) _ _ _ _ _ _); refine conv_row (hP ▸ Try.underlying23) (hP ▸ Try.underlying9) (hP ▸ Try.underlying5) hS2 hy2 ?_) | ((with_reducible show convVCH _ _ _ (.slice A1pg _ _) _ _ _ _ _ _); refine conv_row (hP ▸ Try.underlying23) (hP ▸ Try.underlying9) (hP ▸ Try.underlying5) hS1 hy1 ?_) | ((with_reducible show convVCH _ _ _ (.slice A0pg _ _) _ _ _ _ _ _); refine conv_row (hP ▸ Try.underlying23) (hP ▸ Try.underlying9) (hP ▸ Try.underlying5) hS0 hg.pg ?_) | refine And.intro (by omega) ?_ | refine ⟨_, Cell.at 0 rfl rfl, ?_⟩ | refine ⟨_, Cell.at 1 rfl rfl, ?_⟩ | refine ⟨_, Cell.at 2 rfl rfl, ?_⟩ | refine ⟨_, Cell.at 3 rfl rfl, ?_⟩ | refine ⟨_, Cell.at 4 rfl rfl, ?_⟩ | refine ⟨_, Cell.at 5 rfl rfl, ?_⟩ | refine ⟨_, Cell.at 6 rfl rfl, ?_⟩ | refine ⟨_, Cell.at 7 rfl rfl, ?_⟩ | refine ⟨_, Cell.at 8 rfl rfl, ?_⟩ | refine ⟨_, Cell.at 9 rfl rfl, ?_⟩ | refine ⟨_, Cell.at 10 rfl rfl, ?_⟩ | refine ⟨_, Cell.at 11 rfl rfl, ?_⟩ | refine ⟨_, Cell.at 12 rfl rfl, ?_⟩ | refine ⟨_, Cell.at 13 rfl rfl, ?_⟩ | fail); try (with_reducible refine stI ?_); try simp (maxSteps:=1000000)(dsimp:=false)(disch:=omega) only [go_sem, Φa, hP, h13_3, h13_7, h13_13, h13_16, h13_17, hops, k1]) | simp (maxSteps:=1000000)(dsimp:=false)(disch:=omega) only [go_sem, Φa, hP, h13_3, h13_7, h13_13, h13_16, h13_17, hops, k1] | fail)
              all_goals
                refine hK31 () _ (some (b16, .cells (GB.cells (.slice A2st GB.st.length c2st) (.slice A2pg GB.pg.length c2pg) (.slice A2mm GB.mm.length c2mm)).toArray 29 (0, 0)) :: p1 :: p2 :: p3 :: some (b13, .cells (GA.cells (.slice A1st GA.st.length c1st) (.slice A1pg GA.pg.length c1pg) (.slice A1mm GA.mm.length c1mm)).toArray 29 (0, 0)) :: n1 :: n2 :: n3 :: some (b12, .cells quietD.cells.toArray 50 (0, 0)) :: c1 :: c2 :: some (r3, .cells (ints .u8 (twiceB g x y r).mm ++ jk).toArray 5 (0, 0)) :: some (b1, .cells (f.cells (.slice Af f.bs.length cf)).toArray 40 (0, 0)) :: some (b0, .cells ((twiceB g x y r).cells (.slice A0st g.st.length c0st) (.slice A0pg g.pg.length c0pg) (.slice (some ⟨r3, 0, none⟩) g.mm.length cap3)).toArray 29 (0, 0)) :: L) _ (by first | exact Less.refl _ | exact Less.drop _ _ | exact Less.drops (Less.drop _ _) | exact Less.drops (Less.drops (Less.drop _ _)) | exact Less.drops (Less.drops (Less.drops (Less.drop _ _))) | exact Less.drops (Less.drops (Less.drops (Less.drops (Less.drop _ _))))) ?_
                try dsimp only
                refine ⟨?_, ?_, ?_, ?_, ?_, ?_⟩
                · simp (maxSteps:=1000000)(dsimp:=false)(disch:=omega) only [go_sem, Φa, hP, h13_3, h13_7, h13_13, h13_16, h13_17]
                  first | done | exact congrArg Value.bool (beq_same k4) | (refine congrArg Value.bool ?_; simp_all; done)
                · simp (maxSteps:=1000000)(dsimp:=false)(disch:=omega) only [go_sem, Φa, hP, h13_3, h13_7, h13_13, h13_16, h13_17]
                · simp (maxSteps:=1000000)(dsimp:=false)(disch:=omega) only [go_sem, Φa, hP, h13_3, h13_7, h13_13, h13_16, h13_17]
                · simp (maxSteps:=1000000)(dsimp:=false)(disch:=omega) only [go_sem, Φa, hP, h13_3, h13_7, h13_13, h13_16, h13_17]
                · rfl
                · trivial
            · intro ss T14 L14 hI
              simp only [h13_3, h13_13, h13_16] at hI 
              obtain ⟨h14_103, h14_3, h14_13, h14_16, hL14, hinv⟩ := hI
              replace hL14 := hL14.symm
              subst hL14
              clear h13_3 h13_7 h13_13 h13_16 h13_17 T13
              refine RX.live [3, 13, 16, 103] (fun T15 hT15 => ?_)
              simp only [forall_mem_cons', forall_mem_nil', go_sem, Φa, hP, h14_103, h14_3, h14_13, h14_16] at hT15
              obtain ⟨h15_3, h15_13, h15_16, h15_103⟩ := hT15
              clear h14_103 h14_3 h14_13 h14_16 T14
              refine RX.join 9 (fun (ss : Unit) T L' => T 112 = .bool (true) ∧ T 3 = T15 3 ∧ T 13 = T15 13 ∧ T 16 = T15 16 ∧ L' = some (b16, .cells (GB.cells (.slice A2st GB.st.length c2st) (.slice A2pg GB.pg.length c2pg) (.slice A2mm GB.mm.length c2mm)).toArray 29 (0, 0)) :: p1 :: p2 :: p3 :: some (b13, .cells (GA.cells (.slice A1st GA.st.length c1st) (.slice A1pg GA.pg.length c1pg) (.slice A1mm GA.mm.length c1mm)).toArray 29 (0, 0)) :: n1 :: n2 :: n3 :: some (b12, .cells quietD.cells.toArray 50 (0, 0)) :: c1 :: c2 :: some (r3, .cells (ints .u8 (twiceB g x y r).mm ++ jk).toArray 5 (0, 0)) :: some (b1, .cells (f.cells (.slice Af f.bs.length cf)).toArray 40 (0, 0)) :: some (b0, .cells ((twiceB g x y r).cells (.slice A0st g.st.length c0st) (.slice A0pg g.pg.length c0pg) (.slice (some ⟨r3, 0, none⟩) g.mm.length cap3)).toArray 29 (0, 0)) :: L ∧ (True)) (fun K32 hK32 => ?_) ?_
              · simp only [h15_3, h15_13, h15_16] at hK32
                simp (maxSteps:=1000000)(dsimp:=false)(disch:=omega) only [go_sem, Φa, hP, h15_3, h15_13, h15_16, h15_103, hops, k1]
                repeat' (first | refine iteB (fun hg => ?_) (fun hg => ?_) | refine iteI (fun hg => ?_) (fun hg => ?_) | ((first | ((with_reducible show convVCH _ _ _ (.slice A2pg _ _) _ _ _ _ _ _); refine conv_row (hP ▸ Try.underlying23) (hP ▸ Try.underlying9) (hP ▸ Try.underlying5) hS2 hy2 ?_) | ((with_reducible show convVCH _ _ _ (.slice A1pg _ _) _ _ _ _ _ _); refine conv_row (hP ▸ Try.underlying23) (hP ▸ Try.underlying9) (hP ▸ Try.underlying5) hS1 hy1 ?_) | ((with_reducible show convVCH _ _ _ (.slice A0pg _ _) _ _ _ _ _ _); refine conv_row (hP ▸ Try.underlying23) (hP ▸ Try.underlying9) (hP ▸ Try.underlying5) hS0 hg.pg ?_) | refine And.intro (by omega) ?_ | refine ⟨_, Cell.at 0 rfl rfl, ?_⟩ | refine ⟨_, Cell.at 1 rfl rfl, ?_⟩ | refine ⟨_, Cell.at 2 rfl rfl, ?_⟩ | refine ⟨_, Cell.at 3 rfl rfl, ?_⟩ | refine ⟨_, Cell.at 4 rfl rfl, ?_⟩ | refine ⟨_, Cell.at 5 rfl rfl, ?_⟩ | refine ⟨_, Cell.at 6 rfl rfl, ?_⟩ | refine ⟨_, Cell.at 7 rfl rfl, ?_⟩ | refine ⟨_, Cell.at 8 rfl rfl, ?_⟩ | refine ⟨_, Cell.at 9 rfl rfl, ?_⟩ | refine ⟨_, Cell.at 10 rfl rfl, ?_⟩ | refine ⟨_, Cell.at 11 rfl rfl, ?_⟩ | refine ⟨_, Cell.at 12 rfl rfl, ?_⟩ | refine ⟨_, Cell.at 13 rfl rfl, ?_⟩ | fail); try (with_reducible refine stI ?_); try simp (maxSteps:=1000000)(dsimp:=false)(disch:=omega) only [go_sem, Φa, hP, h15_3, h15_13, h15_16, h15_103, hops, k1]) | simp (maxSteps:=1000000)(dsimp:=false)(disch:=omega) only [go_sem, Φa, hP, h15_3, h15_13, h15_16, h15_103, hops, k1] | fail)
                all_goals
                  refine hK32 () _ (some (b16, .cells (GB.cells (.slice A2st GB.st.length c2st) (.slice A2pg GB.pg.length c2pg) (.slice A2mm GB.mm.length c2mm)).toArray 29 (0, 0)) :: p1 :: p2 :: p3 :: some (b13, .cells (GA.cells (.slice A1st GA.st.length c1st) (.slice A1pg GA.pg.length c1pg) (.slice A1mm GA.mm.length c1mm)).toArray 29 (0, 0)) :: n1 :: n2 :: n3 :: some (b12, .cells quietD.cells.toArray 50 (0, 0)) :: c1 :: c2 :: some (r3, .cells (ints .u8 (twiceB g x y r).mm ++ jk).toArray 5 (0, 0)) :: some (b1, .cells (f.cells (.slice Af f.bs.length cf)).toArray 40 (0, 0)) :: some (b0, .cells ((twiceB g x y r).cells (.slice A0st g.st.length c0st) (.slice A0pg g.pg.length c0pg) (.slice (some ⟨r3, 0, none⟩) g.mm.length cap3)).toArray 29 (0, 0)) :: L) _ (by first | exact Less.refl _ | exact Less.drop _ _ | exact Less.drops (Less.drop _ _) | exact Less.drops (Less.drops (Less.drop _ _)) | exact Less.drops (Less.drops (Less.drops (Less.drop _ _))) | exact Less.drops (Less.drops (Less.drops (Less.drops (Less.drop _ _))))) ?_
                  try dsimp only
                  refine ⟨?_, ?_, ?_, ?_, ?_, ?_⟩
                  · simp (maxSteps:=1000000)(dsimp:=false)(disch:=omega) only [go_sem, Φa, hP, h15_3, h15_13, h15_16, h15_103]
                    first | done | exact congrArg Value.bool (beq_same k4) | (refine congrArg Value.bool ?_; simp_all; done)
                  · simp (maxSteps:=1000000)(dsimp:=false)(disch:=omega) only [go_sem, Φa, hP, h15_3, h15_13, h15_16, h15_103]
                  · simp (maxSteps:=1000000)(dsimp:=false)(disch:=omega) only [go_sem, Φa, hP, h15_3, h15_13, h15_16, h15_103]
                  · simp (maxSteps:=1000000)(dsimp:=false)(disch:=omega) only [go_sem, Φa, hP, h15_3, h15_13, h15_16, h15_103]
                  · rfl
                  · trivial
              · intro ss T16 L16 hI
                simp only [h15_3, h15_13, h15_16] at hI 
                obtain ⟨h16_112, h16_3, h16_13, h16_16, hL16, hinv⟩ := hI
                replace hL16 := hL16.symm
                subst hL16
                clear h15_3 h15_13 h15_16 h15_103 T15
                refine RX.live [3, 13, 16, 112] (fun T17 hT17 => ?_)
                simp only [forall_mem_cons', forall_mem_nil', go_sem, Φa, hP, h16_112, h16_3, h16_13, h16_16] at hT17
                obtain ⟨h17_3, h17_13, h17_16, h17_112⟩ := hT17
                clear h16_112 h16_3 h16_13 h16_16 T16
                refine RX.join 6 (fun (ss : Unit) T L' => T 118 = .bool (true) ∧ T 3 = T17 3 ∧ T 13 = T17 13 ∧ T 16 = T17 16 ∧ L' = some (b16, .cells (GB.cells (.slice A2st GB.st.length c2st) (.slice A2pg GB.pg.length c2pg) (.slice A2mm GB.mm.length c2mm)).toArray 29 (0, 0)) :: p1 :: p2 :: p3 :: some (b13, .cells (GA.cells (.slice A1st GA.st.length c1st) (.slice A1pg GA.pg.length c1pg) (.slice A1mm GA.mm.length c1mm)).toArray 29 (0, 0)) :: n1 :: n2 :: n3 :: some (b12, .cells quietD.cells.toArray 50 (0, 0)) :: c1 :: c2 :: some (r3, .cells (ints .u8 (twiceB g x y r).mm ++ jk).toArray 5 (0, 0)) :: some (b1, .cells (f.cells (.slice Af f.bs.length cf)).toArray 40 (0, 0)) :: some (b0, .cells ((twiceB g x y r).cells (.slice A0st g.st.length c0st) (.slice A0pg g.pg.length c0pg) (.slice (some ⟨r3, 0, none⟩) g.mm.length cap3)).toArray 29 (0, 0)) :: L ∧ (True)) (fun K33 hK33 => ?_) ?_
                · simp only [h17_3, h17_13, h17_16] at hK33
                  simp (maxSteps:=1000000)(dsimp:=false)(disch:=omega) only [go_sem, Φa, hP, h17_3, h17_13, h17_16, h17_112, hops, k1]
                  repeat' (first | refine iteB (fun hg => ?_) (fun hg => ?_) | refine iteI (fun hg => ?_) (fun hg => ?_) | ((first | ((with_reducible show convVCH _ _ _ (.slice A2pg _ _) _ _ _ _ _ _); refine conv_row (hP ▸ Try.underlying23) (hP ▸ Try.underlying9) (hP ▸ Try.underlying5) hS2 hy2 ?_) | ((with_reducible show convVCH _ _ _ (.slice A1pg _ _) _ _ _ _ _ _); refine conv_row (hP ▸ Try.underlying23) (hP ▸ Try.underlying9) (hP ▸ Try.underlying5) hS1 hy1 ?_) | ((with_reducible show convVCH _ _ _ (.slice A0pg _ _) _ _ _ _ _ _); refine conv_row (hP ▸ Try.underlying23) (hP ▸ Try.underlying9) (hP ▸ Try.underlying5) hS0 hg.pg ?_) | refine And.intro (by omega) ?_ | refine ⟨_, Cell.at 0 rfl rfl, ?_⟩ | refine ⟨_, Cell.at 1 rfl rfl, ?_⟩ | refine ⟨_, Cell.at 2 rfl rfl, ?_⟩ | refine ⟨_, Cell.at 3 rfl rfl, ?_⟩ | refine ⟨_, Cell.at 4 rfl rfl, ?_⟩ | refine ⟨_, Cell.at 5 rfl rfl, ?_⟩ | refine ⟨_, Cell.at 6 rfl rfl, ?_⟩ | refine ⟨_, Cell.at 7 rfl rfl, ?_⟩ | refine ⟨_, Cell.at 8 rfl rfl, ?_⟩ | refine ⟨_, Cell.at 9 rfl rfl, ?_⟩ | refine ⟨_, Cell.at 10 rfl rfl, ?_⟩ | refine ⟨_, Cell.at 11 rfl rfl, ?_⟩ | refine ⟨_, Cell.at 12 rfl rfl, ?_⟩ | refine ⟨_, Cell.at 13 rfl rfl, ?_⟩ | fail); try (with_reducible refine stI ?_); try simp (maxSteps:=1000000)(dsimp:=false)(disch:=omega) only [go_sem, Φa, hP, h17_3, h17_13, h17_16, h17_112, hops, k1]) | simp (maxSteps:=1000000)(dsimp:=false)(disch:=omega) only [go_sem, Φa, hP, h17_3, h17_13, h17_16, h17_112, hops, k1] | fail)
                  all_goals
                    refine hK33 () _ (some (b16, .cells (GB.cells (.slice A2st GB.st.length c2st) (.slice A2pg GB.pg.length c2pg) (.slice A2mm GB.mm.length c2mm)).toArray 29 (0, 0)) :: p1 :: p2 :: p3 :: some (b13, .cells (GA.cells (.slice A1st GA.st.length c1st) (.slice A1pg GA.pg.length c1pg) (.slice A1mm GA.mm.length c1mm)).toArray 29 (0, 0)) :: n1 :: n2 :: n3 :: some (b12, .cells quietD.cells.toArray 50 (0, 0)) :: c1 :: c2 :: some (r3, .cells (ints .u8 (twiceB g x y r).mm ++ jk).toArray 5 (0, 0)) :: some (b1, .cells (f.cells (.slice Af f.bs.length cf)).toArray 40 (0, 0)) :: some (b0, .cells ((twiceB g x y r).cells (.slice A0st g.st.length c0st) (.slice A0pg g.pg.length c0pg) (.slice (some ⟨r3, 0, none⟩) g.mm.length cap3)).toArray 29 (0, 0)) :: L) _ (by first | exact Less.refl _ | exact Less.drop _ _ | exact Less.drops (Less.drop _ _) | exact Less.drops (Less.drops (Less.drop _ _)) | exact Less.drops (Less.drops (Less.drops (Less.drop _ _))) | exact Less.drops (Less.drops (Less.drops (Less.drops (Less.drop _ _))))) ?_
                    try dsimp only
                    refine ⟨?_, ?_, ?_, ?_, ?_, ?_⟩
                    · simp (maxSteps:=1000000)(dsimp:=false)(disch:=omega) only [go_sem, Φa, hP, h17_3, h17_13, h17_16, h17_112]
                      first | done | exact congrArg Value.bool (beq_same k4) | (refine congrArg Value.bool ?_; simp_all; done)
                    · simp (maxSteps:=1000000)(dsimp:=false)(disch:=omega) only [go_sem, Φa, hP, h17_3, h17_13, h17_16, h17_112]
                    · simp (maxSteps:=1000000)(dsimp:=false)(disch:=omega) only [go_sem, Φa, hP, h17_3, h17_13, h17_16, h17_112]
                    · simp (maxSteps:=1000000)(dsimp:=false)(disch:=omega) only [go_sem, Φa, hP, h17_3, h17_13, h17_16, h17_112]
                    · rfl
                    · trivial
                · intro ss T18 L18 hI
                  simp only [h17_3, h17_13, h17_16] at hI 
                  obtain ⟨h18_118, h18_3, h18_13, h18_16, hL18, hinv⟩ := hI
                  replace hL18 := hL18.symm
                  subst hL18
                  clear h17_3 h17_13 h17_16 h17_112 T17
                  refine RX.live [3, 13, 16, 118] (fun T19 hT19 => ?_)
                  simp only [forall_mem_cons', forall_mem_nil', go_sem, Φa, hP, h18_118, h18_3, h18_13, h18_16] at hT19
                  obtain ⟨h19_3, h19_13, h19_16, h19_118⟩ := hT19
                  clear h18_118 h18_3 h18_13 h18_16 T18
                  refine RX.join 6 (fun (ss : Unit) T L' => T 124 = .bool (true) ∧ T 3 = T19 3 ∧ T 13 = T19 13 ∧ T 16 = T19 16 ∧ L' = some (b16, .cells (GB.cells (.slice A2st GB.st.length c2st) (.slice A2pg GB.pg.length c2pg) (.slice A2mm GB.mm.length c2mm)).toArray 29 (0, 0)) :: p1 :: p2 :: p3 :: some (b13, .cells (GA.cells (.slice A1st GA.st.length c1st) (.slice A1pg GA.pg.length c1pg) (.slice A1mm GA.mm.length c1mm)).toArray 29 (0, 0)) :: n1 :: n2 :: n3 :: some (b12, .cells quietD.cells.toArray 50 (0, 0)) :: c1 :: c2 :: some (r3, .cells (ints .u8 (twiceB g x y r).mm ++ jk).toArray 5 (0, 0)) :: some (b1, .cells (f.cells (.slice Af f.bs.length cf)).toArray 40 (0, 0)) :: some (b0, .cells ((twiceB g x y r).cells (.slice A0st g.st.length c0st) (.slice A0pg g.pg.length c0pg) (.slice (some ⟨r3, 0, none⟩) g.mm.length cap3)).toArray 29 (0, 0)) :: L ∧ (True)) (fun K34 hK34 => ?_) ?_
                  · simp only [h19_3, h19_13, h19_16] at hK34
                    simp (maxSteps:=1000000)(dsimp:=false)(disch:=omega) only [go_sem, Φa, hP, h19_3, h19_13, h19_16, h19_118, hops, k1]
                    repeat' (first | refine iteB (fun hg => ?_) (fun hg => ?_) | refine iteI (fun hg => ?_) (fun hg => ?_) | ((first | ((with_reducible show convVCH _ _ _ (.slice A2pg _ _) _ _ _ _ _ _); refine conv_row (hP ▸ Try.underlying23) (hP ▸ Try.underlying9) (hP ▸ Try.underlying5) hS2 hy2 ?_) | ((with_reducible show convVCH _ _ _ (.slice A1pg _ _) _ _ _ _ _ _); refine conv_row (hP ▸ Try.underlying23) (hP ▸ Try.underlying9) (hP ▸ Try.underlying5) hS1 hy1 ?_) | ((with_reducible show convVCH _ _ _ (.slice A0pg _ _) _ _ _ _ _ _); refine conv_row (hP ▸ Try.underlying23) (hP ▸ Try.underlying9) (hP ▸ Try.underlying5) hS0 hg.pg ?_) | refine And.intro (by omega) ?_ | refine ⟨_, Cell.at 0 rfl rfl, ?_⟩ | refine ⟨_, Cell.at 1 rfl rfl, ?_⟩ | refine ⟨_, Cell.at 2 rfl rfl, ?_⟩ | refine ⟨_, Cell.at 3 rfl rfl, ?_⟩ | refine ⟨_, Cell.at 4 rfl rfl, ?_⟩ | refine ⟨_, Cell.at 5 rfl rfl, ?_⟩ | refine ⟨_, Cell.at 6 rfl rfl, ?_⟩ | refine ⟨_, Cell.at 7 rfl rfl, ?_⟩ | refine ⟨_, Cell.at 8 rfl rfl, ?_⟩ | refine ⟨_, Cell.at 9 rfl rfl, ?_⟩ | refine ⟨_, Cell.at 10 rfl rfl, ?_⟩ | refine ⟨_, Cell.at 11 rfl rfl, ?_⟩ | refine ⟨_, Cell.at 12 rfl rfl, ?_⟩ | refine ⟨_, Cell.at 13 rfl rfl, ?_⟩ | fail); try (with_reducible refine stI ?_); try simp (maxSteps:=1000000)(dsimp:=false)(disch:=omega) only [go_sem, Φa, hP, h19_3, h19_13, h19_16, h19_118, hops, k1]) | simp (maxSteps:=1000000)(dsimp:=false)(disch:=omega) only [go_sem, Φa, hP, h19_3, h19_13, h19_16, h19_118, hops, k1] | fail)
                    all_goals
                      refine hK34 () _ (some (b16, .cells (GB.cells (.slice A2st GB.st.length c2st) (.slice A2pg GB.pg.length c2pg) (.slice A2mm GB.mm.length c2mm)).toArray 29 (0, 0)) :: p1 :: p2 :: p3 :: some (b13, .cells (GA.cells (.slice A1st GA.st.length c1st) (.slice A1pg GA.pg.length c1pg) (.slice A1mm GA.mm.length c1mm)).toArray 29 (0, 0)) :: n1 :: n2 :: n3 :: some (b12, .cells quietD.cells.toArray 50 (0, 0)) :: c1 :: c2 :: some (r3, .cells (ints .u8 (twiceB g x y r).mm ++ jk).toArray 5 (0, 0)) :: some (b1, .cells (f.cells (.slice Af f.bs.length cf)).toArray 40 (0, 0)) :: some (b0, .cells ((twiceB g x y r).cells (.slice A0st g.st.length c0st) (.slice A0pg g.pg.length c0pg) (.slice (some ⟨r3, 0, none⟩) g.mm.length cap3)).toArray 29 (0, 0)) :: L) _ (by first | exact Less.refl _ | exact Less.drop _ _ | exact Less.drops (Less.drop _ _) | exact Less.drops (Less.drops (Less.drop _ _)) | exact Less.drops (Less.drops (Less.drops (Less.drop _ _))) | exact Less.drops (Less.drops (Less.drops (Less.drops (Less.drop _ _))))) ?_
                      try dsimp only
                      refine ⟨?_, ?_, ?_, ?_, ?_, ?_⟩
                      · simp (maxSteps:=1000000)(dsimp:=false)(disch:=omega) only [go_sem, Φa, hP, h19_3, h19_13, h19_16, h19_118]
                        first | done | exact congrArg Value.bool (beq_same k4) | (refine congrArg Value.bool ?_; simp_all; done)
                      · simp (maxSteps:=1000000)(dsimp:=false)(disch:=omega) only [go_sem, Φa, hP, h19_3, h19_13, h19_16, h19_118]
                      · simp (maxSteps:=1000000)(dsimp:=false)(disch:=omega) only [go_sem, Φa, hP, h19_3, h19_13, h19_16, h19_118]
                      · simp (maxSteps:=1000000)(dsimp:=false)(disch:=omega) only [go_sem, Φa, hP, h19_3, h19_13, h19_16, h19_118]
                      · rfl
                      · trivial
                  · intro ss T20 L20 hI
                    simp only [h19_3, h19_13, h19_16] at hI 
                    obtain ⟨h20_124, h20_3, h20_13, h20_16, hL20, hinv⟩ := hI
                    replace hL20 := hL20.symm
                    subst hL20
                    clear h19_3 h19_13 h19_16 h19_118 T19
                    refine RX.live [3, 13, 16, 124] (fun T21 hT21 => ?_)
                    simp only [forall_mem_cons', forall_mem_nil', go_sem, Φa, hP, h20_124, h20_3, h20_13, h20_16] at hT21
                    obtain ⟨h21_3, h21_13, h21_16, h21_124⟩ := hT21
                    clear h20_124 h20_3 h20_13 h20_16 T20
                    refine RX.join 18 (fun (ss : Unit) T L' => T 125 = .bool true ∧ T 132 = .bool (decide (txt GA.pg = txt g.pg)) ∧ T 142 = .bool (decide (GA.V.getD 15 0 = 0) && decide (GB.V.getD 15 0 = 0)) ∧ L' = some (b16, .cells (GB.cells (.slice A2st GB.st.length c2st) (.slice A2pg GB.pg.length c2pg) (.slice A2mm GB.mm.length c2mm)).toArray 29 (0, 0)) :: p1 :: p2 :: p3 :: some (b13, .cells (GA.cells (.slice A1st GA.st.length c1st) (.slice A1pg GA.pg.length c1pg) (.slice A1mm GA.mm.length c1mm)).toArray 29 (0, 0)) :: n1 :: n2 :: n3 :: some (b12, .cells quietD.cells.toArray 50 (0, 0)) :: c1 :: c2 :: some (r3, .cells (ints .u8 (twiceB g x y r).mm ++ jk).toArray 5 (0, 0)) :: some (b1, .cells (f.cells (.slice Af f.bs.length cf)).toArray 40 (0, 0)) :: some (b0, .cells ((twiceB g x y r).cells (.slice A0st g.st.length c0st) (.slice A0pg g.pg.length c0pg) (.slice (some ⟨r3, 0, none⟩) g.mm.length cap3)).toArray 29 (0, 0)) :: L ∧ (True)) (fun K35 hK35 => ?_) ?_
                    · simp (maxSteps:=1000000)(dsimp:=false)(disch:=omega) only [go_sem, Φa, hP, h21_3, h21_13, h21_16, h21_124, hops, k1]
                      repeat' (first | refine iteB (fun hg => ?_) (fun hg => ?_) | refine iteI (fun hg => ?_) (fun hg => ?_) | ((first | ((with_reducible show convVCH _ _ _ (.slice A2pg _ _) _ _ _ _ _ _); refine conv_row (hP ▸ Try.underlying23) (hP ▸ Try.underlying9) (hP ▸ Try.underlying5) hS2 hy2 ?_) | ((with_reducible show convVCH _ _ _ (.slice A1pg _ _) _ _ _ _ _ _); refine conv_row (hP ▸ Try.underlying23) (hP ▸ Try.underlying9) (hP ▸ Try.underlying5) hS1 hy1 ?_) | ((with_reducible show convVCH _ _ _ (.slice A0pg _ _) _ _ _ _ _ _); refine conv_row (hP ▸ Try.underlying23) (hP ▸ Try.underlying9) (hP ▸ Try.underlying5) hS0 hg.pg ?_) | refine And.intro (by omega) ?_ | refine ⟨_, Cell.at 0 rfl rfl, ?_⟩ | refine ⟨_, Cell.at 1 rfl rfl, ?_⟩ | refine ⟨_, Cell.at 2 rfl rfl, ?_⟩ | refine ⟨_, Cell.at 3 rfl rfl, ?_⟩ | refine ⟨_, Cell.at 4 rfl rfl, ?_⟩ | refine ⟨_, Cell.at 5 rfl rfl, ?_⟩ | refine ⟨_, Cell.at 6 rfl rfl, ?_⟩ | refine ⟨_, Cell.at 7 rfl rfl, ?_⟩ | refine ⟨_, Cell.at 8 rfl rfl, ?_⟩ | refine ⟨_, Cell.at 9 rfl rfl, ?_⟩ | refine ⟨_, Cell.at 10 rfl rfl, ?_⟩ | refine ⟨_, Cell.at 11 rfl rfl, ?_⟩ | refine ⟨_, Cell.at 12 rfl rfl, ?_⟩ | refine ⟨_, Cell.at 13 rfl rfl, ?_⟩ | fail); try (with_reducible refine stI ?_); try simp (maxSteps:=1000000)(dsimp:=false)(disch:=omega) only [go_sem, Φa, hP, h21_3, h21_13, h21_16, h21_124, hops, k1]) | simp (maxSteps:=1000000)(dsimp:=false)(disch:=omega) only [go_sem, Φa, hP, h21_3, h21_13, h21_16, h21_124, hops, k1] | fail)
                      all_goals
                        refine hK35 () _ (some (b16, .cells (GB.cells (.slice A2st GB.st.length c2st) (.slice A2pg GB.pg.length c2pg) (.slice A2mm GB.mm.length c2mm)).toArray 29 (0, 0)) :: p1 :: p2 :: p3 :: some (b13, .cells (GA.cells (.slice A1st GA.st.length c1st) (.slice A1pg GA.pg.length c1pg) (.slice A1mm GA.mm.length c1mm)).toArray 29 (0, 0)) :: n1 :: n2 :: n3 :: some (b12, .cells quietD.cells.toArray 50 (0, 0)) :: c1 :: c2 :: some (r3, .cells (ints .u8 (twiceB g x y r).mm ++ jk).toArray 5 (0, 0)) :: some (b1, .cells (f.cells (.slice Af f.bs.length cf)).toArray 40 (0, 0)) :: some (b0, .cells ((twiceB g x y r).cells (.slice A0st g.st.length c0st) (.slice A0pg g.pg.length c0pg) (.slice (some ⟨r3, 0, none⟩) g.mm.length cap3)).toArray 29 (0, 0)) :: L) _ (by first | exact Less.refl _ | exact Less.drop _ _ | exact Less.drops (Less.drop _ _) | exact Less.drops (Less.drops (Less.drop _ _)) | exact Less.drops (Less.drops (Less.drops (Less.drop _ _))) | exact Less.drops (Less.drops (Less.drops (Less.drops (Less.drop _ _))))) ?_
                        try dsimp only
                        refine ⟨?_, ?_, ?_, ?_, ?_⟩
                        · simp (maxSteps:=1000000)(dsimp:=false)(disch:=omega) only [go_sem, Φa, hP, h21_3, h21_13, h21_16, h21_124]
                          first | done | exact congrArg Value.bool (beq_same k4) | (refine congrArg Value.bool ?_; simp_all; done)
                        · simp (maxSteps:=1000000)(dsimp:=false)(disch:=omega) only [go_sem, Φa, hP, h21_3, h21_13, h21_16, h21_124]
                          first | done | exact congrArg Value.bool (beq_same k4) | (refine congrArg Value.bool ?_; simp_all; done)
                        · simp (maxSteps:=1000000)(dsimp:=false)(disch:=omega) only [go_sem, Φa, hP, h21_3, h21_13, h21_16, h21_124]
                          first | done | exact congrArg Value.bool (beq_same k4) | (refine congrArg Value.bool ?_; simp_all; done)
                        · rfl
                        · trivial
                    · intro ss T22 L22 hI
                      obtain ⟨h22_125, h22_132, h22_142, hL22, hinv⟩ := hI
                      replace hL22 := hL22.symm
                      subst hL22
                      clear h21_3 h21_13 h21_16 h21_124 T21
                      refine RX.live [125, 132, 142] (fun T23 hT23 => ?_)
                      simp only [forall_mem_cons', forall_mem_nil', go_sem, Φa, hP, h22_125, h22_132, h22_142] at hT23
                      obtain ⟨h23_125, h23_132, h23_142⟩ := hT23
                      clear h22_125 h22_132 h22_142 T22
                      refine RX.join 2 (fun (ss : Unit) T L' => T 144 = .bool (true) ∧ L' = some (b16, .cells (GB.cells (.slice A2st GB.st.length c2st) (.slice A2pg GB.pg.length c2pg) (.slice A2mm GB.mm.length c2mm)).toArray 29 (0, 0)) :: p1 :: p2 :: p3 :: some (b13, .cells (GA.cells (.slice A1st GA.st.length c1st) (.slice A1pg GA.pg.length c1pg) (.slice A1mm GA.mm.length c1mm)).toArray 29 (0, 0)) :: n1 :: n2 :: n3 :: some (b12, .cells quietD.cells.toArray 50 (0, 0)) :: c1 :: c2 :: some (r3, .cells (ints .u8 (twiceB g x y r).mm ++ jk).toArray 5 (0, 0)) :: some (b1, .cells (f.cells (.slice Af f.bs.length cf)).toArray 40 (0, 0)) :: some (b0, .cells ((twiceB g x y r).cells (.slice A0st g.st.length c0st) (.slice A0pg g.pg.length c0pg) (.slice (some ⟨r3, 0, none⟩) g.mm.length cap3)).toArray 29 (0, 0)) :: L ∧ (True)) (fun K36 hK36 => ?_) ?_
                      · simp (maxSteps:=1000000)(dsimp:=false)(disch:=omega) only [go_sem, Φa, hP, h23_125, h23_132, h23_142, hops, k1]
                        repeat' (first | refine iteB (fun hg => ?_) (fun hg => ?_) | refine iteI (fun hg => ?_) (fun hg => ?_) | ((first | ((with_reducible show convVCH _ _ _ (.slice A2pg _ _) _ _ _ _ _ _); refine conv_row (hP ▸ Try.underlying23) (hP ▸ Try.underlying9) (hP ▸ Try.underlying5) hS2 hy2 ?_) | ((with_reducible show convVCH _ _ _ (.slice A1pg _ _) _ _ _ _ _ _); refine conv_row (hP ▸ Try.underlying23) (hP ▸ Try.underlying9) (hP ▸ Try.underlying5) hS1 hy1 ?_) | ((with_reducible show convVCH _ _ _ (.slice A0pg _ _) _ _ _ _ _ _); refine conv_row (hP ▸ Try.underlying23) (hP ▸ Try.underlying9) (hP ▸ Try.underlying5) hS0 hg.pg ?_) | refine And.intro (by omega) ?_ | refine ⟨_, Cell.at 0 rfl rfl, ?_⟩ | refine ⟨_, Cell.at 1 rfl rfl, ?_⟩ | refine ⟨_, Cell.at 2 rfl rfl, ?_⟩ | refine ⟨_, Cell.at 3 rfl rfl, ?_⟩ | refine ⟨_, Cell.at 4 rfl rfl, ?_⟩ | refine ⟨_, Cell.at 5 rfl rfl, ?_⟩ | refine ⟨_, Cell.at 6 rfl rfl, ?_⟩ | refine ⟨_, Cell.at 7 rfl rfl, ?_⟩ | refine ⟨_, Cell.at 8 rfl rfl, ?_⟩ | refine ⟨_, Cell.at 9 rfl rfl, ?_⟩ | refine ⟨_, Cell.at 10 rfl rfl, ?_⟩ | refine ⟨_, Cell.at 11 rfl rfl, ?_⟩ | refine ⟨_, Cell.at 12 rfl rfl, ?_⟩ | refine ⟨_, Cell.at 13 rfl rfl, ?_⟩ | fail); try (with_reducible refine stI ?_); try simp (maxSteps:=1000000)(dsimp:=false)(disch:=omega) only [go_sem, Φa, hP, h23_125, h23_132, h23_142, hops, k1]) | simp (maxSteps:=1000000)(dsimp:=false)(disch:=omega) only [go_sem, Φa, hP, h23_125, h23_132, h23_142, hops, k1] | fail)
                        all_goals
                          refine hK36 () _ (some (b16, .cells (GB.cells (.slice A2st GB.st.length c2st) (.slice A2pg GB.pg.length c2pg) (.slice A2mm GB.mm.length c2mm)).toArray 29 (0, 0)) :: p1 :: p2 :: p3 :: some (b13, .cells (GA.cells (.slice A1st GA.st.length c1st) (.slice A1pg GA.pg.length c1pg) (.slice A1mm GA.mm.length c1mm)).toArray 29 (0, 0)) :: n1 :: n2 :: n3 :: some (b12, .cells quietD.cells.toArray 50 (0, 0)) :: c1 :: c2 :: some (r3, .cells (ints .u8 (twiceB g x y r).mm ++ jk).toArray 5 (0, 0)) :: some (b1, .cells (f.cells (.slice Af f.bs.length cf)).toArray 40 (0, 0)) :: some (b0, .cells ((twiceB g x y r).cells (.slice A0st g.st.length c0st) (.slice A0pg g.pg.length c0pg) (.slice (some ⟨r3, 0, none⟩) g.mm.length cap3)).toArray 29 (0, 0)) :: L) _ (by first | exact Less.refl _ | exact Less.drop _ _ | exact Less.drops (Less.drop _ _) | exact Less.drops (Less.drops (Less.drop _ _)) | exact Less.drops (Less.drops (Less.drops (Less.drop _ _))) | exact Less.drops (Less.drops (Less.drops (Less.drops (Less.drop _ _))))) ?_
                          try dsimp only
                          refine ⟨?_, ?_, ?_⟩
                          · simp (maxSteps:=1000000)(dsimp:=false)(disch:=omega) only [go_sem, Φa, hP, h23_125, h23_132, h23_142]
                            first | done | exact congrArg Value.bool (beq_same k4) | (refine congrArg Value.bool ?_; simp_all; done)
                          · rfl
                          · trivial
                      · intro ss T24 L24 hI
                        obtain ⟨h24_144, hL24, hinv⟩ := hI
                        replace hL24 := hL24.symm
                        subst hL24
                        clear h23_125 h23_132 h23_142 T23
                        refine RX.done ?_
                        simp (maxSteps:=1000000)(dsimp:=false)(disch:=omega) only [go_sem, Φa, hP, h24_144, hops]
                        refine hK30 _ _ ?_
                        try clear hK30 K30
                        refine SX.ret ?_
                        simp only [andThen_normal, andThen_ret, andThen_exit, inBlk_normal, inBlk_ret, inBlk_exit, Nat.reduceEqDiff, if_true, if_false, ↓reduceIte, retQ_ret]
                        try simp only [res0, res1, res2, res3, stK_e, go_sem, Φa, hP, h24_144]
                        exact ⟨_, _, Less.tail [_, _, _, _, _, _, _, _, _, _, _, _, _, _] _, rfl, rfl, rfl⟩

end Go.Proofs.Ytgioegdjeodpiaa
set_option linter.unusedVariables false
namespace Go.Proofs.Ytgioegdjeodpiaa
open Go.ChangeShapes Go.WideShapes Go.ChangeAt Go.RowKit Go.SX
set_option maxRecDepth 100000 in
theorem gameTwice_lifted (os : Os) (started : os.Started) (H : Type) (enc : TypeId × Value → H) :
    ReturnsInHanded {} Try.checked os 7 .any (Rows.gameTwiceSpec.pre6 enc Try.prog Try.f7 Rows.gameTwiceRow.domain false) (Rows.gameTwiceSpec.post enc Try.prog Try.f7 false true false false) := by
  refine law_lifted (C := Try.checked) (tb := 4) own started (by kernel_rfl) Try.func7
    (ChangeSpec.witness6 (enc := enc) (C := Try.checked) false ⟨#[], #[.agg #[.int .u8 0, .int .u8 0, .int .u8 0, .int .u8 0, .int .u8 0, .int .u8 0, .int .u8 0, .int .u8 0, .int .u8 0, .int .u8 0, .int .u8 0, .int .u8 0, .int .u8 0, .int .u8 0, .int .u8 0, .int .u8 0, .int .u16 0, .int .u16 0, .slice none 0 0, .int .u8 0, .int .u8 0, .slice none 0 0, .slice none 0 0], .agg #[.int .u16 0, .int .u16 0, .int .u16 0, .int .u16 0, .int .u16 0, .int .u16 0, .int .u16 0, .int .u16 0, .int .u16 0, .int .u16 0, .int .u16 0, .int .u16 0, .int .u16 0, .int .u16 0, .int .u16 0, .int .u16 0, .int .u16 0, .slice none 0 0], .int .i64 0], []⟩ 8 (by kernel_rfl) (by kernel_rfl) (by kernel_rfl) (by kernel_rfl)) rfl laidOut (by kernel_rfl) rfl Try.underlying4 ?_ ?_
  · intro ds hl
    match ds, hl with
    | [d0, d1, d2], _ => rfl
  · intro W base args ds p hval hA
    rw [Try.params7] at hA hval
    obtain ⟨v0, v1, v2, d0, d1, d2, p0, p1, p2, rfl, rfl, rfl, h0, h1, h2⟩ := trodAll_three hA
    have k0 := hval 0 29 v0 rfl rfl
    obtain ⟨g, sv, pv, mv, rfl, hg, hs, hp, hmv, ls, lp, lm⟩ := open_game k0 h0
    have k1 := hval 1 40 v1 rfl rfl
    obtain ⟨f, fv, rfl, hF, hf, lf⟩ := open_font k1 h1
    have k2 := hval 2 3 v2 rfl rfl
    obtain ⟨a0, rfl⟩ := okWide_int Try.underlying3 k2
    obtain ⟨fu2, hfu2⟩ := h2
    obtain ⟨a, ea, wa⟩ := open_int1 Try.underlying3 hfu2
    cases ea
    have hm : (maxLen : Nat) = 9223372036854775807 := rfl
    exact SCall.below (GameTwice_spec rfl (bi64 wa) hg hF hs hp hmv hf)
theorem gameTwice_said : Rows.GameTwiceSaid :=
  OpenClaim.holds_of_wide 7 Try.f7 rfl rfl rfl rfl rfl rfl rfl ⟨rfl, rfl, rfl, rfl, rfl⟩ rfl rfl rfl rfl rfl (by kernel_rfl) Try.func7 (by kernel_rfl)
    (of_decide_eq_true (by kernel_rfl)) (by unfold Func.isWrapper; first | (rw [if_pos (by decide +kernel)]; kernel_rfl) | (rw [if_neg (by decide +kernel)]; exact ⟨rfl, rfl⟩))
    (fun os started H enc _ => gameTwice_lifted os started H enc)
#print axioms gameTwice_said
end Go.Proofs.Ytgioegdjeodpiaa
